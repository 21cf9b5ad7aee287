/- Part of the proof of one law of the seat. -/
import Derived.Test.YtipkniadbkndfaaGreatDoorFr02
import Derived.Test.YtipkniadbkndfaaGreatDoorProg
import Derived.KernelRfl
import Derived.Deep.Slices
import Derived.WideKeyArgs
import Derived.OpenShut
import Derived.Test.YtipkniadbkndfaaGreatDoorRows
import Derived.Lib.LaidTab
import Derived.Lib.LaidU8
import Derived.Stop.LaidErr
import Derived.MakeChecks
set_option linter.unusedVariables false
set_option linter.unusedSectionVars false
set_option linter.unusedSimpArgs false
set_option maxRecDepth 100000
set_option maxHeartbeats 40000000
namespace Go.Proofs.YtipkniadbkndfaaGreatDoor
open Go Go.RowKit
noncomputable abbrev pg:=Tryz.prog
abbrev eA l:=D.sl 1 (List.map D.str l)
abbrev eB l:=D.sl 1 (List.map D.int l)
abbrev eC l:=D.sl 2 (List.map Range.enc l)
abbrev eD l:=D.sl 6 (List.map Table.enc l)
abbrev eE l:=D.sl 6 (List.map Constraint.enc l)
abbrev eF l:=D.sl 3 (List.map zt7.enc l)
abbrev eG l:=D.sl 5 (List.map Action.enc l)
abbrev eH l:=D.sl 3 (List.map Hide.enc l)
abbrev eI l:=D.sl 2 (List.map Term.enc l)
abbrev eJ l:=D.sl 1 (List.map eB l)
abbrev eK l:=D.sl 1 (List.map D.bool l)
abbrev eL l:=D.sl 2 (List.map Row.enc l)
abbrev eM l:=D.sl 3 (List.map ztR.enc l)
abbrev eN l:=D.sl 1 (List.map eL l)
abbrev eO l:=D.sl 4 (List.map Token.enc l)
theorem D.Les.e {d:D} {a b:List D} (h:D.Les a b):D.Les (d::a) (d::b):=.cons (.refl _) h
theorem D.Les.o {k:Nat} {a b:List D} (h:D.Les a b):D.Les (.val (.slice none 0 0)::a) (.sl k []::b):=.cons (.nil _) h
theorem D.Les.e1 {d:D}:D.Les [d] [d]:=.e .nil
theorem D.Les.o1 {k:Nat}:D.Les [.val (.slice none 0 0)] [.sl k []]:=.o .nil
theorem zvt.v {H:List Blk} {ids:List Nat} {d:D} {a:List V} {b:List D} (h:zvt H ids a b):zvt H ids (.d d::a) (d::b):=.cons (.d _) h
theorem Frzs.v {H:List Blk} {d:D} {a:List V} {b:List D} (h:Frzs H a b):Frzs H (.d d::a) (d::b):=.cons (.d _) h
theorem Frzs.v1 {H:List Blk} {d:D}:Frzs H [.d d] [d]:=.v .nil
theorem zvt.v1 {H:List Blk} {ids:List Nat} {d:D}:zvt H ids [.d d] [d]:=.v .nil
abbrev Kx1 [ztC] [Drw] {α γ:Type} (i:FuncId) (f:Nat→α→Option γ) (a:α→D) (e:γ→D):Prop:=∀ n t0 r,f n t0=some r→Pure pg i [a t0] (e r)
abbrev Kx2 [ztC] [Drw] {α β γ:Type} (i:FuncId) (f:Nat→α→β→Option γ) (a:α→D) (b:β→D) (e:γ→D):Prop:=∀ n t0 t1 r,f n t0 t1=some r→Pure pg i [a t0,b t1] (e r)
abbrev Kx3 [ztC] [Drw] {α β δ γ:Type} (i:FuncId) (f:Nat→α→β→δ→Option γ) (a:α→D) (b:β→D) (c:δ→D) (e:γ→D):Prop:=∀ n t0 t1 t2 r,f n t0 t1 t2=some r→Pure pg i [a t0,b t1,c t2] (e r)
abbrev Kx4 [ztC] [Drw] {α β δ ε γ:Type} (i:FuncId) (f:Nat→α→β→δ→ε→Option γ) (a:α→D) (b:β→D) (c:δ→D) (d:ε→D) (e:γ→D):Prop:=∀ n t0 t1 t2 t3 r,f n t0 t1 t2 t3=some r→Pure pg i [a t0,b t1,c t2,d t3] (e r)
theorem ZL40:D.Le (.val (.agg #[(.int .i64 0),(.slice none 0 0),(.int .i64 0),(.int .i64 0),(.slice none 0 0)])) (Tree.enc ⟨0,[],0,0,[]⟩):=by
 rw [Tree.zvH];exact .ofAgg (.cons (.refl _) (.cons (.nil _) (.cons (.refl _) (.cons (.refl _) (.cons (.nil _) (.nil))))))
theorem IB317:zwU pg 317:=⟨_,Tryz.func317,by kernel_rfl,by kernel_rfl,by kernel_rfl,by kernel_rfl⟩
theorem U3:Tryz.prog.underlying 3=some (.int .i64):=by kernel_rfl
theorem U4:Tryz.prog.underlying 4=some (.bool):=by kernel_rfl
theorem U5:Tryz.prog.underlying 5=some (.int .u8):=by kernel_rfl
theorem U9:Tryz.prog.underlying 9=some (.string):=by kernel_rfl
theorem U21:Tryz.prog.underlying 21=some (.int .i32):=by kernel_rfl
theorem U22:Tryz.prog.underlying 22=some (.slice 3):=by kernel_rfl
theorem U24:Tryz.prog.underlying 24=some (.slice 9):=by kernel_rfl
theorem U37:Tryz.prog.underlying 37=some (.slice 149):=by kernel_rfl
theorem U38:Tryz.prog.underlying 38=some (.slice 40):=by kernel_rfl
theorem U51:Tryz.prog.underlying 51=some (.slice 22):=by kernel_rfl
theorem U80:Tryz.prog.underlying 80=some (.slice 83):=by kernel_rfl
theorem U95:Tryz.prog.underlying 95=some (.map 3 94):=by kernel_rfl
theorem U173:Tryz.prog.underlying 173=some (.slice 4):=by kernel_rfl
theorem U260:Tryz.prog.underlying 260=some (.int .u64):=by kernel_rfl
theorem U278:Tryz.prog.underlying 278=some (.map 9 4):=by kernel_rfl
theorem U283:Tryz.prog.underlying 283=some (.map 3 4):=by kernel_rfl
theorem U296:Tryz.prog.underlying 296=some (.int .u32):=by kernel_rfl
theorem U336:Tryz.prog.underlying 336=some (.array 256 5):=by kernel_rfl
theorem UE182:Tryz.prog.underlying 182=some (.struct #[]):=by kernel_rfl
theorem S3:(Tryz.prog.info? 3).map (·.size)=some 1:=by kernel_rfl
theorem S4:(Tryz.prog.info? 4).map (·.size)=some 1:=by kernel_rfl
theorem S5:(Tryz.prog.info? 5).map (·.size)=some 1:=by kernel_rfl
theorem S9:(Tryz.prog.info? 9).map (·.size)=some 1:=by kernel_rfl
theorem S22:(Tryz.prog.info? 22).map (·.size)=some 1:=by kernel_rfl
theorem S40:(Tryz.prog.info? 40).map (·.size)=some 5:=by kernel_rfl
theorem S83:(Tryz.prog.info? 83).map (·.size)=some 2:=by kernel_rfl
theorem Y3:zae pg 3=some (none):=by kernel_rfl
theorem Y4:zae pg 4=some (none):=by kernel_rfl
theorem Y9:zae pg 9=some (none):=by kernel_rfl
theorem Y22:zae pg 22=some (none):=by kernel_rfl
theorem Y37:zae pg 37=some (none):=by kernel_rfl
theorem Y38:zae pg 38=some (none):=by kernel_rfl
theorem Y40:zae pg 40=some (some 5):=by kernel_rfl
theorem Y42:zae pg 42=some (some 8):=by kernel_rfl
theorem Y55:zae pg 55=some (some 2):=by kernel_rfl
theorem Y80:zae pg 80=some (none):=by kernel_rfl
theorem Y83:zae pg 83=some (some 2):=by kernel_rfl
theorem Y91:zae pg 91=some (some 9):=by kernel_rfl
theorem Y107:zae pg 107=some (some 6):=by kernel_rfl
theorem Y124:zae pg 124=some (some 3):=by kernel_rfl
theorem Y130:zae pg 130=some (none):=by kernel_rfl
theorem Y134:zae pg 134=some (some 7):=by kernel_rfl
theorem Y153:zae pg 153=some (some 7):=by kernel_rfl
theorem Y223:zae pg 223=some (some 2):=by kernel_rfl
theorem Z3:zcD pg 3 (none)=true:=by kernel_rfl
theorem Z40:zcD pg 40 (some 5)=true:=by kernel_rfl
theorem Z107:zcD pg 107 (some 6)=true:=by kernel_rfl
theorem Z153:zcD pg 153 (some 7)=true:=by kernel_rfl
theorem ZZ107:(zbD pg 107).isSome=true:=by kernel_rfl
theorem ZZ153:(zbD pg 153).isSome=true:=by kernel_rfl
theorem C3:cellsOf pg 3=some 1:=by kernel_rfl
theorem C4:cellsOf pg 4=some 1:=by kernel_rfl
theorem C9:cellsOf pg 9=some 1:=by kernel_rfl
theorem C37:cellsOf pg 37=some 1:=by kernel_rfl
theorem C38:cellsOf pg 38=some 1:=by kernel_rfl
theorem C40:cellsOf pg 40=some 5:=by kernel_rfl
theorem C53:cellsOf pg 53=some 1:=by kernel_rfl
theorem C55:cellsOf pg 55=some 2:=by kernel_rfl
theorem C80:cellsOf pg 80=some 1:=by kernel_rfl
theorem C83:cellsOf pg 83=some 2:=by kernel_rfl
theorem C130:cellsOf pg 130=some 1:=by kernel_rfl
theorem C173:cellsOf pg 173=some 1:=by kernel_rfl
theorem C283:cellsOf pg 283=some 1:=by kernel_rfl
theorem E22:zbK pg 22 3 1 8=true:=by kernel_rfl
theorem E24:zbK pg 24 9 1 16=true:=by kernel_rfl
theorem E37:zbK pg 37 149 3 24=true:=by kernel_rfl
theorem E38:zbK pg 38 40 5 72=true:=by kernel_rfl
theorem E51:zbK pg 51 22 1 24=true:=by kernel_rfl
theorem E53:zbK pg 53 109 2 16=true:=by kernel_rfl
theorem E74:zbK pg 74 55 2 32=true:=by kernel_rfl
theorem E80:zbK pg 80 83 2 16=true:=by kernel_rfl
theorem E85:zbK pg 85 74 1 24=true:=by kernel_rfl
theorem E173:zbK pg 173 4 1 1=true:=by kernel_rfl
theorem F40_1:zu5 pg 40 1=some (1,none):=by kernel_rfl
theorem zww:zu5 pg 40 4=some (4,none):=by kernel_rfl
theorem F42_2:zu5 pg 42 2=some (2,some 5):=by kernel_rfl
theorem F83_0:zu5 pg 83 0=some (0,none):=by kernel_rfl
theorem F83_1:zu5 pg 83 1=some (1,none):=by kernel_rfl
theorem F87_0:zu5 pg 87 0=some (0,none):=by kernel_rfl
theorem zsP:zu5 pg 107 3=some (3,some 2):=by kernel_rfl
theorem znV:zu5 pg 132 0=some (0,some 4):=by kernel_rfl
theorem zsQ:zu5 pg 134 2=some (2,some 5):=by kernel_rfl
theorem zmg:zu5 pg 153 2=some (5,none):=by kernel_rfl
theorem zsR:zu5 pg 223 0=some (0,none):=by kernel_rfl
theorem zsS:zu5 pg 255 0=some (0,some 7):=by kernel_rfl
theorem G40_1 (x:Tree):Fld pg 40 1 x.enc (.sl 3 (List.map Step.enc x.steps)):=Fld.of F40_1 rfl rfl
theorem zxO (x:Tree):Fld pg 40 4 x.enc (.sl 5 (List.map Tree.enc x.kids)):=by rw [← Tree.zut];exact Fld.of zww rfl rfl
theorem G42_2 (x:zuc):Fld pg 42 2 x.enc (Tree.enc x.tree):=by rw [Tree.zvH];exact Fld.of F42_2 rfl rfl
theorem G87_0 (x:System):Fld pg 87 0 x.enc (.sl 2 (List.map Range.enc x.box)):=Fld.of F87_0 rfl rfl
theorem zsT (x:Table):Fld pg 107 3 x.enc (Range.enc x.range):=Fld.of zsP rfl rfl
theorem ziM (x:Found):Fld pg 134 2 x.enc (Tree.enc x.tree):=by rw [Tree.zvH];exact Fld.of zsQ rfl rfl
theorem ziN (x:ztX):Fld pg 153 2 x.enc (.sl 2 (List.map Range.enc x.box)):=Fld.of zmg rfl rfl
theorem zrw (x:zuy):Fld pg 223 0 x.enc (.int x.size):=Fld.of zsR rfl rfl
theorem zhq (x:zun):Fld pg 255 0 x.enc (Model.enc x.model):=Fld.of zsS rfl rfl
theorem Zc40:zuY pg 40=some [.val (.int .i64 0),.val (.slice none 0 0),.val (.int .i64 0),.val (.int .i64 0),.val (.slice none 0 0)]:=by kernel_rfl
theorem Zc42:zuY pg 42=some [.val (.int .i64 0),.val (.slice none 0 0),.val (.int .i64 0),.val (.slice none 0 0),.val (.int .i64 0),.val (.int .i64 0),.val (.slice none 0 0),.val (.int .i64 0)]:=by kernel_rfl
theorem Zc55:zuY pg 55=some [.val (.slice none 0 0),.val (.int .i64 0)]:=by kernel_rfl
theorem Zc83:zuY pg 83=some [.val (.int .i64 0),.val (.int .i64 0)]:=by kernel_rfl
theorem Zc91:zuY pg 91=some [.val (.int .i64 0),.val (.int .i64 0),.val (.slice none 0 0),.val (.int .i64 0),.val (.slice none 0 0),.val (.int .i64 0),.val (.int .i64 0),.val (.slice none 0 0),.val (.int .i64 0)]:=by kernel_rfl
theorem Zc107:zuY pg 107=some [.val (.string .empty),.val (.int .i64 0),.val (.slice none 0 0),.val (.int .i64 0),.val (.int .i64 0),.val (.int .i64 0)]:=by kernel_rfl
theorem Zc109:zuY pg 109=some [.val (.int .i64 0),.val (.int .i64 0)]:=by kernel_rfl
theorem Zc124:zuY pg 124=some [.val (.int .i64 0),.val (.int .i64 0),.val (.slice none 0 0)]:=by kernel_rfl
theorem Zc132:zuY pg 132=some [.val (.slice none 0 0),.val (.slice none 0 0),.val (.slice none 0 0),.val (.slice none 0 0),.val (.slice none 0 0),.val (.int .i64 0),.val (.int .i64 0)]:=by kernel_rfl
theorem zwX:zuY pg 134=some [.val (.slice none 0 0),.val (.int .i64 0),.val (.int .i64 0),.val (.slice none 0 0),.val (.int .i64 0),.val (.int .i64 0),.val (.slice none 0 0)]:=by kernel_rfl
theorem Zc149:zuY pg 149=some [.val (.int .i64 0),.val (.int .i64 0),.val (.int .i64 0)]:=by kernel_rfl
theorem Zc182:zuY pg 182=some []:=by kernel_rfl
theorem Zc218:zuY pg 218=some [.val (.slice none 0 0),.val (.slice none 0 0),.val (.slice none 0 0),.val (.slice none 0 0),.val (.slice none 0 0),.val (.slice none 0 0),.val (.slice none 0 0),.val (.slice none 0 0),.val (.slice none 0 0)]:=by kernel_rfl
theorem Zc271:zuY pg 271=some [.val (.int .i64 0),.val (.int .i64 0),.val (.int .i64 0),.val (.int .i64 0)]:=by kernel_rfl
theorem Zv3:zbD pg 3=some ((.int .i64 0)):=by kernel_rfl
theorem Zv4:zbD pg 4=some (.bool false):=by kernel_rfl
theorem Zv9:zbD pg 9=some ((.string .empty)):=by kernel_rfl
theorem Zv94:zbD pg 94=some (.nilFunc):=by kernel_rfl
theorem Zv130:zbD pg 130=some ((.pointer none)):=by kernel_rfl
theorem Zv173:zbD pg 173=some ((.slice none 0 0)):=by kernel_rfl
theorem Zv283:zbD pg 283=some ((.map none)):=by kernel_rfl
theorem Pl40:zc9 pg 40=some [(0,1),(1,1),(2,1),(3,1),(4,1)]:=by kernel_rfl
theorem Pl55:zc9 pg 55=some [(0,1),(1,1)]:=by kernel_rfl
theorem Pl91:zc9 pg 91=some [(0,1),(1,1),(2,1),(3,5),(8,1)]:=by kernel_rfl
theorem zxA:zc9 pg 134=some [(0,1),(1,1),(2,5)]:=by kernel_rfl
theorem Pl182:zc9 pg 182=some []:=by kernel_rfl
theorem Pl218:zc9 pg 218=some [(0,7),(7,1),(8,1)]:=by kernel_rfl
theorem K28:ztF pg 28=true:=by kernel_rfl
theorem K29:ztF pg 29=true:=by kernel_rfl
theorem K30:ztF pg 30=true:=by kernel_rfl
theorem K37:ztF pg 37=true:=by kernel_rfl
theorem K131:ztF pg 131=true:=by kernel_rfl
theorem K227:ztF pg 227=true:=by kernel_rfl
theorem K246:ztF pg 246=true:=by kernel_rfl
theorem K303:ztF pg 303=true:=by kernel_rfl
theorem K304:ztF pg 304=true:=by kernel_rfl
theorem Hm:Tryz.prog.follows .mixedOrders=true:=by kernel_rfl
theorem SE83:zvg pg 83 [.int .i64,.int .i64]:=⟨by kernel_rfl,by kernel_rfl,by kernel_rfl⟩
theorem SE109:zvg pg 109 [.int .i64,.int .i64]:=⟨by kernel_rfl,by kernel_rfl,by kernel_rfl⟩
theorem SE149:zvg pg 149 [.int .i64,.int .i64,.int .i64]:=⟨by kernel_rfl,by kernel_rfl,by kernel_rfl⟩
def Range.vals (x:Range):List Value:=[.int .i64 x.lo,.int .i64 x.hi]
theorem SQ83 (x y:Range):eqVs (Range.vals x) (Range.vals y)=decide (x=y):=by
 rw [Bool.eq_iff_iff,decide_eq_true_iff]
 rcases x with ⟨_,_⟩;rcases y with ⟨_,_⟩
 simp [Range.vals,eqVs,eqV,ziF,and_assoc]
def Term.vals (x:Term):List Value:=[.int .i64 x.cell,.int .i64 x.ztE]
theorem SQ109 (x y:Term):eqVs (Term.vals x) (Term.vals y)=decide (x=y):=by
 rw [Bool.eq_iff_iff,decide_eq_true_iff]
 rcases x with ⟨_,_⟩;rcases y with ⟨_,_⟩
 simp [Term.vals,eqVs,eqV,ziF,and_assoc]
def Step.vals (x:Step):List Value:=[.int .i64 x.kind,.int .i64 x.index,.int .i64 x.cell]
theorem SQ149 (x y:Step):eqVs (Step.vals x) (Step.vals y)=decide (x=y):=by
 rw [Bool.eq_iff_iff,decide_eq_true_iff]
 rcases x with ⟨_,_,_⟩;rcases y with ⟨_,_,_⟩
 simp [Step.vals,eqVs,eqV,ziF,and_assoc]
theorem KT3:KeyT pg 3 (λn:Int=>Value.int .i64 n):=KeyT.int U3
theorem KT9:KeyT pg 9 (λl:List UInt8=>Value.string ⟨l.toArray⟩):=KeyT.str U9
theorem zrx {P : Program} {f : FuncId} {B : Func} (h : (P.funcs[f]?).isSome = true) (hn : (((P.funcs[f]?).get h).name == "runtime.NumGoroutine") = false) (he : P.funcs[f]? = some { B with name := ((P.funcs[f]?).get h).name }) : Go.Proofs.Bears P f B := ⟨_, hn, he⟩
def Tryz.zxh:Go.Shelf.Ren:=⟨fun | 4=>178 | n=>n,fun | 22=>74 | 25=>55 | 3=>3 | 4=>4 | 9=>9 | 20=>20 | 0=>0 | n=>n,fun | n=>n⟩
theorem Tryz.grow178:Go.Proofs.Lays8.n4 pg Tryz.zxh:=by
 constructor <;> first | kernel_rfl | (intro w;kernel_rfl) | exact zrx (by kernel_rfl) (by kernel_rfl) (by kernel_rfl)
section
variable [ztC] [Drw]
theorem TriI.to {P C ops fuel listed Q s} (listed') (e:listed=listed') (h:TriI P C ops fuel listed' Q s):TriI P C ops fuel listed Q s:=by simp_all
theorem TriI.via {P C ops fuel listed Q s} (f l' s') (h:TriI P C ops f l' Q s') (k:TriI P C ops f l' Q s'→TriI P C ops fuel listed Q s):TriI P C ops fuel listed Q s:=k h
theorem TriI.zvE {P C ops fuel listed Q T K H} (ks) (hK:Looks T ks K) (h:TriI P C ops fuel listed Q ⟨K,H⟩):TriI P C ops fuel listed Q ⟨T,H⟩:=
 ⟨λc a w b=>h.run c a w (b.weaken hK.sub.look)⟩
theorem TriI.ge {P C ops fuel listed Q s t} (hl:s.ge t) (hgn:Nat.ble C.gn t.H.length=true) (h:TriI P C ops fuel listed Q t):TriI P C ops fuel listed Q s:=
 ⟨λ_ a w d=>let ⟨c,b⟩:=d.ge hl hgn;h.run c a w b⟩
theorem TriL.ge {P C ops rest Q s t} (hl:s.ge t) (hgn:Nat.ble C.gn t.H.length=true) (h:TriL P C ops rest Q t):TriL P C ops rest Q s:=
 ⟨λ_ a w d=>let ⟨c,b⟩:=d.ge hl hgn;h.run c a w b⟩
theorem TriI.cut {P C ops fuel listed Q T H'} (H) (hl:∃ X,H'=H++X) (h1:(H.all (Blk.under H.length))=true) (h2:(T.all λp=>p.2.under H.length)=true) (hT:Sub T T) (hgn:Nat.ble C.gn H.length=true)
  (h:TriI P C ops fuel listed Q ⟨T,H⟩):TriI P C ops fuel listed Q ⟨T,H'⟩:=
 .ge (t:=⟨T,H⟩) (let ⟨X,a⟩:=hl;⟨X,a,h1,h2,hT⟩) hgn h
theorem OneI.ofG {P C ops o s s'} (hd:zdJ o=true) (hw:zvT C ops o s true) (h:TriL P C ops [{ o with guard:=none }] (zv7 s') s):OneI P C ops o s s':=by
 refine ⟨λd a w c Q i K g e=>?_⟩;have b:=h.run d a w c;have hw:=hw.run d a w c;unfold wpOpIn;simp only [g,hw];unfold wpList at b;have m:Region.wanted { o with guard:=none } (yielded ops a.tmps)=true:=rfl;rcases b with b | ⟨_,n,l,b⟩
 ·have f :=b;exact Oper.wpIn_wide (.inl rfl) (zgc hd) (Oper.zwT e f)
 ·rcases b with ⟨j,k,⟨h,_⟩,c⟩ | ⟨h,_⟩ <;> cases h
theorem OneI.no {P C ops o s} (hd:zt2 o.dst C.n=true) (hw:zvT C ops o s false):OneI P C ops o s (s.put o.dst .junk):=by
 refine ⟨λc a w b Q i K e d=>?_⟩;have hw:=hw.run c a w b;unfold wpOpIn;simp only [e,hw];exact ⟨λ_ _=>trivial,d _ _ ⟨c,b.put (Fr.refl _ _) o.dst hd (v:=.junk) (by grind [V.rep])⟩⟩
theorem zo6 {P f fn} {α} {t el} {k bytes} {enc} {xs zs:List α} (hf:P.funcs[f]? = some fn) (hbody:fn.body=some (zfV t)) (hN:fn.ntmps=8) (hrs:fn.results = #[.tmp 2])
  (ht:zbK P t el k bytes=true) (hb:Nat.blt 0 bytes=true) (hones:∀ z,(enc z).ones=true) (hk:∀ x,(enc x).kOK k=true) (hv:Go.Proofs.YtipkniadbkndfaaGreatDoor.app bytes [] xs=some zs):Pure P f [.sl k (xs.map enc)] (.sl k (zs.map enc)):=by
 have e:zs=xs:=by have:=(appS hv).1;simp_all
 have c:=(zby ht).1;refine Pure.ot hf hbody hN rfl λA w=>?_
 rw [hrs];refine .seq (.region (.op rfl rfl (.assign rfl rfl) (.nil ?_)));refine .seq (.seq (.region (.op rfl rfl (.move rfl rfl) (.eqNil rfl rfl rfl c rfl λb a=>.nil ?_))));refine .cond (t:=b) rfl (λd=>?_) (λ_=>.skip ?_)
 ·have a:xs=[]:=by simp_all
  subst a;subst e;refine .seq (.region (.op rfl rfl (.assign rfl rfl) (.nil ?_)));refine .zvI 2 k el rfl (.ret ?_);exact zfO rfl (.vec rfl rfl)
 ·refine .seq (.region (.zwf (α:=α) (enc:=enc) [] rfl rfl rfl rfl rfl ht rfl hk (by simp_all) ?_));refine .op rfl rfl (.move rfl rfl) ?_;refine .app rfl rfl rfl rfl rfl rfl rfl rfl ht hb hones hv ?_;refine .op rfl rfl (.assign rfl rfl) (.nil ?_);refine .ret ?_;exact zfO rfl (.vec rfl (by simp))
theorem OpV.zx8 {P o e H g x d} (ho:o.op = .makeFunc (.func g) #[x] #[]) (hx:e x=some (.d d)):OpV P o e H (.d (.fn (.func g) [d] [])):=
 .of_same λc h w f _ a=>by
  have b:=a x (by grind [Op.operands]) _ hx;refine ⟨.func (.func g) #[f x] #[],by simp [execOp,ho,Instr.makeFunc],?_⟩;simp only [V.rep,D.rep,D.reps] at b ⊢;simp_all
end
class Tab (P:Program) where
 F:Nat→Nat→Option Nat
 S:Nat→Option (Option Nat)
 fl:∀ t i o,F t i=some o→zu5 P t i=some (o,none)
 sh:∀ t k,S t=some k→zae P t=some k
def nthO {α:Type}:List (Option α)→Nat→Option α
 | x::_,0=>x
 | _::l,n+1=>nthO l n
 | [],_=>none
def assN {α:Type}:List (Nat×α)→Nat→Option α
 | (k,x)::l,t=>match Nat.beq k t with
  | true=>some x
  | false=>assN l t
 | [],_=>none
def tbF (l:List (Nat×List (Option Nat))) (t i:Nat):Option Nat:=match assN l t with
 | some r=>nthO r i
 | none=>none
theorem zdm {α:Type}:∀ {l:List (Nat×α)} {t:Nat} {x:α},assN l t=some x→(t,x)∈l
 | [],_,_,h=>by simp [assN] at h
 | (k,y)::l,t,x,h=>by
  rw [assN] at h;cases hk:Nat.beq k t with
  | true=>rw [hk] at h;cases h;rw [Nat.eq_of_beq_eq_true hk];simp
  | false=>rw [hk] at h;exact yW _ (zdm h)
def rowB (P:Program) (t:Nat):List (Option Nat)→Nat→Bool
 | [],_=>true
 | none::l,i=>rowB P t l (i+1)
 | some o::l,i=>decide (zu5 P t i=some (o,none))&&rowB P t l (i+1)
theorem zoC {P t o}:∀ {l:List (Option Nat)} {j i:Nat},rowB P t l j=true→nthO l i=some o→zu5 P t (j+i)=some (o,none)
 | [],_,_,_,h=>by simp [nthO] at h
 | x::l,j,0,hb,h=>by
  simp only [nthO] at h;subst h;simp only [rowB,yd,yf] at hb;exact hb.1
 | x::l,j,i+1,hb,h=>by
  simp only [nthO] at h;have hb':rowB P t l (j+1)=true:=by
   cases x with
   | none=>exact hb
   | some o=>simp only [rowB,yd] at hb;exact hb.2
  have:=zoC hb' h
  rwa [Nat.add_assoc,Nat.add_comm 1 i] at this
abbrev Tab.mk' {P:Program} {F:Nat→Nat→Option Nat} {S:Nat→Option (Option Nat)} (f:List (Nat×List (Option Nat))) (s:List (Nat×Option Nat)) (hf:(f.all λp=>rowB P p.1 p.2 0)=true) (hs:(s.all λp=>decide (zae P p.1=some p.2))=true) (eF:F=tbF f) (eS:S=assN s):Tab P where
 F:=F
 S:=S
 fl:=λt i o h=>by
  rw [eF] at h;unfold tbF at h;cases ha:assN f t with
  | none=>rw [ha] at h;cases h
  | some r=>
   rw [ha] at h;have:=zoC (yp.1 hf _ (zdm ha)) h
   rwa [uh] at this
 sh:=λt k h=>by
  rw [eS] at h;exact of_decide_eq_true (yp.1 hs _ (zdm h))
def slB (P:Program) (t k:Nat):Bool:=match P.underlying t with
 | some (.slice el)=>decide ((P.info? el).map (·.size)=some k)
 | _=>false
theorem zti {P t k} (h:slB P t k=true):∃ el,P.underlying t=some (.slice el)∧(P.info? el).map (·.size)=some k:=by
 unfold slB at h;split at h
 ·exact ⟨_,‹_›,of_decide_eq_true h⟩
 ·cases h
def ceB (P:Program) (t n:Nat):Bool:=match cellsOf P t with
 | some m=>Nat.beq m n
 | none=>false
theorem zsY {P t n} (h:ceB P t n=true):cellsOf P t=some n:=by
 unfold ceB at h;split at h
 ·rw [‹cellsOf P t=_›,Nat.eq_of_beq_eq_true h]
 ·cases h
def plB (P:Program) (t:Nat) (l:List (Nat×Nat)):Bool:=match zc9 P t with
 | some m=>decide (m=l)
 | none=>false
theorem zth {P t l} (h:plB P t l=true):zc9 P t=some l:=by
 unfold plB at h;split at h
 ·rw [‹zc9 P t=_›,of_decide_eq_true h]
 ·cases h
def memN:List Nat→Nat→Bool
 | k::l,f=>match Nat.beq k f with
  | true=>true
  | false=>memN l f
 | [],_=>false
theorem zhP:∀ {l:List Nat} {f:Nat},memN l f=true→f∈l
 | [],_,h=>by simp [memN] at h
 | k::l,f,h=>by
  rw [memN] at h;cases hk:Nat.beq k f with
  | true=>rw [Nat.eq_of_beq_eq_true hk];simp
  | false=>rw [hk] at h;exact yW _ (zhP h)
theorem slAll {P l} (hl:(l.all λp=>slB P p.1 p.2)=true) {t k} (h:assN l t=some k):∃ el,P.underlying t=some (.slice el)∧(P.info? el).map (·.size)=some k:=zti (yp.1 hl _ (zdm h))
theorem clAll {P l} (hl:l.all (ztF P)=true) {f} (h:memN l f=true):ztF P f=true:=yp.1 hl f (zhP h)
def nthD {α:Type}:List α→Nat→Option α
 | x::_,0=>some x
 | _::l,n+1=>nthD l n
 | [],_=>none
theorem zeN {α:Type}:∀ {l:List α} {i:Nat} {y:α},nthD l i=some y→l[i]? = some y
 | [],_,_,h=>by simp [nthD] at h
 | x::l,0,y,h=>by simpa [nthD] using h
 | x::l,i+1,y,h=>by rw [uE];exact zeN h
def zxi:List D→Nat→Bool
 | [],0=>true
 | _::l,n+1=>zxi l n
 | _,_=>false
theorem zjW:∀ {l:List D} {n:Nat},zxi l n=true→l.length=n
 | [],0,_=>rfl
 | _::l,n+1,h=>by rw [yU,zjW (l:=l) h]
 | [],_+1,h=>by simp [zxi] at h
 | _::_,0,h=>by simp [zxi] at h
def zfH (d:D) (k:Option Nat):Bool:=match d with
 | .agg cs=>match k with
  | some n=>zxi cs n
  | none=>false
 | .val v=>match v with
  | .agg _=>false
  | _=>k.isNone
 | _=>k.isNone
theorem zfl {d k} (h:zfH d k=true):d.shape=k:=by
 cases d with
 | agg cs=>
  cases k with
  | none=>cases h
  | some n=>exact congrArg some (zjW h)
 | val v=>cases v <;> cases k <;> first | rfl | cases h
 | _=>cases k <;> first | rfl | cases h
def vBin (op:BinOp) (x y:Option V):Option V:=match x,y with
 | some (.d (.val (.int k a))),some (.d (.val (.int k' b)))=>match decide (k=k') with
  | true=>match op with
   | .lss=>some (.d (.bool (decide (a<b))))
   | .leq=>some (.d (.bool (decide (a≤b))))
   | .gtr=>some (.d (.bool (decide (b<a))))
   | .geq=>some (.d (.bool (decide (b≤a))))
   | .eql=>some (.d (.bool (a==b)))
   | .neq=>some (.d (.bool (a != b)))
   | .add=>match k with
    | .i64=>some (.d (.int (ztu a b)))
    | _=>none
   | .sub=>match k with
    | .i64=>some (.d (.int (ztH a b)))
    | _=>none
   | .mul=>match k with
    | .i64=>some (.d (.int (ztG a b)))
    | _=>none
   | _=>none
  | false=>none
 | _,_=>none
def zv8 (H:List Blk) (i:Nat):Option (List V):=match nthD H i with
 | some (.box _ cs)=>some cs
 | _=>none
theorem zht {H i cs} (h:zv8 H i=some cs):∃ t,H[i]? = some (.box t cs):=by
 unfold zv8 at h;split at h
 ·cases h;exact ⟨_,zeN ‹_›⟩
 ·cases h
def vOp (F:Nat→Nat→Option Nat) (S:Nat→Option (Option Nat)) (H:List Blk) (e:Operand→Option V):Op→Option V
 | .move x=>e x
 | .assign x=>e x
 | .box _ x=>match e x with
  | some (.d d)=>some (.d (.ref d))
  | _=>none
 | .unOp .not _ x=>match e x with
  | some (.d (.val (.bool b)))=>some (.d (.bool (!b)))
  | _=>none
 | .binOp op _ x y _=>vBin op (e x) (e y)
 | .fieldAddr t x i=>match e x with
  | some (.d (.ref (.agg cs)))=>match F t i with
   | some o=>match nthD cs o with
    | some y=>match zfH y none with
     | true=>some (.d (.ref y))
     | false=>none
    | none=>none
   | none=>none
  | some (.loc b off)=>match F t i with
   | some o=>match zv8 H b with
    | some _=>some (.loc b (off+o))
    | none=>none
   | none=>none
  | _=>none
 | .load t x=>match e x with
  | some (.d (.ref d))=>match S t with
   | some k=>match zfH d k with
    | true=>some (.d d)
    | false=>none
   | none=>none
  | some (.loc b off)=>match S t with
   | some none=>match zv8 H b with
    | some cs=>nthD cs off
    | none=>none
   | _=>none
  | _=>none
 | .extract x i=>match e x with
  | some (.d (.tup ds))=>match nthD ds i with
   | some d=>some (.d d)
   | none=>none
  | some (.tup cs)=>nthD cs i
  | _=>none
 | .nilCheck x=>match e x with
  | some (.d (.ref d))=>some (.d (.ref d))
  | some (.loc b off)=>match zv8 H b with
   | some _=>some (.loc b off)
   | none=>none
  | _=>none
 | _=>none
section
variable [ztC] [Drw] {P:Program} [Tab P] {o:Oper} {e:Operand→Option V} {H:List Blk} {v:V}
theorem zsG {op:BinOp} {t u x y} (ho:o.op = .binOp op t x y u) (h:vBin op (e x) (e y)=some v):OpV P o e H v:=by
 unfold vBin at h;split at h
 ·rename_i k a k' b hx hy;split at h
  ·rename_i hk;have hk:=of_decide_eq_true hk;subst hk;split at h
   ·cases h;exact .lss ho hx hy
   ·cases h;exact .leq ho hx hy
   ·cases h;exact .gtr ho hx hy
   ·cases h;exact .geq ho hx hy
   ·cases h;exact .eql ho hx hy
   ·cases h;exact .neq ho hx hy
   ·split at h
    ·cases h;exact .add6 ho hx hy
    ·cases h
   ·split at h
    ·cases h;exact .sub6 ho hx hy
    ·cases h
   ·split at h
    ·cases h;exact .mul6 ho hx hy
    ·cases h
   ·cases h
  ·cases h
 ·cases h
theorem zoQ (h:vOp (Tab.F P) (Tab.S P) H e o.op=some v):OpV P o e H v:=by
 unfold vOp at h;split at h
 ·exact .move ‹_› h
 ·exact .assign ‹_› h
 ·split at h
  ·cases h;exact .box ‹_› ‹_›
  ·cases h
 ·split at h
  ·cases h;exact .not ‹_› ‹_›
  ·cases h
 ·exact zsG ‹_› h
 ·split at h
  ·split at h
   ·split at h
    ·split at h
     ·cases h;exact .fieldAddr ‹o.op=_› ‹e _=_› (Fld.of (Tab.fl _ _ _ ‹Tab.F P _ _=_›) (zfl ‹zfH _ _=_›) (zeN ‹nthD _ _=_›))
     ·cases h
    ·cases h
   ·cases h
  ·split at h
   ·split at h
    ·cases h;obtain ⟨_,hb⟩:=zht ‹zv8 _ _=_›;exact .ztN ‹o.op=_› ‹e _=_› hb (Tab.fl _ _ _ ‹Tab.F P _ _=_›)
    ·cases h
   ·cases h
  ·cases h
 ·split at h
  ·split at h
   ·split at h
    ·cases h;exact .load ‹o.op=_› ‹e _=_› (Tab.sh _ _ ‹Tab.S P _=_›) (zfl ‹zfH _ _=_›)
    ·cases h
   ·cases h
  ·split at h
   ·split at h
    ·obtain ⟨_,hb⟩:=zht ‹zv8 _ _=_›;exact .ztT ‹o.op=_› ‹e _=_› hb (Tab.sh _ _ ‹Tab.S P _=_›) (zeN h)
    ·cases h
   ·cases h
  ·cases h
 ·split at h
  ·split at h
   ·cases h;exact .extract ‹o.op=_› ‹e _=_› (zeN ‹nthD _ _=_›)
   ·cases h
  ·exact .extractV ‹o.op=_› ‹e _=_› (zeN h)
  ·cases h
 ·split at h
  ·cases h;exact .zw5 ‹o.op=_› ‹e _=_›
  ·split at h
   ·cases h;obtain ⟨_,hb⟩:=zht ‹zv8 _ _=_›;exact .zw4 ‹o.op=_› ‹e _=_› hb
   ·cases h
  ·cases h
 ·cases h
theorem zoR (h:vOp (Tab.F P) (Tab.S P) H e o.op=some v):zah o=false:=by
 unfold zah;cases ho:o.op <;> first | rfl | (rw [ho] at h;simp [vOp] at h)
end
def runA (F:Nat→Nat→Option Nat) (S:Nat→Option (Option Nat)) (N:Nat) (H:List Blk):Nat→List Oper→List (Nat×V)→Option (List Oper×List (Nat×V))
 | 0,l,T=>some (l,T)
 | n+1,o::l,T=>match o.guard,o.dst with
  | none,some d=>match Nat.blt d N with
   | true=>match vOp F S H (ev T) o.op with
    | some v=>runA F S N H n l ((d,v)::T)
    | none=>none
   | false=>none
  | _,_=>none
 | _+1,[],_=>none
def zxp:Bool→Bool→Bool
 | true,true=>true
 | false,false=>true
 | _,_=>false
def runQ (F:Nat→Nat→Option Nat) (S:Nat→Option (Option Nat)) (N:Nat) (H:List Blk) (ops:Array Oper):Nat→List Oper→List (Nat×V)→Option (List Oper×List (Nat×V))
 | 0,l,T=>some (l,T)
 | n+1,o::l,T=>match o.dst with
  | some d=>match Nat.blt d N with
   | true=>match vOp F S H (ev T) o.op with
    | some v=>match o.guard with
     | none=>runQ F S N H ops n l ((d,v)::T)
     | some (j,w)=>match (ops[j]?).bind (·.dst) with
      | some g=>match look g T with
       | some (.d (.val (.bool b)))=>match zxp b w with
        | true=>runQ F S N H ops n l ((d,v)::T)
        | false=>none
       | _=>none
      | none=>none
    | none=>none
   | false=>none
  | none=>none
 | _+1,[],_=>none
section
variable [ztC] [Drw] {P:Program} [Tab P] {C:Ctx} {ops:Array Oper} {Q:Exit→St→Prop}
theorem zqw {H rest T'} (k:TriL P C ops rest Q ⟨T',H⟩):∀ (n:Nat) (l:List Oper) (T:List (Nat×V)),runA (Tab.F P) (Tab.S P) C.n H n l T=some (rest,T')→TriL P C ops l Q ⟨T,H⟩
 | 0,l,T,h=>by cases h;exact k
 | n+1,[],T,h=>by cases h
 | n+1,o::l,T,h=>by
  rw [runA] at h;split at h
  ·split at h
   ·split at h
    ·have hd:=‹o.dst=_›;refine .op ‹o.guard=_› (by rw [hd];exact ‹Nat.blt _ _=_›) (zoQ ‹vOp _ _ _ _ _=_›) ?_;rw [hd];exact zqw k n l _ h
    ·cases h
   ·cases h
  ·cases h
theorem zjw:∀ {a b:Bool},zxp a b=true→a=b
 | true,true,_=>rfl
 | false,false,_=>rfl
theorem znS {N H al} {K:List Ev→List (Nat×V)→Prop} {rest T'} (k:TriQ P N ops H rest al T' K):∀ (n:Nat) (l:List Oper) (T:List (Nat×V)),runQ (Tab.F P) (Tab.S P) N H ops n l T=some (rest,T')→TriQ P N ops H l al T K
 | 0,l,T,h=>by cases h;exact k
 | n+1,[],T,h=>by cases h
 | n+1,o::l,T,h=>by
  rw [runQ] at h;split at h
  ·split at h
   ·split at h
    ·split at h
     ·exact .op ‹o.guard=_› ‹o.dst=_› ‹Nat.blt _ _=_› (zoR ‹vOp _ _ _ _ _=_›) (zoQ ‹vOp _ _ _ _ _=_›) (znS k n l _ h)
     ·split at h
      ·split at h
       ·split at h
        ·have hs:=zjw ‹zxp _ _=_›;exact .gop ‹o.guard=_› ‹Option.bind _ _=_› (by rw [← hs];exact ‹look _ _=_›) ‹o.dst=_› ‹Nat.blt _ _=_› (zoR ‹vOp _ _ _ _ _=_›) (zoQ ‹vOp _ _ _ _ _=_›) (znS k n l _ h)
        ·cases h
       ·cases h
      ·cases h
    ·cases h
   ·cases h
  ·cases h
end
def nfN {β:Type}:Nat→(Nat→β)→β
 | 0,k=>k 0
 | n+1,k=>nfN n λm=>k (m+1)
theorem zrM {β:Type}:∀ (n:Nat) (k:Nat→β),nfN n k=k n
 | 0,_=>rfl
 | n+1,k=>by rw [nfN,zrM n]
def nfV {β:Type}:V→(V→β)→β
 | .loc i o,k=>nfN i λi=>nfN o λo=>k (.loc i o)
 | .vec i n,k=>nfN i λi=>k (.vec i n)
 | v,k=>k v
theorem zrN {β:Type} (v:V) (k:V→β):nfV v k=k v:=by
 cases v <;> simp only [nfV,zrM]
def nfC {β:Type}:List V→List V→(List V→β)→β
 | [],acc,k=>k acc
 | c::l,acc,k=>nfV c λc=>nfC l (c::acc) k
def nfH {β:Type}:List Blk→(List Blk→β)→β
 | [],k=>k []
 | .box t cs::l,k=>nfH l λl'=>nfC cs [] λr=>nfC r [] λcs'=>k (.box t cs'::l')
 | b::l,k=>nfH l λl'=>k (b::l')
theorem zrL {β:Type}:∀ (l acc:List V) (k:List V→β),nfC l acc k=k (l.reverse++acc)
 | [],acc,k=>by simp [nfC]
 | c::l,acc,k=>by rw [nfC,zrN,zrL l];simp
theorem zov {β:Type}:∀ (H:List Blk) (k:List Blk→β),nfH H k=k H
 | [],k=>by rw [nfH]
 | b::l,k=>by
  cases b <;> simp only [nfH,zov l,zrL,ue,List.reverse_reverse]
def zwy:List Nat→List (Nat×V)→List (Nat×V)→Option (List (Nat×V))
 | [],_,acc=>some acc
 | k::ks,T,acc=>match look k T with
  | some v=>nfV v λv=>zwy ks T ((k,v)::acc)
  | none=>none
theorem zhX {T}:∀ {ks:List Nat} {acc K:List (Nat×V)},zwy ks T acc=some K→Sub acc T→Sub K T
 | [],acc,K,h,hs=>by cases h;exact hs
 | k::ks,acc,K,h,hs=>by
  rw [zwy] at h;cases hl:look k T with
  | none=>rw [hl] at h;cases h
  | some v=>rw [hl] at h;simp only [zrN] at h;exact zhX h ⟨hl,hs⟩
def keepK (ks:List Nat) (s:St):Option (List (Nat×V)×List Blk):=match zwy ks s.T [] with
 | some K=>nfH s.H λH=>some (K,H)
 | none=>none
section
variable [ztC] [Drw] {P:Program} {C:Ctx} {Q:Exit→St→Prop}
theorem Tri.K (ks) {c s K H} (h:keepK ks s=some (K,H)) (k:Tri P C c Q ⟨K,H⟩):Tri P C c Q s:=by
 unfold keepK at h;cases hp:zwy ks s.T [] with
 | none=>rw [hp] at h;cases h
 | some K'=>
  rw [hp] at h;simp only [zov,yn,yg] at h;obtain ⟨rfl,rfl⟩:=h;exact Tri.le (s:=s) (t:=⟨K',s.H⟩) ⟨rfl,zhX hp trivial⟩ k
theorem Looks.of {T}:∀ (ks:List Nat) (K0:List (Nat×V)),Sub K0 T→(K0.map (·.1))=ks→Looks T ks K0
 | _,[],_,rfl=>.nil
 | _,(k,v)::K,h,rfl=>.cons h.1 (Looks.of _ K h.2 rfl)
def lks:List (Nat×V)→List (Nat×V)→List (Option V)
 | [],_=>[]
 | (k,_)::l,T=>look k T::lks l T
def vls:List (Nat×V)→List (Option V)
 | []=>[]
 | (_,v)::l=>some v::vls l
theorem zj0 {T}:∀ {l:List (Nat×V)},lks l T=vls l→Sub l T
 | [],_=>trivial
 | (k,v)::l,h=>by
  simp only [lks,vls,List.cons.injEq] at h;exact ⟨h.1,zj0 h.2⟩
theorem gE {s t:St} {X:List Blk} (h:(s.H,t.H.all (Blk.under t.H.length),t.T.all λp=>p.2.under t.H.length,lks t.T s.T)=(t.H++X,true,true,vls t.T)):s.ge t:=by
 simp only [yg] at h;exact ⟨X,h.1,h.2.1,h.2.2.1,zj0 h.2.2.2⟩
theorem ndE {σ R:Type} {k:σ→Option R} {r:R} {J:σ→St} {s:St} {v:σ} {X:List Blk} (h:k v=some r) (g:(s.H,(J v).H.all (Blk.under (J v).H.length),(J v).T.all λp=>p.2.under (J v).H.length,lks (J v).T s.T)=((J v).H++X,true,true,vls (J v).T)):∃ v,k v=some r∧s.ge (J v):=⟨v,h,gE g⟩
theorem Tri.L {σ R:Type} {c} {body:(σ→Option R)→σ→Option R} {n:Nat} {init:σ} {r:R} {s} (ks:List Nat) {K X} (h:ztz body n init=some r) (upd:σ→List (Nat×V)) (hf:σ→List (Nat×Blk))
  (g:(zwy ks s.T [],s.H,(over s.H (hf init)).all (Blk.under (over s.H (hf init)).length),(upd init++K).all λp=>p.2.under (over s.H (hf init)).length,lks (upd init++K) s.T,Nat.ble C.gn s.H.length)=(some K,over s.H (hf init)++X,true,true,vls (upd init++K),true))
  (hb:∀ (rec:σ→Option R) (v:σ),body rec v=some r→Tri P C c (zwb rec r (λv=>⟨upd v++K,over s.H (hf v)⟩) Q) ⟨upd v++K,over s.H (hf v)⟩):Tri P C (.loop c) Q s:=by
 simp only [yg] at g;obtain ⟨g1,g2,g3,g4,g5,g6⟩:=g;exact .loopS (K.map (·.1)) upd hf (Looks.of _ K (zhX g1 trivial) rfl) h ⟨X,g2,g3,g4,zj0 g5⟩ hb g6
theorem Tri.J {σ R:Type} {x y} {k:σ→Option R} {m:(σ→Option R)→Option R} {r:R} {s} (ks:List Nat) {K} (h:jn k m=some r) (upd:σ→List (Nat×V)) (hf:σ→List (Nat×Blk)) (g:(zwy ks s.T [],Nat.ble C.gn s.H.length)=(some K,true))
  (hm:∀ k':σ→Option R,m k'=some r→Tri P C x (zwb k' r (λv=>⟨upd v++K,over s.H (hf v)⟩) Q) s)
  (hk:∀ v,k v=some r→Tri P C y Q ⟨upd v++K,over s.H (hf v)⟩):Tri P C (.seq x y) Q s:=by
 simp only [yg] at g;exact .join (K.map (·.1)) upd hf (Looks.of _ K (zhX g.1 trivial) rfl) h hm hk g.2
end
theorem TriI.kt [ztC] [Drw] {P C ops fuel listed listed' Q T K H H'} (k:TriI P C ops fuel listed' Q ⟨K,H⟩) (h:(H',lks K T)=(H,vls K)) (e:listed=listed':=by decide +kernel):TriI P C ops fuel listed Q ⟨T,H'⟩:=by
 simp only [yg] at h;rw [h.1];exact .zvE (K.map (·.1)) (Looks.of _ K (zj0 h.2) rfl) (e▸k)
theorem TriA.kt [ztC] [Drw] {P C ops fuel listed listed' Q T K H H'} (k:TriA P C ops fuel listed' Q ⟨K,H⟩) (h:(H',lks K T)=(H,vls K)) (e:listed=listed':=by decide +kernel):TriA P C ops fuel listed Q ⟨T,H'⟩:=by
 simp only [yg] at h;rw [h.1];exact .zvE (K.map (·.1)) (Looks.of _ K (zj0 h.2) rfl) (e▸k)
def bN (n k:Nat):Array Bool:=((List.range n).map k.testBit).toArray
section
variable [Drw]
def tFl:List (Nat×List (Option Nat)):=[(30,[some 0,some 1,some 2,some 3,some 4,some 5,some 6]),(32,[some 0,some 1]),(34,[some 0,some 1]),(40,[some 0,some 1,some 2,some 3,some 4]),(42,[some 0,some 1,none,some 7]),(55,[some 0,some 1]),(57,[some 0,some 1,none,some 4,some 5]),(64,[some 0,some 1,some 2]),(77,[some 0,some 1,some 2]),(79,[some 0,some 1]),(83,[some 0,some 1]),(87,[some 0,some 1,some 2,some 3]),(91,[some 0,none,some 2,none,some 8]),(107,[some 0,some 1,some 2,none,some 5]),(109,[some 0,some 1]),(111,[some 0,none,some 2]),(113,[some 0,some 1]),(124,[some 0,some 1,some 2]),(132,[none,some 4,some 5,some 6]),(134,[some 0,some 1]),(149,[some 0,some 1,some 2]),(153,[none,some 4,some 5,some 6]),(192,[some 0,some 1,some 2,some 3]),(202,[some 0,some 1,some 2]),(218,[none,some 7,some 8]),(223,[some 0,some 1]),(243,[some 0,some 1,some 2]),(255,[none,some 7]),(271,[some 0,none,some 2,some 3])]
def tSl:List (Nat×Option Nat):=[(3,none),(4,none),(5,none),(9,none),(22,none),(23,none),(24,none),(25,none),(26,none),(27,none),(28,none),(30,some 7),(34,some 4),(37,none),(38,none),(40,some 5),(42,some 8),(53,none),(55,some 2),(57,some 6),(64,some 3),(73,none),(74,none),(75,none),(77,some 3),(79,some 5),(80,none),(83,some 2),(84,none),(85,none),(87,some 4),(91,some 9),(107,some 6),(109,some 2),(111,some 3),(113,some 2),(124,some 3),(130,none),(134,some 7),(149,some 3),(153,some 7),(173,none),(192,some 4),(202,some 3),(216,none),(223,some 2),(243,some 3),(255,some 8),(278,none),(283,none)]
def tXl:List (Nat×Nat):=[(22,1),(23,6),(24,1),(25,6),(26,3),(27,5),(28,3),(37,3),(38,5),(51,1),(53,2),(73,2),(74,2),(75,3),(80,2),(84,3),(85,1),(173,1),(267,4)]
def tX:Nat→Option Nat:=assN tXl
def tCl:List Nat:=[8,9,10,11,12,13,14,15,16,17,18,19,20,21,22,23,24,25,26,27,28,29,30,31,32,33,34,35,36,37,38,39,40,41,42,43,44,45,46,47,48,49,50,51,52,53,54,55,56,57,58,59,60,61,62,63,64,65,66,67,68,69,70,71,72,73,74,75,76,77,78,79,80,81,82,83,84,85,86,87,88,89,90,91,92,93,94,95,96,97,98,99,100,101,102,103,104,105,106,107,108,109,110,111,112,113,114,115,116,117,118,119,120,121,122,123,124,125,126,127,128,129,130,131,132,133,134,135,136,137,138,139,140,141,142,143,144,145,146,147,148,149,150,151,152,153,155,156,157,158,159,160,161,162,163,164,165,169,170,171,172,173,174,175,176,177,178,179,180,181,182,183,184,185,186,187,188,189,190,191,192,193,194,195,196,197,198,199,200,201,202,203,204,205,206,207,208,209,211,214,215,216,217,218,219,220,221,222,223,224,225,226,227,228,229,230,231,232,233,234,235,236,237,238,239,240,241,242,243,244,245,246,247,258,259,260,261,262,263,264,265,266,267,268,269,270,271,272,273,274,275,276,277,278,279,281,287,288,289,290,291,292,294,295,297,298,300,301,302,303,304,305,306,307,308,309,310,311,312,313,314,315]
def tF:Nat→Nat→Option Nat:=tbF tFl
def tS:Nat→Option (Option Nat):=assN tSl
instance tabI:Tab Tryz.prog:=.mk' (F:=tF) (S:=tS) tFl tSl (by kernel_rfl) (by kernel_rfl) rfl rfl
section
variable {C:Ctx} {ops:Array Oper} {Q:Exit→St→Prop} {l rest:List Oper} {T':List (Nat×V)} {s:St} {id:Nat}
theorem TriL.A (n:Nat) (h:runA tF tS C.n s.H n l s.T=some (rest,T')) (k:TriL Tryz.prog C ops rest Q ⟨T',s.H⟩):TriL Tryz.prog C ops l Q s:=zqw k n l s.T h
theorem Tri.sA (n:Nat) {y:Code} (h:runA tF tS C.n s.H n l s.T=some ([],T')) (k:Tri Tryz.prog C y Q ⟨T',s.H⟩):Tri Tryz.prog C (.seq (.region id l.toArray false) y) Q s:=.sr (.A n h (.nil k))
theorem Tri.S (n:Nat) {y:Code} (h:runA tF tS C.n s.H n l s.T=some (rest,T')) (k:TriL Tryz.prog C l.toArray rest (zv6 (Tri Tryz.prog C y Q) Q) ⟨T',s.H⟩):Tri Tryz.prog C (.seq (.region id l.toArray false) y) Q s:=.sr (.A n h k)
theorem Tri.rA (n:Nat) (h:runA tF tS C.n s.H n l s.T=some ([],T')) (k:Q .normal ⟨T',s.H⟩):Tri Tryz.prog C (.region id l.toArray false) Q s:=.region (.A n h (.nil k))
theorem TriQ.A (n:Nat) {N:Nat} {H:List Blk} {al:List Ev} {K:List Ev→List (Nat×V)→Prop} {T:List (Nat×V)} (h:runQ tF tS N H ops n l T=some (rest,T')) (k:TriQ Tryz.prog N ops H rest al T' K):TriQ Tryz.prog N ops H l al T K:=znS k n l T h
end
def tCn:List (Nat×Nat):=[(3,1),(4,1),(9,1),(22,1),(30,7),(34,4),(37,1),(38,1),(40,5),(42,8),(53,1),(55,2),(57,6),(74,1),(79,5),(80,1),(83,2),(84,1),(85,1),(87,4),(91,9),(107,6),(124,3),(130,1),(134,7),(153,7),(173,1),(192,4),(216,1),(223,2),(243,3),(271,4),(283,1)]
def tC:Nat→Option Nat:=assN tCn
theorem zsD:(tCn.all λp=>ceB Tryz.prog p.1 p.2)=true:=by kernel_rfl
theorem zne {t n:Nat} (h:tC t=some n):cellsOf Tryz.prog t=some n:=zsY (yp.1 zsD (_,_) (zdm h))
def tZn:List (Nat×Option Nat):=[(30,some 7),(34,some 4),(40,some 5),(42,some 8),(55,some 2),(57,some 6),(77,some 3),(79,some 5),(83,some 2),(87,some 4),(91,some 9),(107,some 6),(109,some 2),(111,some 3),(113,some 2),(124,some 3),(134,some 7),(149,some 3),(153,some 7),(192,some 4),(202,some 3),(223,some 2),(243,some 3),(255,some 8)]
def tZ:Nat→Option (Option Nat):=assN tZn
theorem ztp:(tZn.all λp=>zcD Tryz.prog p.1 p.2)=true:=by kernel_rfl
theorem tZ_ok {t k} (h:tZ t=some k):zcD Tryz.prog t k=true:=yp.1 ztp (_,_) (zdm h)
def tPn:List (Nat×List (Nat×Nat)):=[(30,[(0,1),(1,1),(2,1),(3,1),(4,1),(5,1),(6,1)]),(32,[(0,1),(1,1)]),(34,[(0,1),(1,1),(2,2)]),(40,[(0,1),(1,1),(2,1),(3,1),(4,1)]),(42,[(0,1),(1,1),(2,5),(7,1)]),(55,[(0,1),(1,1)]),(57,[(0,1),(1,1),(2,2),(4,1),(5,1)]),(77,[(0,1),(1,1),(2,1)]),(79,[(0,1),(1,1),(2,3)]),(83,[(0,1),(1,1)]),(87,[(0,1),(1,1),(2,1),(3,1)]),(91,[(0,1),(1,1),(2,1),(3,5),(8,1)]),(107,[(0,1),(1,1),(2,1),(3,2),(5,1)]),(109,[(0,1),(1,1)]),(111,[(0,1),(1,1),(2,1)]),(113,[(0,1),(1,1)]),(124,[(0,1),(1,1),(2,1)]),(132,[(0,4),(4,1),(5,1),(6,1)]),(134,[(0,1),(1,1),(2,5)]),(149,[(0,1),(1,1),(2,1)]),(153,[(0,4),(4,1),(5,1),(6,1)]),(182,[]),(192,[(0,1),(1,1),(2,1),(3,1)]),(218,[(0,7),(7,1),(8,1)]),(221,[(0,1),(1,1)]),(223,[(0,1),(1,1)]),(255,[(0,7),(7,1)]),(271,[(0,1),(1,1),(2,1),(3,1)])]
def tP:Nat→Option (List (Nat×Nat)):=assN tPn
theorem ztn:(tPn.all λp=>plB Tryz.prog p.1 p.2)=true:=by kernel_rfl
theorem tP_ok {t l} (h:tP t=some l):zc9 Tryz.prog t=some l:=zth (yp.1 ztn (_,_) (zdm h))
section
variable {C:Ctx} {ops:Array Oper} {Q:Exit→St→Prop} {o o1 o2:Oper} {rest:List Oper} {T:List (Nat×V)} {H:List Blk} {α:Type} {t r i off n k kk d g j:Nat} {x y:Operand} {bt:TypeId} {cs:List V} {e:D} {s:St}
theorem TriL.so (g:(o.guard,o.op,o.dst,ev T x,nthD H i,ev T y,e.ones,tC t,(V.zt1 (.d e)).length,Nat.ble (off+n) cs.length)=(none,.store t x y,none,some (.loc i off),some (.box bt cs),some (.d e),true,some n,n,true))
  (k:TriL Tryz.prog C ops rest Q ⟨T,H.set i (.box bt (cs.take off++V.zt1 (.d e)++cs.drop (off+n)))⟩):TriL Tryz.prog C ops (o::rest) Q ⟨T,H⟩:=by
 simp only [yg] at g
 obtain ⟨g1,g2,g3,g4,g5,g6,g7,g8,g9,g10⟩:=g
 exact .store g1 g2 g3 g4 (zeN g5) g6 (.ofD g7) (zne g8) g9 (yq g10) k
def neT:Operand→Nat→Bool
 | .tmp t,r=>!Nat.beq t r
 | _,_=>true
theorem TriL.aS {z:Option Nat} (g:(o1.guard,o2.guard,o1.op,o1.dst,o2.op,o2.dst,Nat.blt r C.n,ev s.T x,neT x r,tZ t,zfH e z,e.ones)=(none,none,.alloc t,some r,.store t (.tmp r) x,none,true,some (.d e),true,some z,true,true))
  (k:TriL Tryz.prog C ops rest Q (s.put (some r) (.d (.ref e)))):TriL Tryz.prog C ops (o1::o2::rest) Q s:=by
 simp only [yg] at g
 obtain ⟨g1,g2,g3,g4,g5,g6,g7,g8,g9,g10,g11,g12⟩:=g
 exact .zu9 g1 g2 g3 g4 g5 g6 g7 g8 (by rintro rfl;simp [neT] at g9) (zfl g11) g12 (tZ_ok g10) k
theorem Tri.dr {id:Nat} {l:List Oper} (n) (h:TriQ Tryz.prog C.n l.toArray s.H (l.take n) [] s.T (λal T=>TriL Tryz.prog C l.toArray (l.drop n) Q (zkQ Tryz.prog s.H al T))) (h1:regOK l n=true:=by kernel_rfl) (h2:(zfq (l.take n)&&zef (l.take n))=true:=by kernel_rfl):Tri Tryz.prog C (.region id l.toArray true) Q s:=.draw n Hm h1 h2 h
def covs:List (Nat×Nat×D)→Nat→Bool
 | [],_=>false
 | (a,n,_)::l,i=>match Nat.ble a i&&Nat.blt i (a+n) with
  | true=>true
  | false=>covs l i
def zl1 (c d:D):D:=match c,d with
 | .val (.slice none 0 0),.sl k _=>.sl k []
 | .val (.slice none 0 0),.osl k _=>.osl k []
 | _,_=>c
theorem zrX (c d):D.Le c (zl1 c d):=by
 unfold zl1
 split
 ·exact .nil _
 ·exact .onil _
 ·exact .refl _
def zlp (ps:List (Nat×Nat×D)):Nat→List D→List D→List D
 | i,c::cs,d::ds=>(match covs ps i with
  | true=>c
  | false=>zl1 c d)::zlp ps (i+1) cs ds
 | _,cs,[]=>cs
 | _,[],_=>[]
theorem lesR:∀ (cs:List D),D.Les cs cs
 | []=>.nil
 | _::cs=>.cons (.refl _) (lesR cs)
theorem zqS {ps}:∀ {cs:List D} (i:Nat) (ds:List D),D.Les cs (zlp ps i cs ds)
 | [],i,[]=>.nil
 | [],i,_::_=>.nil
 | c::cs,i,[]=>lesR _
 | c::cs,i,d::ds=>.cons (by
  split
  ·exact .refl _
  ·exact zrX c d) (zqS (i+1) ds)
theorem OpV.B {ev':Operand→Option V} {ds zc:List D} {parts:Array (Nat×Operand)} {ps:List (Nat×Nat×D)} {pl:List (Nat×Nat)} (e:D) (hz:zuY Tryz.prog t=some zc) (g:(e,o.op,tP t,zgQ ev' pl parts.toList,zv0 (zlp ps 0 zc ds) ps)=(.agg ds,.build t parts,some pl,some ps,some ds)):OpV Tryz.prog o ev' H (.d e):=by
 simp only [yg] at g
 obtain ⟨g1,g2,g3,g4,g5⟩:=g
 rw [g1];exact .build g2 (tP_ok g3) (.agg hz (zqS 0 ds)) g4 g5
end
theorem zto:(tXl.all λp=>slB Tryz.prog p.1 p.2)=true:=by kernel_rfl
theorem zwz {t k:Nat} (h:tX t=some k):∃ el,Tryz.prog.underlying t=some (.slice el)∧(Tryz.prog.info? el).map (·.size)=some k:=slAll zto h
theorem ztl:tCl.all (ztF Tryz.prog)=true:=by kernel_rfl
theorem zt3 {f:FuncId} (h:memN tCl f=true):ztF Tryz.prog f=true:=clAll ztl h
section
variable {C:Ctx} {ops:Array Oper} {Q:Exit→St→Prop} {o:Oper} {rest:List Oper} {s:St} {α β R:Type} {r:R}
theorem TriL.X {l:List α} {enc:α→D} {a:Int} {k:α→Option R} {x i:Operand} {t:TypeId} {kk:Nat} (h:(idx l a).bind k=some r) (g:(o.guard,zt2 o.dst C.n,o.op,ev s.T x,ev s.T i,tX t)=(none,true,.indexAddr t x i,some (.d (.sl kk (l.map enc))),some (.d (.int a)),some kk))
  (f:∀ v,k v=some r→TriL Tryz.prog C ops rest Q (s.put o.dst (.d (.ref (enc v))))):TriL Tryz.prog C ops (o::rest) Q s:=by
 simp only [yg] at g
 obtain ⟨g1,g2,g3,g4,g5,g6⟩:=g
 obtain ⟨v,hv,hk⟩:=zud h
 obtain ⟨el,u1,u2⟩:=zwz g6
 exact .op g1 g2 (.idx g3 g4 g5 u1 u2 hv) (f v hk)
theorem TriL.e {l:List α} {enc:α→D} {x:Operand} {t:TypeId} {kk k:Nat} (g:(o.guard,zt2 o.dst C.n,o.op,ev s.T x,tX t)=(none,true,.call { callee:=.builtin .len,args:=#[x],argTypes:=#[t] },some (.d (.sl k (l.map enc))),some kk)) (f:TriL Tryz.prog C ops rest Q (s.put o.dst (.d (.int l.length)))):TriL Tryz.prog C ops (o::rest) Q s:=by
 simp only [yg] at g
 obtain ⟨g1,g2,g3,g4,g5⟩:=g
 obtain ⟨el,u1,_⟩:=zwz g5
 exact .op g1 g2 (.len g3 u1 g4) f
theorem TriL.Z {m:Option β} {k:β→Option R} {enc:β→D} {f:FuncId} {args:Array Operand} {tys:Array TypeId} {xs:List D} (h:m.bind k=some r) (g:(o.guard,zt2 o.dst C.n,o.op,memN tCl f,evs (ev s.T) args.toList)=(none,true,.call { callee:=.value (.func f),args:=args,argTypes:=tys },true,some xs))
  (hp:∀ v,m=some v→Pure Tryz.prog f xs (enc v)) (c:∀ v,k v=some r→TriL Tryz.prog C ops rest Q (s.put o.dst (.d (enc v)))):TriL Tryz.prog C ops (o::rest) Q s:=by
 simp only [yg] at g
 obtain ⟨g1,g2,g3,g4,g5⟩:=g
 obtain ⟨v,hv,hk⟩:=zud h
 exact .op g1 g2 (.call g3 (zt3 g4) g5 (hp v hv)) (c v hk)
variable {N d:Nat} {H:List Blk} {al:List Ev} {K:List Ev→List (Nat×V)→Prop} {T:List (Nat×V)}
theorem TriQ.X {l:List α} {enc:α→D} {a:Int} {k:α→Option R} {x i:Operand} {t:TypeId} {kk:Nat} (h:(idx l a).bind k=some r) (g:(o.guard,o.dst,Nat.blt d N,zah o,o.op,ev T x,ev T i,tX t)=(none,some d,true,false,.indexAddr t x i,some (.d (.sl kk (l.map enc))),some (.d (.int a)),some kk))
  (f:∀ v,k v=some r→TriQ Tryz.prog N ops H rest al ((d,.d (.ref (enc v)))::T) K):TriQ Tryz.prog N ops H (o::rest) al T K:=by
 simp only [yg] at g
 obtain ⟨g1,g2,g2',g2'',g3,g4,g5,g6⟩:=g
 obtain ⟨v,hv,hk⟩:=zud h
 obtain ⟨el,u1,u2⟩:=zwz g6
 exact .op g1 g2 g2' g2'' (.idx g3 g4 g5 u1 u2 hv) (f v hk)
theorem TriQ.e {l:List α} {enc:α→D} {x:Operand} {t:TypeId} {kk k:Nat} (g:(o.guard,o.dst,Nat.blt d N,zah o,o.op,ev T x,tX t)=(none,some d,true,false,.call { callee:=.builtin .len,args:=#[x],argTypes:=#[t] },some (.d (.sl k (l.map enc))),some kk)) (f:TriQ Tryz.prog N ops H rest al ((d,.d (.int l.length))::T) K):TriQ Tryz.prog N ops H (o::rest) al T K:=by
 simp only [yg] at g
 obtain ⟨g1,g2,g2',g2'',g3,g4,g5⟩:=g
 obtain ⟨el,u1,_⟩:=zwz g5
 exact .op g1 g2 g2' g2'' (.len g3 u1 g4) f
theorem TriQ.qe {l:List α} {enc:α→D} {x:Operand} {t:TypeId} {kk k j w:Nat} {b:Bool} (g:(o.guard,(ops[j]?).bind (·.dst),look w T,o.dst,Nat.blt d N,zah o,o.op,ev T x,tX t)=(some (j,b),some w,some (.d (.bool b)),some d,true,false,.call { callee:=.builtin .len,args:=#[x],argTypes:=#[t] },some (.d (.sl k (l.map enc))),some kk)) (f:TriQ Tryz.prog N ops H rest al ((d,.d (.int l.length))::T) K):TriQ Tryz.prog N ops H (o::rest) al T K:=by
 simp only [yg] at g
 obtain ⟨g0,g1,g2,g2',g2'',g3,g4,g5,g6⟩:=g
 obtain ⟨el,u1,_⟩:=zwz g6
 exact .gop g0 g1 g2 g2' g2'' g3 (.len g4 u1 g5) f
theorem TriQ.Z {m:Option β} {k:β→Option R} {enc:β→D} {f:FuncId} {args:Array Operand} {tys:Array TypeId} {xs:List D} (h:m.bind k=some r) (g:(o.guard,o.dst,Nat.blt d N,zah o,o.op,memN tCl f,evs (ev T) args.toList)=(none,some d,true,false,.call { callee:=.value (.func f),args:=args,argTypes:=tys },true,some xs))
  (hp:∀ v,m=some v→Pure Tryz.prog f xs (enc v)) (c:∀ v,k v=some r→TriQ Tryz.prog N ops H rest al ((d,.d (enc v))::T) K):TriQ Tryz.prog N ops H (o::rest) al T K:=by
 simp only [yg] at g
 obtain ⟨g1,g2,g2',g2'',g3,g4,g5⟩:=g
 obtain ⟨v,hv,hk⟩:=zud h
 exact .op g1 g2 g2' g2'' (.call g3 (zt3 g4) g5 (hp v hv)) (c v hk)
end
end
section
def zvF:Nat→Prop:=λ_=>False
structure Dec (P:Program) (t:TypeId) (α:Type) where
 k:Nat
 pos:0<k
 cells:P.cellsOf t=k
 flat:α→List D
 el:α→D
 good:α→Prop
 opens:∀ {H:Type} {enc:TypeId×Value→H} {w:World} {sp:Nat→Bool} {held:Bool} {fuel:Nat} {cs:List Value} {x:DataW H×List MemPlace},DataW.trod enc P w 0 sp held fuel t cs=some x→∃ a,D.reps zvF w (flat a) cs∧good a
 elOK:∀ {w:World} {a:α} {cs:List Value},D.reps zvF w (flat a) cs→∃ u,D.rep zvF w (el a) u∧u.cells.toList=cs
 arg:∀ {w:World} {r:Reach} {base:Nat} {v:Value} {a:α},Value.okWide P w r base t v→D.reps zvF w (flat a) v.cells.toList→D.rep zvF w (el a) v
theorem zgD {A w d v} (h:D.rep A w d v):D.reps A w [d] [v]:=by
 simp only [D.reps];simp_all
theorem zcn {A w d cs} (h:D.reps A w [d] cs):∃ v,cs=[v]∧D.rep A w d v:=by
 simp only [D.reps] at h;simp_all
theorem zoA {A w}:∀ {xs ys} {vs us},D.reps A w xs vs→D.reps A w ys us→D.reps A w (xs++ys) (vs++us)
 | [],ys,vs,us,h,k=>by grind [D.reps]
 | x::xs,ys,vs,us,h,k=>by
  obtain ⟨v,a,rfl,c,b⟩:=h;exact ⟨v,a++us,rfl,c,zoA b k⟩
variable {P:Program}
theorem zp1 {n} (h:(Lit.int .i64 n).wf=true) : -9223372036854775808≤n∧n≤9223372036854775807:=by
 have b:IntKind.min .i64 = -9223372036854775808:=by decide
 have a:IntKind.max .i64=9223372036854775807:=by decide
 simp only [Lit.wf,yd,yf] at h;exact h
def zs6 {t:TypeId} (ht:P.underlying t=some (.int .i64)) (hc:P.cellsOf t=1):Dec P t Int where
 k:=1
 pos:=by decide
 cells:=hc
 flat n:=[.int n]
 el n:=.int n
 good n:=-9223372036854775808≤n∧n≤9223372036854775807
 opens h:=by
  obtain ⟨n,rfl,-,hr⟩:=DataW.trod_int ht h;exact ⟨n,zgD (by simp only [D.rep]),zp1 hr⟩
 elOK {w a cs} h:=by
  obtain ⟨v,rfl,h1⟩:=zcn h;simp only [D.rep] at h1;subst h1;exact ⟨.int .i64 a,by simp only [D.rep],rfl⟩
 arg hv h:=by
  obtain ⟨n,rfl⟩:=WideShapes.okWide_int ht hv;obtain ⟨v,hv',h1⟩:=zcn h;obtain rfl:=List.head_eq_of_cons_eq hv';exact h1
def zr8 {t:TypeId} (ht:P.underlying t=some .bool) (hc:P.cellsOf t=1):Dec P t Bool where
 k:=1
 pos:=by decide
 cells:=hc
 flat n:=[.bool n]
 el n:=.bool n
 good _:=True
 opens h:=by
  obtain ⟨n,rfl,-⟩:=DataW.trod_bool ht h;exact ⟨n,zgD (by simp only [D.rep]),trivial⟩
 elOK {w a cs} h:=by
  obtain ⟨v,rfl,h1⟩:=zcn h;simp only [D.rep] at h1;subst h1;exact ⟨.bool a,by simp only [D.rep],rfl⟩
 arg hv h:=by
  obtain ⟨n,rfl⟩:=WideShapes.okWide_bool ht hv;obtain ⟨v,hv',h1⟩:=zcn h;obtain rfl:=List.head_eq_of_cons_eq hv';exact h1
def zs7 {t:TypeId} (ht:P.underlying t=some .string) (hc:P.cellsOf t=1):Dec P t (List UInt8) where
 k:=1
 pos:=by decide
 cells:=hc
 flat s:=[.str s]
 el s:=.str s
 good _:=True
 opens h:=by
  obtain ⟨s,rfl,-,-⟩:=DataW.trod_string ht h;exact ⟨s.data.toList,zgD (by simp only [D.rep]),trivial⟩
 elOK {w a cs} h:=by
  obtain ⟨v,rfl,h1⟩:=zcn h;simp only [D.rep] at h1;subst h1;exact ⟨.string ⟨a.toArray⟩,by simp only [D.rep],rfl⟩
 arg hv h:=by
  obtain ⟨n,rfl⟩:=WideShapes.okWide_string ht hv;obtain ⟨v,hv',h1⟩:=zcn h;obtain rfl:=List.head_eq_of_cons_eq hv';exact h1
theorem zja {α} {t e:TypeId} (d:Dec P e α) {H} {enc} {w} {sp} {held} {n} {b off}:∀ (m) (DD:Nat→DataW H) (Pl:Nat→List MemPlace) (o),
  (∀ i,i<m→∃ cs',w.cells? 0 ((⟨b,off,none⟩:Addr).add ((o+i)*P.cellsOf e)) (P.cellsOf e)=some cs'∧DataW.trod enc P w 0 sp held n e cs'=some (DD i,Pl i))→∃ l:List α,(l.length=m∧∀ x∈l,d.good x)∧D.row zvF w b d.k (l.map d.el) (off+o*d.k)
 | 0,_,_,_,_=>⟨[],⟨rfl,by simp⟩,by grind [D.row]⟩
 | m+1,DD,Pl,o,h=>by
  obtain ⟨cs',p,q⟩:=h 0 (by omega);obtain ⟨a,r,E⟩:=d.opens q;obtain ⟨u,c,f⟩:=d.elOK r;obtain ⟨l,⟨s,v⟩,y⟩:=zja (t:=t) d m (λi=>DD (i+1)) (λi=>Pl (i+1)) (o+1) (λi C=>by
   have:=h (i+1) (by omega)
   rwa [show o+(i+1)=o+1+i by omega] at this)
  refine ⟨a::l,⟨by grind,λx B=>by
   grind⟩,?_⟩
  obtain ⟨-,z,A⟩:=World.cells?_some p;have g:u.cells.size=d.k:=by rw [← yF,f,z,d.cells]
  refine ⟨⟨u,c,λj F=>?_,g⟩,?_⟩
  ·have:=A j (by grind);rw [uy,d.cells,Deep.add_add] at this;have k:(⟨b,off,none⟩:Addr).add (o*d.k+j)=⟨b,off+o*d.k+j,none⟩:=by
    unfold Addr.add
    grind
   grind
  grind
def zwn {α:Type} {t e:TypeId} (d:Dec P e α) (ht:P.underlying t=some (.slice e)) (hc:P.cellsOf t=1):Dec P t (List α) where
 k:=1
 pos:=by decide
 cells:=hc
 flat l:=[.sl d.k (l.map d.el)]
 el l:=.sl d.k (l.map d.el)
 good l:=∀ x∈l,d.good x
 opens {H enc w sp held fuel cs x} h:=by
  rcases Deep.open_slice ht h with ⟨rfl,-⟩ | ⟨a,len,cap,m,n,DD,Pl,rfl,-,hl,-,hm,-,hx⟩
  ·exact ⟨[],zgD (by simp only [List.map_nil,D.rep,uj];exact ⟨none,0,rfl,ym _,.inl trivial⟩),by simp⟩
  ·have hlm:len≤m:=by rw [hm];split <;> omega
   cases len with
   | zero=>exact ⟨[],zgD (by simp only [List.map_nil,D.rep,uj];exact ⟨_,cap,rfl,yo _,.inl trivial⟩),by simp⟩
   | succ len=>
    obtain ⟨cs',h1,h2⟩:=hx 0 (by omega);obtain ⟨-,c2,c3⟩:=World.cells?_some h1;have hp:=d.pos;have h0:=c3 0 (by rw [d.cells];omega);rw [Nat.zero_mul] at h0;have ha:(a.add 0).add 0=a:=by simp [Addr.add]
    rw [ha] at h0;have hsome:∃ v,w.cell? a=some v:=by
     rw [h0];exact ⟨_,yw (show 0<cs'.length by rw [c2,d.cells];omega)⟩
    obtain ⟨v,hv⟩:=hsome;obtain ⟨b,off,sp'⟩:=a;have hsp:sp'=none:=by
     unfold World.cell? at hv;simp only [] at hv;split at hv
     ·cases sp' with
      | none=>rfl
      | some z=>simp at hv
     ·cases hv
    subst hsp;have hb:b<w.heap.size:=by
     unfold World.cell? at hv;simp only [] at hv;split at hv
     ·rename_i hh;exact (yk.1 hh).1
     ·cases hv
    obtain ⟨l,⟨l1,lg⟩,l2⟩:=zja (t:=t) d (b:=b) (off:=off) (len+1) DD Pl 0 (λi hi=>by
     obtain ⟨cs2,q1,q2⟩:=hx i (by omega);exact ⟨cs2,by rw [uh];exact q1,q2⟩)
    refine ⟨l,zgD ?_,lg⟩;simp only [D.rep];refine ⟨_,cap,by rw [yK,l1],by rw [yK,l1];exact hl,.inr ⟨b,off,rfl,λhf=>hf,hb,?_⟩⟩;simpa using l2
 elOK h:=by
  obtain ⟨v,rfl,h1⟩:=zcn h;refine ⟨v,h1,?_⟩;simp only [D.rep] at h1;obtain ⟨a,cap,rfl,-⟩:=h1;rfl
 arg hv h:=by
  obtain ⟨b,len,cap,rfl⟩:=WideShapes.okWide_slice ht hv;obtain ⟨v,hv',h1⟩:=zcn h;obtain rfl:=List.head_eq_of_cons_eq hv';exact h1
structure DecF (P:Program) (off:Nat) (fs:List Field) (α:Type) where
 k:Nat
 flat:α→List D
 good:α→Prop
 opens:∀ {H:Type} {enc:TypeId×Value→H} {w:World} {sp:Nat→Bool} {held:Bool} {fuel:Nat} {cs:List Value},cs.length=off+k →
  (∀ f∈fs,∃ x:DataW H×List MemPlace,DataW.trod enc P w 0 sp held fuel f.type ((cs.drop f.offset).take (P.cellsOf f.type))=some x)→∃ a,D.reps zvF w (flat a) (cs.drop off)∧good a
def fNil {off:Nat}:DecF P off [] Unit where
 k:=0
 flat _:=[]
 good _:=True
 opens hl _:=⟨(),by rw [List.drop_of_length_le (by omega)];simp only [D.reps],trivial⟩
def zue {α β:Type} {off off':Nat} {f:Field} {fs:List Field} {t:TypeId} (d:Dec P t α) (ht:f.type=t) (ho:f.offset=off) (r:DecF P off' fs β) (hoff:off+d.k=off'):DecF P off (f::fs) (α×β) where
 k:=d.k+r.k
 flat a:=d.flat a.1++r.flat a.2
 good a:=d.good a.1∧r.good a.2
 opens {H enc w sp held fuel cs} hl h:=by
  subst hoff;obtain ⟨x,hx⟩:=h f (by simp);rw [ht,ho,d.cells] at hx;obtain ⟨a,ha,ga⟩:=d.opens hx;obtain ⟨b,hb,gb⟩:=r.opens (by omega) λg hg=>h g (by simp [hg])
  refine ⟨(a,b),?_,ga,gb⟩;have e:cs.drop off=(cs.drop off).take d.k++cs.drop (off+d.k):=by
   rw [← List.drop_drop,uz]
  rw [e];exact zoA ha hb
def decS {α β:Type} {t:TypeId} {fs:Array Field} (ht:P.underlying t=some (.struct fs)) (F:DecF P 0 fs.toList α) (hc:P.cellsOf t=F.k) (hp:0<F.k) (mk:α→β) (flat:β→List D) (hflat:∀ a,flat (mk a)=F.flat a):Dec P t β where
 k:=F.k
 pos:=hp
 cells:=hc
 flat:=flat
 el b:=.agg (flat b)
 good b:=∃ a,mk a=b∧F.good a
 opens {H enc w sp held fuel cs x} h:=by
  obtain ⟨xs,n,-,-,hl,hsz,hf⟩:=DataW.trod_struct ht h;obtain ⟨a,ha,ga⟩:=F.opens (enc:=enc) (w:=w) (sp:=sp) (held:=held) (fuel:=n) (cs:=cs) (by omega) λf hm=>by
   obtain ⟨i,hi,rfl⟩:=List.mem_iff_getElem.1 hm;have h1:=hf i _ (by rw [← yZ];exact yw hi);rw [h1];have hix:i<xs.length:=by rw [hsz,← yF];exact hi
   exact ⟨_,yw hix⟩
  refine ⟨mk a,?_,a,rfl,ga⟩;rw [hflat];simpa using ha
 elOK {w a cs} h:=by
  refine ⟨.agg cs.toArray,?_,rfl⟩;simp only [D.rep];exact ⟨cs.toArray,rfl,by simpa using h⟩
 arg {w r base v a} hv h:=by
  obtain ⟨cs,rfl,-⟩:=WideShapes.okWide_struct ht hv;simp only [D.rep];exact ⟨cs,rfl,h⟩
theorem Dec.zyc {α} {t} (d:Dec P t α) {H} {enc} {w sp held} {r} {base v} {dd:DataW H} {ps} (hv:Value.okWide P w r base t v) (h:DataW.Trod enc P w 0 sp held t v dd ps):∃ a,D.rep zvF w (d.el a) v:=by
 obtain ⟨b,e⟩:=h;obtain ⟨a,c,-⟩:=d.opens e;exact ⟨a,d.arg hv c⟩
variable [Drw]
theorem zib {H} {enc} (hl:laidOutB P=true) {W W'} (hb:Fr ze W W') {sp}:∀ {ts} {vs} {ds:List (DataW H)} {ps},(∀ t∈ts,P.readableRec t=true∧t<P.types.size)→DataW.TrodAll enc P W 0 (λ_=>true) true ts vs ds ps→(∀ p∈ps,p.block<W.heap.size)→(∀ p∈ps,sp p.block=true)→DataW.TrodAll enc P W' 0 sp true ts vs ds ps
 | [],vs,ds,ps,_,h,_,_=>by
  obtain ⟨rfl,rfl,rfl⟩:=ChangeShapes.trodAll_nil h;exact ChangeShapes.trodAll_mk0
 | t::ts,vs,ds,ps,e,h,a,g=>by
  obtain ⟨v,i,d,l,p,q,rfl,rfl,rfl,j,k⟩:=ChangeShapes.trodAll_cons h;refine ⟨p,q,WideElems.Trod_stays hl (e t (by simp)).1 (e t (by simp)).2 j (λx f=>?_) (λx f=>g x (by grind)),zib hl hb (λu m=>e u (by grind)) k (λx f=>a x (by grind)) (λx f=>g x (by grind)),rfl⟩;have c:=a x (by grind);cases x with
  | cell b o=>exact World.cell?_of_block (w:=W) (hb.block b c (λh=>h))
  | map b=>exact hb.block b c (λh=>h)
theorem zqi {H} {enc} {f} {s:ChangeSpec} {W W' args v} {ds gs} {before}
  (hW:DataW.Whole enc P f.params.toList s.vars false W args.toList ds gs before) (hvars:s.vars=[]) (hx:(s.fn H (ds++gs)).args=ds) (hy:(s.fn H (ds++gs)).vars=[])
  (hl:laidOutB P=true) (hr:∀ t∈f.params.toList,P.readableRec t=true∧t<P.types.size) (hf:Fr ze W W')
  (hres:∀ (b) (sp) (hd),DataW.TrodAll enc P W' b sp hd f.resultTypes.toList (v.resultList f.resultTypes.size) (s.fn H (ds++gs)).results []) :
  s.post enc P f false true false false W args v W':=by
 have e:Below W.heap.size W W':=⟨hf.os,hf.tape,hf.output,hf.size,λk j=>hf.block k j λh=>h⟩
 have i :=λp g=>hW.lt p g
 obtain ⟨p,q,l,d,rfl,-,-⟩:=id hW;rw [hvars] at d;obtain ⟨rfl,rfl⟩:=ChangeShapes.trodVars_none d;have a:∀ sp ,(∀ x∈p,sp x.block=true)→DataW.TrodAll enc P W' 0 sp true f.params.toList args.toList (s.fn H (ds++[])).args p:=λsp m=>by
  grind [zib]
 have c:∀ sp ,DataW.TrodVars enc P W' sp s.vars (s.fn H (ds++[])).vars []:=λsp=>by
  rw [hvars,hy];rfl
 exact ⟨ds,[],p++[],[],p,[],hW,hres _ _ _,a _ (λx hx=>by simp_all),c _,e.frame _,λh=>by cases h⟩
end
noncomputable def dInt:Dec Tryz.prog 3 Int:=zs6 Tryz.underlying3 (by kernel_rfl)
noncomputable def dBool:Dec Tryz.prog 4 Bool:=zr8 Tryz.underlying4 (by kernel_rfl)
noncomputable def dStr:Dec Tryz.prog 9 (List UInt8):=zs7 Tryz.underlying9 (by kernel_rfl)
noncomputable def zxY:Dec Tryz.prog 22 (List Int):=zwn dInt Tryz.underlying22 (by kernel_rfl)
noncomputable def dStrs:Dec Tryz.prog 24 (List (List UInt8)):=zwn dStr Tryz.underlying24 (by kernel_rfl)
noncomputable def zs3:Dec Tryz.prog 83 Range:=decS (α:=Int×Int×Unit) Tryz.underlying83 (zue dInt rfl rfl (zue dInt rfl rfl fNil rfl) rfl) (by kernel_rfl) (by decide) (λx=>⟨x.1,x.2.1⟩) (λx=>[.int x.lo,.int x.hi]) (λ_=>rfl)
noncomputable def dTerm:Dec Tryz.prog 109 Term:=decS (α:=Int×Int×Unit) Tryz.underlying109 (zue dInt rfl rfl (zue dInt rfl rfl fNil rfl) rfl) (by kernel_rfl) (by decide) (λx=>⟨x.1,x.2.1⟩) (λx=>[.int x.cell,.int x.ztE]) (λ_=>rfl)
noncomputable def zs5:Dec Tryz.prog 53 (List Term):=zwn dTerm Tryz.underlying53 (by kernel_rfl)
noncomputable def dRow:Dec Tryz.prog 55 Row:=decS (α:=List Term×Int×Unit) Tryz.underlying55 (zue zs5 rfl rfl (zue dInt rfl rfl fNil rfl) rfl) (by kernel_rfl) (by decide) (λx=>⟨x.1,x.2.1⟩) (λx=>[.sl 2 (x.zty.map Term.enc),.int x.bound]) (λ_=>rfl)
noncomputable def zs4:Dec Tryz.prog 107 Table:=decS (α:=List UInt8×Int×List Int×Range×Int×Unit) Tryz.underlying107 (zue dStr rfl rfl (zue dInt rfl rfl (zue zxY rfl rfl (zue zs3 rfl rfl (zue dInt rfl rfl fNil rfl) rfl) rfl) rfl) rfl) (by kernel_rfl) (by decide) (λx=>⟨x.1,x.2.1,x.2.2.1,x.2.2.2.1,x.2.2.2.2.1⟩) (λx=>[.str x.name,.int x.kind,.sl 1 (x.ztv.map D.int),.int x.range.lo,.int x.range.hi,.int x.first]) (λ_=>rfl)
noncomputable def zr5:Dec Tryz.prog 23 (List Table):=zwn zs4 Tryz.underlying23 (by kernel_rfl)
noncomputable def dCon:Dec Tryz.prog 57 Constraint:=decS (α:=Int×Int×Row×Int×Int×Unit) Tryz.underlying57 (zue dInt rfl rfl (zue dInt rfl rfl (zue dRow rfl rfl (zue dInt rfl rfl (zue dInt rfl rfl fNil rfl) rfl) rfl) rfl) rfl) (by kernel_rfl) (by decide) (λx=>⟨x.1,x.2.1,x.2.2.1,x.2.2.2.1,x.2.2.2.2.1⟩) (λx=>[.int x.kind,.int x.family,.sl 2 (x.row.zty.map Term.enc),.int x.row.bound,.int x.first,.int x.size]) (λ_=>rfl)
noncomputable def dCons:Dec Tryz.prog 25 (List Constraint):=zwn dCon Tryz.underlying25 (by kernel_rfl)
noncomputable def dOper:Dec Tryz.prog 111 zt7:=decS (α:=List UInt8×Bool×List Int×Unit) Tryz.underlying111 (zue dStr rfl rfl (zue dBool rfl rfl (zue zxY rfl rfl fNil rfl) rfl) rfl) (by kernel_rfl) (by decide) (λx=>⟨x.1,x.2.1,x.2.2.1⟩) (λx=>[.str x.name,.bool x.ordered,.sl 1 (x.ztB.map D.int)]) (λ_=>rfl)
noncomputable def zs1:Dec Tryz.prog 26 (List zt7):=zwn dOper Tryz.underlying26 (by kernel_rfl)
noncomputable def zr3:Dec Tryz.prog 113 Change:=decS (α:=Int×Int×Unit) Tryz.underlying113 (zue dInt rfl rfl (zue dInt rfl rfl fNil rfl) rfl) (by kernel_rfl) (by decide) (λx=>⟨x.1,x.2.1⟩) (λx=>[.int x.cell,.int x.add]) (λ_=>rfl)
noncomputable def zqY:Dec Tryz.prog 73 (List Change):=zwn zr3 Tryz.underlying73 (by kernel_rfl)
noncomputable def dRows:Dec Tryz.prog 74 (List Row):=zwn dRow Tryz.underlying74 (by kernel_rfl)
noncomputable def zr7:Dec Tryz.prog 243 zva:=decS (α:=Int×Int×Int×Unit) Tryz.underlying243 (zue dInt rfl rfl (zue dInt rfl rfl (zue dInt rfl rfl fNil rfl) rfl) rfl) (by kernel_rfl) (by decide) (λx=>⟨x.1,x.2.1,x.2.2.1⟩) (λx=>[.int x.kind,.int x.cell,.int x.value]) (λ_=>rfl)
noncomputable def zqZ:Dec Tryz.prog 75 (List zva):=zwn zr7 Tryz.underlying75 (by kernel_rfl)
noncomputable def zr4:Dec Tryz.prog 77 zt4:=decS (α:=List Change×List Row×List zva×Unit) Tryz.underlying77 (zue zqY rfl rfl (zue dRows rfl rfl (zue zqZ rfl rfl fNil rfl) rfl) rfl) (by kernel_rfl) (by decide) (λx=>⟨x.1,x.2.1,x.2.2.1⟩) (λx=>[.sl 2 (x.delta.map Change.enc),.sl 2 (x.hold.map Row.enc),.sl 3 (x.ztD.map zva.enc)]) (λ_=>rfl)
noncomputable def zr2:Dec Tryz.prog 79 Action:=decS (α:=Int×List Int×zt4×Unit) Tryz.underlying79 (zue dInt rfl rfl (zue zxY rfl rfl (zue zr4 rfl rfl fNil rfl) rfl) rfl) (by kernel_rfl) (by decide) (λx=>⟨x.1,x.2.1,x.2.2.1⟩) (λx=>[.int x.operation,.sl 1 (x.arguments.map D.int),.sl 2 (x.effect.delta.map Change.enc),.sl 2 (x.effect.hold.map Row.enc),.sl 3 (x.effect.ztD.map zva.enc)]) (λ_=>rfl)
noncomputable def zqX:Dec Tryz.prog 27 (List Action):=zwn zr2 Tryz.underlying27 (by kernel_rfl)
noncomputable def dHide:Dec Tryz.prog 202 Hide:=decS (α:=Int×Int×Int×Unit) Tryz.underlying202 (zue dInt rfl rfl (zue dInt rfl rfl (zue dInt rfl rfl fNil rfl) rfl) rfl) (by kernel_rfl) (by decide) (λx=>⟨x.1,x.2.1,x.2.2.1⟩) (λx=>[.int x.table,.int x.column,.int x.to]) (λ_=>rfl)
noncomputable def zsZ:Dec Tryz.prog 28 (List Hide):=zwn dHide Tryz.underlying28 (by kernel_rfl)
noncomputable def zs0:Dec Tryz.prog 30 Model:=decS (α:=List Int×List Table×List (List UInt8)×List Constraint×List zt7×List Action×List Hide×Unit) Tryz.underlying30 (zue zxY rfl rfl (zue zr5 rfl rfl (zue dStrs rfl rfl (zue dCons rfl rfl (zue zs1 rfl rfl (zue zqX rfl rfl (zue zsZ rfl rfl fNil rfl) rfl) rfl) rfl) rfl) rfl) rfl) (by kernel_rfl) (by decide) (λx=>⟨x.1,x.2.1,x.2.2.1,x.2.2.2.1,x.2.2.2.2.1,x.2.2.2.2.2.1,x.2.2.2.2.2.2.1⟩) (λx=>[.sl 1 (x.ztB.map D.int),.sl 6 (x.tables.map Table.enc),.sl 1 (x.ztI.map D.str),.sl 6 (x.constraints.map Constraint.enc),.sl 3 (x.ztx.map zt7.enc),.sl 5 (x.ztw.map Action.enc),.sl 3 (x.ztK.map Hide.enc)]) (λ_=>rfl)
noncomputable def zr6:Dec Tryz.prog 32 Target:=decS (α:=Bool×Int×Unit) Tryz.underlying32 (zue dBool rfl rfl (zue dInt rfl rfl fNil rfl) rfl) (by kernel_rfl) (by decide) (λx=>⟨x.1,x.2.1⟩) (λx=>[.bool x.hold,.int x.index]) (λ_=>rfl)
noncomputable def zs2:Dec Tryz.prog 34 Question:=decS (α:=Int×Int×Target×Unit) Tryz.underlying34 (zue dInt rfl rfl (zue dInt rfl rfl (zue zr6 rfl rfl fNil rfl) rfl) rfl) (by kernel_rfl) (by decide) (λx=>⟨x.1,x.2.1,x.2.2.1⟩) (λx=>[.int x.e,.int x.f,.bool x.target.hold,.int x.target.index]) (λ_=>rfl)
theorem type0:(((begin Tryz.prog (λ_ _=>0) default).world.heap[0]?).bind Obj.row?).map (·.2)=some 336:=by kernel_rfl
theorem zsa {W} (hL:laidMetH Tryz.prog Rows.pairDecidesRow.laid W) (hS:W.ShapedOpen Tryz.prog):zdh zvF W:=by
 intro p f;have e :=by simpa [ztC.gs] using f
 refine ⟨λh=>h,?_⟩;have e:(Rows.laid_strings_asciiSpace:DataW Unit)=Lib.tabData .u8 tab0:=by kernel_rfl
 have c : laidMet Tryz.prog [("strings.asciiSpace", Lib.tabData .u8 tab0)] W := by rw [← e]; exact hL.tail
 have d  := Lib.tabIs_of_head (g := 0) (t := 336) (e := 5) (n := 256) (by kernel_rfl) (by kernel_rfl) Tryz.underlying336 Tryz.underlying5 (by kernel_rfl) (by kernel_rfl) c;obtain ⟨⟨a, t⟩, i, rfl⟩ := Option.map_eq_some_iff.1 type0;obtain ⟨k, j, -, -⟩ := hS.1 0 a 336 (by simp_all) i;have b := d;unfold Lib.TabIs World.var? at b;rw [show Tryz.prog.globalNamed "strings.asciiSpace" = some 0 by kernel_rfl] at b;simp_all
end Go.Proofs.YtipkniadbkndfaaGreatDoor
