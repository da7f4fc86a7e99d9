/- Parts of the proof: the layer that reads Go values as data, and what the functions of the program tell. -/
import Derived.RangeFuncRecord
import Derived.Shelf.SlSortCmp.NoneTotal
import Derived.WideKeyArgs
import Derived.ChangeOld
import Derived.Handed
import Derived.JoinedOf
import Derived.Carry
import Derived.RowKit
import Derived.MapKept
import Derived.Maps.RangeRun
import Derived.Shelf.Sort.Plain
import Derived.Shelf.Slices.In.SortNone
import Derived.Laws.IdiomStrings
import Derived.Lib.BufferRead
import Derived.RecoverIn
import Derived.TacticsIn
import Derived.Test.YtjjlfapfjjkomaaGreatProg
import Derived.KernelRfl
import Derived.Test.YtjjlfapfjjkomaaGreatK2
set_option linter.unusedVariables false
set_option linter.unusedSimpArgs false
namespace Go.Ab
open Go.RowKit
section
variable {J:Job} {nx:Nat} {ρ:Nat→Value} {fr:Fr} {hp:Hp} {a:Act} {w w':World} {k:List It} {ops:Array Oper} {rest:List Oper} {o:Oper}
variable {α β γ:Type} {T:GoT α}
theorem zcf {n ty:Nat} {x:α} (hn:hp n = .box ty T x):zhe J hp (.ptr n 0) (.rptr T x):=zhb rfl hn (Lens.self T)
theorem zfX {n ty:Nat} {X:AV} {x:α} (h:X = .ptr n 0) (hn:hp n = .box ty T x):zhe J hp X (.rptr T x):=h▸zcf hn
theorem run_clo {x : Operand} {f : FuncId} {caps : List Nat} {xs : Array Operand} {ts : Array TypeId} {As Cs : List AV} {X : AV} (hc : Tells J.P f (As ++ Cs) X) (ho : o.op = .call { callee := .value x, args := xs, argTypes := ts }) (hx : fr.ev x = .clo f caps) (hf : fnB J.P f = true) (ha : zis J fr hp xs.toList As)
    (hb:∀n∈caps,∃ty,∃(γ:Type) (T:GoT γ) (x:γ),hp n = .box ty T x) (hcs:zmo J hp caps Cs) (s:SimR J nx ρ fr hp a w) :
    (execOp a.eval o).run J.P w = .ok (.enter f (xs.map a.eval++(caps.map ρ).toArray)) w∧Calls J.P f (xs.map a.eval++(caps.map ρ).toArray) w (zna (Uu J ρ hp) w X):=by
  obtain⟨fn,h1,h2,h3⟩:=zb0 hf;have hv:=zao s x;rw[hx] at hv;have hv:a.eval x=_:=hv;refine⟨zho ho hv h1 h2 h3,?_⟩;have hargs:=zg0 (s:=s.toSimH) (a:=a) (fun y _=>zao s y) ha;have hcaps:=zk2 s.toSimH hcs fun n hn=>by
    obtain⟨ty,γ,T,x,e⟩:=hb n hn
    have:=s.hrel n
    rw[e] at this;obtain⟨g,_,e,_⟩:=this;exact⟨g,e⟩
  have e:(xs.toList.map a.eval++caps.map ρ).toArray=xs.map a.eval++(caps.map ρ).toArray:=ycp
  have:=hc (Uu J ρ hp) w _ (fun b hb=>s.uu_lt hb) (zca.append hargs hcaps)
  rw[e] at this;exact this
theorem zfi {x : Operand} {f : FuncId} {caps : List Nat} {xs : Array Operand} {ts : Array TypeId} {As Cs : List AV} {d e : Nat} {l : List α} {X : AV} (hc : Tells J.P f (As ++ Cs) (.tup2 (.fresh e T l) X)) (ho : o.op = .call { callee := .value x, args := xs, argTypes := ts }) (hx : fr.ev x = .clo f caps) (hf : fnB J.P f = true) (ha : zis J fr hp xs.toList As)
    (hb:∀n∈caps,∃ty,∃(γ:Type) (T:GoT γ) (x:γ),hp n = .box ty T x) (hcs:zmo J hp caps Cs) (hX:Flat X)
    (hd:o.dst=some d) (hg:o.guard=none) (hlt:Nat.blt d J.nt=true) (H:AW J (nx+1) (fr.set d (.tup2 (.own nx) X)) (hp.set nx (.row e T l)) (.ops ops rest::k)):AW J nx fr hp (.ops ops (o::rest)::k):=by
  intro a w ⟨ρ,s⟩;refine z6 hg yt fun K hK=>?_
  obtain⟨hr,hcall⟩:=run_clo hc ho hx hf ha hb hcs s;unfold Oper.wp;rw[hr,Oper.upon_enter];refine Calls.mono hcall fun en w' he=>?_
  cases en with
  | returned v =>
    obtain⟨hb,x,y,rfl,hx,hy⟩:=he;rw[hd];exact hK _ _ (H _ _ ⟨_,(zjt s hb hx).put yM ⟨x,y,rfl,yZ,hX.2 _ _ _ _ _ _ _ _ _ _ _ hy⟩ ⟨Nat.lt_succ_self nx,AV.under_mono (uf _) (AV.under0_spec hX.1)⟩⟩)
  | panicked c=>exact he.elim
  | outgrown=>exact he.elim
theorem zgt {x : Operand} {f : FuncId} {caps : List Nat} {xs : Array Operand} {ts : Array TypeId} {As Cs : List AV} {d e : Nat} {l : List α} {X Y : AV} (hc : Tells J.P f (As ++ Cs) (.tup3 (.fresh e T l) X Y)) (ho : o.op = .call { callee := .value x, args := xs, argTypes := ts }) (hx : fr.ev x = .clo f caps) (hf : fnB J.P f = true) (ha : zis J fr hp xs.toList As)
    (hb:∀n∈caps,∃ty,∃(γ:Type) (T:GoT γ) (x:γ),hp n = .box ty T x) (hcs:zmo J hp caps Cs) (hX:Flat X) (hY:Flat Y)
    (hd:o.dst=some d) (hg:o.guard=none) (hlt:Nat.blt d J.nt=true) (H:AW J (nx+1) (fr.set d (.tup3 (.own nx) X Y)) (hp.set nx (.row e T l)) (.ops ops rest::k)):AW J nx fr hp (.ops ops (o::rest)::k):=by
  intro a w ⟨ρ,s⟩;refine z6 hg yt fun K hK=>?_
  obtain⟨hr,hcall⟩:=run_clo hc ho hx hf ha hb hcs s;unfold Oper.wp;rw[hr,Oper.upon_enter];refine Calls.mono hcall fun en w' he=>?_
  cases en with
  | returned v =>
    obtain⟨hb,x,y,z,rfl,hx,hy,hz⟩:=he;rw[hd];exact hK _ _ (H _ _ ⟨_,(zjt s hb hx).put yM ⟨x,y,z,rfl,yZ,hX.2 _ _ _ _ _ _ _ _ _ _ _ hy,hY.2 _ _ _ _ _ _ _ _ _ _ _ hz⟩ ⟨Nat.lt_succ_self nx,AV.under_mono (uf _) (AV.under0_spec hX.1),AV.under_mono (uf _) (AV.under0_spec hY.1)⟩⟩)
  | panicked c=>exact he.elim
  | outgrown=>exact he.elim
end
end Go.Ab
namespace Go.Ab
open Go.RowKit
def fnoT:GoT (Option Nat):=scT (fun f=>match f with|none=>.nilFunc|some f=>.func (.func f) #[] #[]) (fun _=>True) (fun x=>by cases x<;>rfl)
instance:Strict fnoT:=zf1 _ _ _
theorem zero_fno:Zero fnoT none [.nilFunc]:=fun _ _ _=>⟨rfl,trivial⟩
def FnOp (y:Operand) (x:Option Nat):Prop:=∃f,y = .func f∧x=some f
section
variable {J:Job} {nx:Nat} {fr:Fr} {hp:Hp} {k:List It} {ops:Array Oper} {rest:List Oper} {o:Oper}
theorem zv2 {fr:Fr} {ρ:Nat→Value} {B U N:Nat→Prop} {w:World} {y:Operand} {x:Option Nat} {v:Value} (h:FnOp y x) (hv:(fr.ev y).rel ρ B U N w v):fnoT.val U N w x v:=by
  obtain⟨f,rfl,rfl⟩:=h;have hv:v = .func (.func f) #[] #[]:=hv;exact znj.2 ⟨hv,trivial⟩
theorem g_bslF {t e n:Nat} {ps:List (Nat×Operand)} {xs:List (Option Nat)} (ho:o.op = .buildSlice t n ps.toArray) (hs:sliceB J.P t e fnoT.size=true) {bytes:Nat} (hrow:rowB J.P t e fnoT.size bytes=true) (hv:zrP FnOp 0 ps xs) (hn:n=xs.length) (hb:Nat.ble (n*fnoT.size) 16777216=true):OpG J o fr hp (.val (sl fnoT) xs) :=
  zs6 (R:=FnOp) ho hs hrow hv zv2 hn hb
theorem g_buildF {t e m:Nat} {hm:0<m} {ps:List (Nat×Operand)} {xs x0:List (Option Nat)} (ho:o.op = .build t ps.toArray) (ha:arrB J.P t m e fnoT.size=true) (hz:za7 J.P t (arrT m hm fnoT) x0) (hv:zrP FnOp 0 ps xs) (hl:Nat.beq ps.length m=true):OpG J o fr hp (.val (arrT m hm fnoT) xs) :=
  zvZ (R:=FnOp) ho ha hz hv zv2 hl
theorem zjv {d f:Nat} (hd:fr d = .val fnoT (some f)) (H:AW J nx (fr.set d (.clo f [])) hp k):AW J nx fr hp k:=fun a w ⟨ρ,s⟩=>by
  have h:=s.frel d;rw[hd] at h;refine H a w ⟨ρ,{ s.toSimH with size:=s.size,defers:=s.defers,frel:=fun t=>?_,fnx:=fun t=>?_,brel:=s.brel }⟩
  · rw[zav]
    by_cases c:t=d
    · rw[ut c,c];exact(znj.1 h).1
    rw[ur c];exact s.frel t
  rw[zav];by_cases c:t=d
  · rw[ut c];intro c hc;cases hc
  rw[ur c];exact s.fnx t
theorem zfb {α:Type} {T:GoT α} {x:Operand} {y:α} (ho:o.op = .nilCheck x) (hx:fr.ev x = .rptr T y):OpG J o fr hp (.rptr T y):=by
  refine .of_run (fun {_ _ _ w} s hr _=>?_) (fun h hn=>trivial);have h:=hr x yl;rw[hx] at h;refine⟨_,?_,h⟩;obtain⟨g,e1,e2⟩:=h;unfold execOp;rw[ho];simp[e1]
theorem aw_calluv {x : Operand} {f : FuncId} {n : Nat} {xs : Array Operand} {ts : Array TypeId} {As : List AV} {X : AV} {h0 h' : HE} {d : Nat} (hc : zfl J.P f h0 As X h') (ho : o.op = .call { callee := .value x, args := xs, argTypes := ts }) (hx : fr.ev x = .clo f []) (hf : fnB J.P f = true) (hn : hp n = h0) (hl : h0.live) (hl' : h'.live) (hX : X.under0 = true)
    (ha:zke J fr hp n xs.toList As) (hd:o.dst=some d) (hg:o.guard=none) (hlt:Nat.blt d J.nt=true) (H:AW J nx (fr.set d X) (hp.set n h') (.ops ops rest::k)) (hu0:h0.under 0:=by exact trivial) (hu1:h'.under 0:=by exact trivial):AW J nx fr hp (.ops ops (o::rest)::k):=by
  intro a w ⟨ρ,s⟩;refine z6 hg yt fun K hK=>?_
  obtain⟨fn,h1,h2,h3⟩:=zb0 hf;have hxv:=zao s x;rw[hx] at hxv;have hxv:a.eval x = .func (.func f) #[] #[]:=hxv;unfold Oper.wp;rw[zho ho hxv h1 h2 h3,Oper.upon_enter,Array.append_empty];have hlive:(hp n).live:=ycv;have e:=zoj s.toSimH hlive;refine Calls.mono (zkw (fn:=fn) (ts:=ts) hc hf hn hl ha s hu0) fun en w' he=>?_
  have hbU:bU (fun b=>Uu J ρ hp b∧¬gN (ρ n) b) (ρ n) h'=Uu J ρ hp:=by
    refine Eq.trans ?_ e;funext b;unfold bU gU;exact propext ⟨fun h=>h.imp id (fun h=>h.2),fun h=>h.imp id (fun h=>⟨hl',h⟩)⟩
  cases en with
  | returned v =>
    obtain⟨hb,hr,hv⟩:=he;rw[hbU] at hr hv;rw[hd];have s':=s.given hlive hl' hb (HE.rel_B hu1 (HE.rel_ren (ρ:=ρ0) (nx:=0) (fun n hn=>by omega) hu1 hr)) (HE.under_mono (uf _) hu1);have hu:=AV.under0_spec hX;refine hK _ _ (H _ _ ⟨ρ,s'.put yM ?_ (AV.under_mono (uf _) hu)⟩);have hle:∀b,Uu J ρ (hp.set n h') b→Uu J ρ hp b:=fun b hb=>hb.imp id fun ⟨m,h1,h2⟩=>by
      rw[zk] at h1;by_cases c:m=n
      · exact⟨n,hlive,by rw[←c];exact h2⟩
      rw[ur c] at h1;exact⟨m,h1,h2⟩
    exact AV.rel_mono (nx:=0) ⟨fun _ h=>h,ug _,fun _ _ _=>rfl,fun b _ h=>hle b h,fun b _ h=>hle b (.inr h)⟩ hu (AV.rel_ren (ρ:=ρ0) (ρ':=ρ) (fun n hn=>by omega) hu (AV.rel_B (B':=J.B) hu hv))
  | panicked c=>exact he.elim
  | outgrown=>exact he.elim
end
end Go.Ab
namespace Go.Ab
open Go.RowKit
def Job.withDs (J:Job) (ds:List Deferred):Job:={ J with ds:=ds }
theorem ziO (J:Job) (ds:List Deferred):∀k,Kont (J.withDs ds) k=Kont J k
  | []=>rfl
  | .code c::k=>by show Exit.then _ _=Exit.then _ _;rw[ziO J ds k];rfl
  | .ops ops l::k=>by show Exit.then _ _=Exit.then _ _;rw[ziO J ds k];rfl
  | .inBlock id::k=>by show Exit.inBlock id _=Exit.inBlock id _;rw[ziO J ds k]
  | .again T::k=>by show Exit.then _ _=Exit.then _ _;rw[ziO J ds k]
  | .inScope l T::k=>by show Exit.jump l _ _=Exit.jump l _ _;rw[ziO J ds k]
structure JobEq (J' J:Job):Prop where
  w0:J'.w0=J.w0
  ext:J'.ext=J.ext
  gr:J'.gr=J.gr
  kg:J'.kg=J.kg
  ρg:J'.ρg=J.ρg
section
variable {J J':Job} {nx:Nat} {ρ:Nat→Value} {fr fr':Fr} {hp:Hp} {a a':Act} {w w':World} {k:List It} {ops:Array Oper} {rest:List Oper} {o:Oper}
theorem JobEq.B (e:JobEq J' J):J'.B=J.B:=by funext b;unfold Job.B;rw[e.w0,e.gr]
theorem JobEq.Uu (e:JobEq J' J):Uu J' ρ hp=Uu J ρ hp:=by funext b;unfold Ab.Uu;rw[e.ext]
theorem SimH.job (s:SimH J nx ρ hp w) (e:JobEq J' J) (hb:J'.bn≤nx):SimH J' nx ρ hp w where
  kle:=by rw[e.kg];exact s.kle
  ble:=hb
  named n hn:=by rw[e.ρg];exact s.named n (by rw[←e.kg];exact hn)
  below:=by rw[e.gr,e.w0];exact s.below
  hrel n:=by rw[e.B,e.Uu];exact s.hrel n
  hun:=s.hun
  hnx:=s.hnx
  new n b hl hb:=by rw[e.gr,e.w0];exact s.new n b hl hb
  inj:=s.inj
theorem SimR.job (s:SimH J nx ρ hp w) (e:JobEq J' J) (hb:J'.bn≤nx) (hsz:a'.tmps.size=J'.nt) (hds:a'.defers=J'.ds)
    (hfr:∀t,(fr' t).rel ρ J.B (Uu J ρ hp) (Nn ρ hp) w (a'.tmps.getD t undef)) (hfx:∀t,(fr' t).under nx) (hbg:∀p∈J'.bg,∀t,(p.1 t).rel ρ J.B (Uu J ρ hp) (Nn ρ hp) w (p.2.tmps.getD t undef)):SimR J' nx ρ fr' hp a' w :=
  { s.job e hb with
    size:=hsz
    defers:=hds
    frel:=fun t=>by rw[e.B,e.Uu];exact hfr t
    fnx:=hfx
    brel:=fun p hp t=>by rw[e.B,e.Uu];exact hbg p hp t }
def HE.isBox:HE→Bool
  | .box .. | .parts ..=>true
  | _=>false
theorem SimH.ptr_of_box (s:SimH J nx ρ hp w) {n:Nat} (h:(hp n).isBox=true):(∃g,ρ n = .pointer (some ⟨g,0,none⟩))∧n<nx:=by
  refine⟨?_,Nat.lt_of_not_le fun hle=>by rw[s.hnx n hle] at h;cases h⟩;have hr:=s.hrel n;revert hr h;generalize hp n=x;cases x with
  | box ty T x=>intro _ ⟨g,_,e,_⟩;exact⟨g,e⟩
  | parts ty xs=>intro _ ⟨g,_,e,_⟩;exact⟨g,e⟩
  | none_=>intro h;cases h
  | row=>intro h;cases h
  | objAt=>intro h;cases h
theorem SimR.putObj (s:SimR J nx ρ fr hp a w) {n b:Nat} {o o':Obj} (hn:hp n = .objAt b o):w.heap[b]?=some o∧SimR J nx ρ fr (hp.set n (.objAt b o')) a (w.putObj b o'):=by
  have hh:=s.hrel n;rw[hn] at hh;obtain⟨e,hb⟩:=hh;refine⟨hb,s.modify hn trivial trivial yw rfl rfl rfl (fun c hc=>World.putObj_heap_other (fun e'=>hc (by rw[e,e'];rfl))) fun _=>⟨e,World.putObj_heap_same (Array.getElem?_eq_some_iff.1 hb).1⟩⟩
theorem SimR.getObj (s:SimR J nx ρ fr hp a w) {n b:Nat} {o:Obj} (hn:hp n = .objAt b o):w.heap[b]?=some o:=by
  have hh:=s.hrel n;rw[hn] at hh;exact hh.2
theorem zds {nD D:Nat} (hds:J.ds=[{ target:=.collected D,args:=#[] }]) (hrd:J.rd=none) (hD:hp nD = .objAt D (.deferred (some []))) (H:AR (J.withDs []) nx fr (hp.set nD (.objAt D (.deferred none)))):AR J nx fr hp:=by
  intro a w ⟨ρ,s⟩;obtain⟨h1,h2⟩:=s.putObj (o':=.deferred none) hD;refine J.mark hrd a w _ D (s.defers.trans hds) (run_takeDeferred h1) (H { a with defers:=[] } _ ⟨ρ,?_⟩);exact SimR.job h2.toSimH yag h2.ble h2.size rfl h2.frel h2.fnx h2.brel
structure LoopOk (J:Job) (nx:Nat) (fr:Fr) (a:Act):Prop where
  hsz:a.tmps.size=J.nt
  had:a.defers=[]
  hrd:J.rd=none
  hfr:∀t,(fr t).under nx
  hbn:J.bn≤nx
structure LoopC where
  J:Job
  nx:Nat
  fr:Fr
  a:Act
  k:List It
  fid:FuncId
  ps:Array Tmp
  asg:Code
  body:Code
  l:Nat
  D:Nat
  ok:LoopOk J nx fr a
def LoopC.mark (C:LoopC):List Deferred:=[{ target:=.collected C.D,args:=#[] }]
def LoopC.act (C:LoopC):Act:={ C.a with defers:=C.mark }
def LoopC.record (C:LoopC) (st:LoopState) (pe:Option Code):Loop:={ state:=st,pending:=pe,fn:=C.fid,tmps:=C.a.tmps,params:=C.ps,assign:=C.asg,body:=C.body,defers:=C.D }
def LoopC.rc (C:LoopC) (st:LoopState) (pe:Option Code):Obj:=.loop (C.record st pe)
def LoopC.R (C:LoopC) (e:Ending) (w:World):Prop:=(∃v,e = .returned v)∧rangePost Fence.wide 0 C.J.P C.l (Kont C.J C.k) C.act e w
def LoopC.iter (C:LoopC) (fni:Func):Job :=
  { C.J with
    fn:=fni,nt:=fni.ntmps,R:=C.R,rd:=none,ds:=[],bg:=(C.fr,C.a)::C.J.bg,bn:=C.nx
    bgb:=fun p hp t=>by
      rcases List.mem_cons.1 hp with e|hp
      · rw[e];exact C.ok.hfr t
      exact AV.under_mono C.ok.hbn (C.J.bgb p hp t)
    post:=bodyPostM Fence.wide 0 C.J.P fni C.R
    nrm:=fun _ _ _ h=>h
    fin:=fun _ _ _ _ h1 h2 _ h3=>zdq h1 h2 h3
    mark:=fun _ _ _ _ _ h1 h2 h3=>zhE h1 h2 h3 }
theorem LoopC.eq (C:LoopC) (fni:Func):JobEq (C.iter fni) C.J:=yag
theorem J_wide (h:J.rd=none):J.F=Fence.wide:=by unfold Job.F;rw[h];rfl
theorem zk7 {g:Operand} {ps:Array Tmp} {asg body:Code} {f:FuncId} {caps:List Nat} {fni:Func} {c:Code}
    (hrd:J.rd=none) (hds:J.ds=[]) (hg:fr.ev g = .clo f caps) (hf:J.P.funcs[f]?=some fni) (hfb:fnB J.P f=true) (hb:fni.body=some c) (hn:Nat.ble (caps.length+1) fni.ntmps=true) (hcb:∀n∈caps,(hp n).isBox=true)
    (H:∀(fid:FuncId) (a:Act) (l D:Nat) (ok:LoopOk J nx fr a) (rc:LoopState→Option Code→Obj) (hrc:rc=LoopC.rc ⟨J,nx,fr,a,k,fid,ps,asg,body,l,D,ok⟩),
      AW (LoopC.iter ⟨J,nx,fr,a,k,fid,ps,asg,body,l,D,ok⟩ fni) (nx+2) (Fr.args 0 (.lit (.func (.yield l) #[] #[])::caps.map fun n=>.ptr n 0) Fr.none)
        ((hp.set nx (.objAt D (.deferred (some [])))).set (nx+1) (.objAt l (rc .ready none))) [.code c]) :
    AW J nx fr hp (.code (.rangeFunc g ps asg body)::k):=by
  intro a w ⟨ρ,s⟩;have hv:a.eval g = .func (.func f) #[] (caps.map ρ).toArray:=by
    have:=zao s g
    rw[hg] at this;exact this
  have had:a.defers=[]:=s.defers.trans hds;have hn:caps.length+1≤fni.ntmps:=ycr;show(Code.rangeFunc g ps asg body).wpIn J.F 0 J.P (Kont J k) a w;rw[J_wide hrd];refine wpIn_rangeFunc ?_;intro fid hfid;obtain⟨C,hC⟩:∃C:LoopC,C=⟨J,nx,fr,a,k,fid,ps,asg,body,w.heap.size+1,w.heap.size,⟨s.size,had,hrd,s.fnx,s.ble⟩⟩:=⟨_,rfl⟩;have H:=H fid a (w.heap.size+1) w.heap.size ⟨s.size,had,hrd,s.fnx,s.ble⟩ _ rfl;rw[←hC] at H;have hrec:C.record .ready none = { state:=.ready,pending:=none,fn:=fid,tmps:=a.tmps,params:=ps,assign:=asg,body:=body,defers:=w.heap.size }:=by rw[hC];rfl
  obtain⟨W1,hW1⟩:∃W1,(w.alloc (.deferred (some []))).alloc (.loop (C.record .ready none))=W1:=⟨_,rfl⟩
  refine⟨w.heap.size+1,[{ target:=.collected w.heap.size,args:=#[] }],W1,{ target:=.fn (.func f) (caps.map ρ).toArray,args:=#[.func (.yield (w.heap.size+1)) #[] #[]] },W1,f,
    #[.func (.yield (w.heap.size+1)) #[] #[]]++(caps.map ρ).toArray,W1,?_,?_,fun _ _=>trivial,?_,(fun h=>by cases h),?_⟩
  · rw[←hW1,hrec];exact run_enterLoop_outer _ _ _ _ _
  · simp only[resolve,hv]
    simp[go_sem]
  · obtain⟨fn',h1,h2,h3⟩:=zb0 hfb
    have hne : fn'.name ≠ "runtime.NumGoroutine" := by simpa using h3
    have hbn:fn'.body≠none:=ycx;simp[invoke,callFunc,h1,hne,hbn,Sem.run_bind]
  have h1:=s.bind (p:=.pointer (some ⟨w.heap.size,0,none⟩)) (x:=.objAt w.heap.size (.deferred (some []))) (zby w _) (fun b e=>by simp only[zaV,Option.some.injEq] at e;subst e;exact⟨ug _,by simp⟩) fun _=>⟨rfl,heap_alloc_new w _⟩
  have h2:=h1.bind (p:=.pointer (some ⟨(w.alloc (.deferred (some []))).heap.size,0,none⟩)) (x:=.objAt (w.heap.size+1) (C.rc .ready none)) (zby _ (.loop (C.record .ready none))) (fun b e=>by simp only[zaV,Option.some.injEq] at e;subst e;exact⟨ug _,by simp⟩)
    fun _=>⟨by rw[World.size_alloc],by have:=heap_alloc_new (w.alloc (.deferred (some []))) (.loop (C.record .ready none));rwa [World.size_alloc] at this⟩
  rw[hW1] at h2;generalize hρ2:ren (ren ρ nx _) (nx+1) _=ρ2 at h2;have hren:∀n,n<nx→ρ2 n=ρ n:=fun n hn=>by rw[←hρ2];unfold ren;rw[ur ya,ur ya]
  have hcap:∀n∈caps,(∃g,ρ2 n = .pointer (some ⟨g,0,none⟩))∧n<nx:=fun n hm=>by
    obtain⟨⟨g,e⟩,hlt⟩:=s.toSimH.ptr_of_box (hcb n hm);exact⟨⟨g,by rw[hren n hlt,e]⟩,hlt⟩
  have hmap:caps.map ρ=caps.map ρ2:=List.map_congr_left fun n hm=>(hren n (hcap n hm).2).symm
  refine CallsIn.mono (R:=C.R) (callsIn_of_wp_marks hf hb trivial ?_) (fun e w' h=>by have h:=h.2;rw[hC] at h;simpa [LoopC.act,LoopC.mark,had] using h);generalize hp2:(hp.set nx _).set (nx+1) _=hp2' at h2 H
  have hfr:=zei (P:=fun _ A v=>A.rel ρ2 C.J.B (Uu C.J ρ2 hp2') (Nn ρ2 hp2') W1 v∧A.under (nx+2)) (fun _ _=>⟨trivial,trivial⟩) (i:=0) (f:=Fr.none) (g:=fun _=>undef)
    (As:=.lit (.func (.yield (w.heap.size+1)) #[] #[])::caps.map fun n=>.ptr n 0) (vs:=.func (.yield (w.heap.size+1)) #[] #[]::caps.map ρ2) yw
    (fun j A v e1 e2 _=>by
      cases j with
      | zero=>simp at e1 e2;subst e1;subst e2;exact⟨rfl,trivial⟩
      | succ j =>
        simp only[List.getElem?_cons_succ,List.getElem?_map,Option.map_eq_some_iff] at e1 e2;obtain⟨n,hn1,rfl⟩:=e1;obtain⟨m,hm1,rfl⟩:=e2;obtain rfl:n=m:=ycy;obtain⟨⟨g,e⟩,hlt⟩:=hcap n (ud hn1);exact⟨⟨g,e,e⟩,Nat.lt_of_lt_of_le hlt (Nat.le_add_right _ _)⟩) (fun t=>⟨trivial,trivial⟩) (fun _ _=>rfl)
  have hJ:C.J=J:=by rw[hC]
  have harr:#[Value.func (.yield (w.heap.size+1)) #[] #[]]++(caps.map ρ).toArray=(Value.func (.yield (w.heap.size+1)) #[] #[]::caps.map ρ2).toArray:=by rw[hmap];simp
  rw[harr,show J.P=C.J.P by rw[hJ]];show Kont (C.iter fni) [.code c] .normal _ W1;refine H { tmps:=(Value.func (.yield (w.heap.size+1)) #[] #[]::caps.map ρ2).toArray++Array.replicate (fni.ntmps-(Value.func (.yield (w.heap.size+1)) #[] #[]::caps.map ρ2).toArray.size) undef,defers:=[] } W1 ⟨ρ2,SimR.job (J:=C.J) (hJ▸h2.toSimH) (C.eq fni) (by show C.nx≤nx+2;rw[hC];exact Nat.le_add_right _ _) ?_ rfl (fun t=>?_) (fun t=>(hfr t).2) (fun p hp t=>?_)⟩
  · show((_:List Value).toArray++_).size=fni.ntmps
    simp;omega
  · have e : ((Value.func (.yield (w.heap.size + 1)) #[] #[] :: caps.map ρ2).toArray ++ Array.replicate (fni.ntmps - (Value.func (.yield (w.heap.size + 1)) #[] #[] :: caps.map ρ2).toArray.size) undef).getD t undef = ((Value.func (.yield (w.heap.size + 1)) #[] #[] :: caps.map ρ2)[t]?).getD undef := by
      generalize (Value.func (.yield (w.heap.size+1)) #[] #[]::caps.map ρ2)=vs;rw[Array.getD_eq_getD_getElem?,Array.getElem?_append];by_cases c:t<vs.toArray.size
      · rw[ut c];simp
      rw[ur c];have hv:vs[t]?=none:=yb5;rw[hv,Array.getElem?_replicate]
      split<;>rfl
    rw[e];have h1:=(hfr t).1;rw[ur (Nat.not_lt_zero t),Nat.sub_zero] at h1;exact h1
  have hp:p=(C.fr,C.a)∨p∈C.J.bg:=List.mem_cons.1 hp;rw[hC] at hp ⊢;rcases hp with e|hp
  · rw[e];exact h2.frel t
  exact h2.brel p hp t
theorem sim_back {C:LoopC} {fni:Func} {ds:List Deferred} (s:SimR (C.iter fni) nx ρ fr hp a w) (hds:ds=C.mark):SimR (C.J.withDs ds) nx ρ C.fr hp C.act w :=
  SimR.job s.toSimH yag (Nat.le_trans C.ok.hbn s.ble) C.ok.hsz hds.symm (s.brel (C.fr,C.a) (List.mem_cons_self ..)) (fun t=>AV.under_mono s.ble (C.ok.hfr t)) fun p hp t=>s.brel p (List.mem_cons_of_mem _ hp) t
theorem zvP {C:LoopC} {fni:Func} {nL:Nat} {st:LoopState} {pe:Option Code} (hres:fni.results = #[]) {rc:LoopState→Option Code→Obj} (hrc:rc=C.rc) (hL:hp nL = .objAt C.l (rc st pe)) (hst:st≠.busy)
    (H:AW (C.J.withDs C.mark) nx C.fr (hp.set nL .none_) (match pe with|none=>C.k|some c=>.code c::C.k)) (s:SimR (C.iter fni) nx ρ fr hp a w):bodyPostM Fence.wide 0 C.J.P fni C.R .ret a w:=by
  subst hrc;obtain⟨h1,h2⟩:=s.putObj (o':=.loop (C.record .exhausted pe)) hL;refine zdq s.defers (results_none hres _ _ _) ⟨⟨_,rfl⟩,pe,_,run_endLoop h1 hst,?_⟩;have s2:=sim_back (h2.drop nL) (rfl:C.mark=C.mark);have e:(hp.set nL (.objAt C.l (.loop (C.record .exhausted pe)))).set nL .none_=hp.set nL .none_:=by
    funext t
    rw[zk,zk,zk];by_cases c:t=nL
    · rw[ut c,ut c]
    rw[ur c,ur c,ur c]
  rw[e] at s2
  have:=H _ _ ⟨ρ,s2⟩
  cases pe with
  | none=>rw[ziO] at this;exact this
  | some c =>
    have hk:Kont (C.J.withDs C.mark) (.code c::C.k)=Kont C.J (.code c::C.k):=ziO _ _ _;rw[hk] at this;have h3:c.wpIn C.J.F 0 C.J.P (Kont C.J C.k) C.act _:=this;rw[J_wide C.ok.hrd] at h3;exact h3
theorem zka {C:LoopC} {fni:Func} {nL:Nat} {st:LoopState} {pe:Option Code} (hres:fni.results = #[]) {rc:LoopState→Option Code→Obj} (hrc:rc=C.rc) (hL:hp nL = .objAt C.l (rc st pe)) (hst:st≠.busy)
    (H:AW (C.J.withDs C.mark) nx C.fr (hp.set nL .none_) (match pe with|none=>C.k|some c=>.code c::C.k)):AW (C.iter fni) nx fr hp (.code .ret::k) :=
  zaX fun a w ⟨ρ,s⟩=>zvP hres hrc hL hst H s
theorem zgZ {C:LoopC} {fni:Func} {nL:Nat} {st:LoopState} {pe:Option Code} (hres:fni.results = #[]) {rc:LoopState→Option Code→Obj} (hrc:rc=C.rc) (hL:hp nL = .objAt C.l (rc st pe)) (hst:st≠.busy)
    (H:AW (C.J.withDs C.mark) nx C.fr (hp.set nL .none_) (match pe with|none=>C.k|some c=>.code c::C.k)):AW (C.iter fni) nx fr hp [] :=
  fun _ _ ⟨_,s⟩=>zvP hres hrc hL hst H s
structure YieldOk (C:LoopC) (fni:Func) (nx:Nat) (fr:Fr) (a:Act) (d:Nat):Prop where
  hsz:a.tmps.size=fni.ntmps
  had:a.defers=[]
  hlt:d<fni.ntmps
  hfr:∀t,(fr t).under nx
  hbn:C.nx≤nx
structure YieldC where
  C:LoopC
  fni:Func
  nx:Nat
  fr:Fr
  a:Act
  d:Nat
  k:List It
  ok:YieldOk C fni nx fr a d
def YieldC.next (Y:YieldC) (v:Value) (w:World):Prop:=Kont (Y.C.iter Y.fni) Y.k .normal (Y.a.put (some Y.d) v) w
def YieldC.R (Y:YieldC):Ending→World→Prop
  | .returned v,w=>Y.next v w
  | _,_=>False
def YieldC.round (Y:YieldC):Job :=
  { Y.C.J with
    rd:=some Y.C.l,ds:=[],bg:=(Y.fr,Y.a)::(Y.C.fr,Y.C.a)::Y.C.J.bg,bn:=Y.nx
    bgb:=fun p hp t=>by
      rcases List.mem_cons.1 hp with e|hp
      · rw[e];exact Y.ok.hfr t
      rcases List.mem_cons.1 hp with e|hp
      · rw[e];exact AV.under_mono Y.ok.hbn (Y.C.ok.hfr t)
      exact AV.under_mono (Nat.le_trans Y.C.ok.hbn Y.ok.hbn) (Y.C.J.bgb p hp t)
    post:=roundPost Y.C.J.P Y.C.l Y.R
    nrm:=fun h=>by cases h
    fin:=fun h=>by cases h
    mark:=fun h=>by cases h }
def YieldC.asg (Y:YieldC):Job :=
  { Y.round with
    post:=fun e a w=>match e with
      | .normal=>∃w2,(Instr.beginRound Y.C.l).run Y.C.J.P w = .ok () w2∧Kont Y.round [.code Y.C.body] .normal a w2
      | _=>False
    nrm:=fun h=>by cases h
    fin:=fun h=>by cases h
    mark:=fun h=>by cases h }
def Fr.setL:Fr→List Tmp→List AV→Fr
  | f,t::ts,x::xs=>Fr.setL (f.set t x) ts xs
  | f,_,_=>f
theorem zvb {P:AV→Value→Prop} (nt:Nat):∀{ps:List Tmp} {xs:List AV} {vs:List Value} {f:Fr} {tm:Array Value},tm.size=nt→(∀p∈ps,p<nt)→(∀(j:Nat) x v,xs[j]?=some x→vs[j]?=some v→P x v)→xs.length=vs.length→(∀t,P (f t) (tm.getD t undef))→
    ∀t,P (Fr.setL f ps xs t) (((ps.zip vs).foldl (fun tm (p:Tmp×Value)=>tm.setIfInBounds p.1 p.2) tm).getD t undef)
  | [],xs,vs,f,tm,_,_,_,_,hf,t=>hf t
  | p::ps,[],[],f,tm,_,_,_,_,hf,t=>hf t
  | p::ps,x::xs,[],f,tm,_,_,_,hl,_,_=>by simp at hl
  | p::ps,[],v::vs,f,tm,_,_,_,hl,_,_=>by simp at hl
  | p::ps,x::xs,v::vs,f,tm,hsz,hps,hx,hl,hf,t=>by
    refine zvb nt (ps:=ps) (xs:=xs) (vs:=vs) (f:=f.set p x) (tm:=tm.setIfInBounds p v) (by simpa using hsz) (fun q hq=>hps q (by simp[hq])) (fun j y u h1 h2=>hx (j+1) y u (by simpa using h1) (by simpa using h2)) ya1 (fun t=>?_) t;rw[zav];by_cases e:t=p
    · subst e
      have hp:t<tm.size:=by rw[hsz];exact hps t yw
      rw[ut rfl]
      have:(tm.setIfInBounds t v).getD t undef=v:=by simp[Array.getD,hp]
      rw[this];exact hx 0 x v rfl rfl
    rw[ur e];have hne:p≠t:=fun h=>e h.symm
    have:(tm.setIfInBounds p v).getD t undef=tm.getD t undef:=by simp[Array.getD_eq_getD_getElem?,Array.getElem?_setIfInBounds,hne]
    rw[this];exact hf t
theorem setL_size {ps:List Tmp}:∀{vs:List Value} {tm:Array Value},((ps.zip vs).foldl (fun tm (p:Tmp×Value)=>tm.setIfInBounds p.1 p.2) tm).size=tm.size:=by
  induction ps with
  | nil=>intro vs tm;rfl
  | cons p ps ih =>
    intro vs tm;cases vs with
    | nil=>rfl
    | cons v vs=>rw[List.zip_cons_cons,List.foldl_cons,ih];simp
theorem zpr {nx:Nat}:∀{ps:List Tmp} {xs:List AV} {f:Fr},(∀t,(f t).under nx)→(∀x∈xs,x.under nx)→∀t,(Fr.setL f ps xs t).under nx
  | [],_,_,hf,_,t=>hf t
  | _::_,[],_,hf,_,t=>hf t
  | p::ps,x::xs,f,hf,hx,t=>zpr (ps:=ps) (xs:=xs) (f:=f.set p x) (fun t=>by
    rw[zav];by_cases e:t=p
    · rw[ut e];exact hx x yw
    rw[ur e];exact hf t) (fun y hy=>hx y ybH) t
theorem zo1 {x : Operand} {xs : Array Operand} {ts : Array TypeId} {P : Program} {l : Nat} {r : Loop} (ho : o.op = .call { callee := .value x, args := xs, argTypes := ts }) (hx : a.eval x = .func (.yield l) #[] #[]) (h : w.heap[l]? = some (.loop r)) (hs : xs.size = r.params.size) :
    (execOp a.eval o).run P w = .ok (.round l r.fn ((r.params.zip (xs.map a.eval)).foldl (fun tmps (t,a)=>tmps.setIfInBounds t a) r.tmps) r.assign r.body) w:=by
  have:=run_yield (P:=P) (args:=xs.map a.eval) h (by simpa using hs)
  unfold execOp;rw[ho];simp only[resolve,hx,Deferred.ofValue,Sem.run_bind,Sem.run_pure,Result.andThen_ok,invoke,Array.empty_append,Array.append_empty];simpa using this
theorem zo3 {P:Program} {l:Nat} {R R':Ending→World→Prop} (h:∀v w,R (.returned v) w→R' (.returned v) w):∀{e:Exit} {a:Act} {w:World},roundPost P l R e a w→roundPost P l R' e a w
  | .normal,_,_,⟨v,w',h1,h2⟩=>⟨v,w',h1,h _ _ h2⟩
  | .ret,_,_,⟨v,w',h1,h2⟩=>⟨v,w',h1,h _ _ h2⟩
  | .exit _,_,_,⟨v,w',h1,h2⟩=>⟨v,w',h1,h _ _ h2⟩
  | .goto _,_,_,⟨v,w',h1,h2⟩=>⟨v,w',h1,h _ _ h2⟩
  | .panic _,_,_,h'=>h'.elim
  | .outgrown,_,_,h'=>h'.elim
theorem zk5 {C : LoopC} {fni : Func} {x : Operand} {xs : Array Operand} {ts : Array TypeId} {d nL : Nat} (ho : o.op = .call { callee := .value x, args := xs, argTypes := ts }) (hd : o.dst = some d) (hg : o.guard = none) (hlt : Nat.blt d fni.ntmps = true) (hx : fr.ev x = .lit (.func (.yield C.l) #[] #[]))
    {rc:LoopState→Option Code→Obj} (hrc:rc=C.rc) (hL:hp nL = .objAt C.l (rc .ready none)) (hps:xs.size=C.ps.size) (hpl:C.ps.toList.all (fun p=>Nat.blt p C.J.nt)=true)
    (H:∀(a:Act) (ok:YieldOk C fni nx fr a d),
      AW (YieldC.asg ⟨C,fni,nx,fr,a,d,.ops ops rest::k,ok⟩) nx (Fr.setL C.fr C.ps.toList (xs.toList.map fr.ev)) hp [.code C.asg]) :
    AW (C.iter fni) nx fr hp (.ops ops (o::rest)::k):=by
  subst hrc;intro a w ⟨ρ,s⟩;have hlt:d<fni.ntmps:=yM;refine wpListIn_plain hg fun K hK=>?_
  have hxv:=zao s x;rw[hx] at hxv;have hxv:a.eval x=_:=hxv;have hl:=s.getObj hL;have hry:=zo1 (P:=C.J.P) ho hxv hl hps;have H:=H a ⟨s.size,s.defers,hlt,s.fnx,s.ble⟩;generalize hY:YieldC.mk C fni nx fr a d (.ops ops rest::k) ⟨s.size,s.defers,hlt,s.fnx,s.ble⟩=Y at H;have hYC:Y.C=C:=by rw[←hY]
  refine⟨fun _ _=>trivial,?_⟩;show o.uponIn Fence.wide 0 C.J.P a K _ ((o.semAt none a.eval).run C.J.P w);rw[Oper.semAt_none,hry,Oper.uponIn_round];refine⟨(fun h=>by cases h),?_⟩
  have key:=H { tmps:=(C.ps.toList.zip (xs.toList.map a.eval)).foldl (fun tm (p:Tmp×Value)=>tm.setIfInBounds p.1 p.2) C.a.tmps,defers:=[] } w ⟨ρ,SimR.job s.toSimH (by subst hY;exact yag) (by subst hY;exact ug _)
    (by rw[setL_size];subst hY;exact C.ok.hsz) (by subst hY;rfl)
    (fun t=>zvb (P:=fun A v=>A.rel ρ (C.iter fni).B (Uu (C.iter fni) ρ hp) (Nn ρ hp) w v) C.J.nt C.ok.hsz (fun p hp=>by have:=List.all_eq_true.1 hpl p hp;simpa using this) (fun j A v h1 h2=>by
      rw[List.getElem?_map,Option.map_eq_some_iff] at h1 h2;obtain⟨y,hy,rfl⟩:=h1;obtain⟨z,hz,rfl⟩:=h2;obtain rfl:y=z:=by rw[hy] at hz;exact Option.some.inj hz
      exact zao s y) yw (fun t=>s.brel (C.fr,C.a) (List.mem_cons_self ..) t) t)
    (zpr (fun t=>AV.under_mono s.ble (C.ok.hfr t)) (fun A hA=>by
      obtain⟨y,_,rfl⟩:=List.mem_map.1 hA;exact zbB s.fnx y))
    (fun p hp t=>by
      have hp:p∈(fr,a)::(C.fr,C.a)::C.J.bg:=by subst hY;exact hp
      rcases List.mem_cons.1 hp with e|hp
      · rw[e];exact s.frel t
      exact s.brel p hp t)⟩
  have hrt:(C.ps.toList.zip (xs.toList.map a.eval)).foldl (fun tm (p:Tmp×Value)=>tm.setIfInBounds p.1 p.2) C.a.tmps=((C.record .ready none).params.zip (xs.map a.eval)).foldl (fun tmps (t,a)=>tmps.setIfInBounds t a) (C.record .ready none).tmps:=by
    show _=(C.ps.zip (xs.map a.eval)).foldl _ C.a.tmps;rw[←Array.foldl_toList,Array.toList_zip,Array.toList_map]
  rw[hrt] at key;have hgo:∀ar,Kont Y.asg [.code C.asg] .normal ar w→C.asg.wpIn (Fence.wide.inRound C.l) 0 C.J.P (Kont Y.asg []) ar w:=fun ar hk=>by subst hY;exact hk
  refine roundIn_of_wpIn trivial (wpIn_mono (Q:=Kont Y.asg []) (hgo _ key) ?_);intro e a1 w1 hq;cases e with
  | normal =>
    obtain⟨w2,h1,h2⟩:=hq;refine⟨w2,by rw[←hYC];exact h1,?_⟩;have h3:C.body.wpIn (Fence.wide.inRound C.l) 0 C.J.P (roundPost C.J.P C.l Y.R) a1 w2:=by subst hY;exact h2
    refine wpIn_mono h3 fun e a w h=>zo3 (fun v w h=>hK _ _ ?_) h
    rw[hd];subst hY;exact h
  | _=>exact hq.elim
theorem zk8 {Y:YieldC} {nL:Nat} {rc:LoopState→Option Code→Obj} (hrc:rc=Y.C.rc) (hL:hp nL = .objAt Y.C.l (rc .ready none)) (H:AW Y.round nx fr (hp.set nL (.objAt Y.C.l (rc .busy none))) [.code Y.C.body]):AW Y.asg nx fr hp []:=by
  subst hrc;intro a w ⟨ρ,s⟩;obtain⟨h1,h2⟩:=s.putObj (o':=.loop (Y.C.record .busy none)) hL;refine⟨_,run_beginRound h1 rfl,H _ _ ⟨ρ,?_⟩⟩;exact SimR.job h2.toSimH yag h2.ble h2.size h2.defers h2.frel h2.fnx h2.brel
theorem sim_iter {Y:YieldC} {v:Value} {b:Bool} (s:SimR Y.round nx ρ fr hp a w) (hv:v = .bool b):SimR (Y.C.iter Y.fni) nx ρ (Y.fr.set Y.d (.val zs b)) hp (Y.a.put (some Y.d) v) w :=
  (SimR.job (J':=Y.C.iter Y.fni) s.toSimH yag (Nat.le_trans Y.ok.hbn s.ble) Y.ok.hsz Y.ok.had (s.brel (Y.fr,Y.a) (List.mem_cons_self ..)) (fun t=>AV.under_mono s.ble (Y.ok.hfr t)) fun p hp t=>s.brel p (List.mem_cons_of_mem _ hp) t).put Y.ok.hlt (zbs.2 hv) trivial
theorem znH {Y:YieldC} {nL:Nat} (j:Option Code) {rc:LoopState→Option Code→Obj} (hrc:rc=Y.C.rc) (hL:hp nL = .objAt Y.C.l (rc .busy none))
    (H:AW (Y.C.iter Y.fni) nx (Y.fr.set Y.d (.val zs j.isNone)) (hp.set nL (.objAt Y.C.l (rc (if j.isNone then .ready else .done) j))) Y.k) (s:SimR Y.round nx ρ fr hp a w):∃v w',(Instr.endRound Y.C.l j).run Y.C.J.P w = .ok v w'∧Y.R (.returned v) w':=by
  subst hrc;obtain⟨h1,h2⟩:=s.putObj (o':=.loop (Y.C.record (if j.isNone then .ready else .done) j)) hL;exact⟨_,_,run_endRound j h1,H _ _ ⟨ρ,sim_iter h2 rfl⟩⟩
theorem zfg {Y:YieldC} {nL:Nat} {rc:LoopState→Option Code→Obj} (hrc:rc=Y.C.rc) (hL:hp nL = .objAt Y.C.l (rc .busy none))
    (H:AW (Y.C.iter Y.fni) nx (Y.fr.set Y.d (.val zs true)) (hp.set nL (.objAt Y.C.l (rc .ready none))) Y.k):AW Y.round nx fr hp [] :=
  fun _ _ ⟨_,s⟩=>znH none hrc hL H s
theorem ztC {Y:YieldC} {nL:Nat} {rc:LoopState→Option Code→Obj} (hrc:rc=Y.C.rc) (hL:hp nL = .objAt Y.C.l (rc .busy none))
    (H:AW (Y.C.iter Y.fni) nx (Y.fr.set Y.d (.val zs false)) (hp.set nL (.objAt Y.C.l (rc .done (some .ret)))) Y.k):AW Y.round nx fr hp (.code .ret::k) :=
  zaX fun _ _ ⟨_,s⟩=>znH (some .ret) hrc hL H s
theorem Kont.out (J:Job) {id:Nat}:∀{k:List It} {a:Act} {w:World},zo5 id k=none→J.post (.exit id) a w→Kont J k (.exit id) a w
  | [],_,_,_,h'=>h'
  | .code _::k,_,_,h,h'=>Kont.out J (k:=k) h h'
  | .ops ..::k,_,_,h,h'=>Kont.out J (k:=k) h h'
  | .again _::k,_,_,h,h'=>Kont.out J (k:=k) h h'
  | .inScope ..::k,_,_,h,h'=>Kont.out J (k:=k) h h'
  | .inBlock i::k,a,w,h,h'=>by
    simp only[zo5] at h;show(if id=i then Kont J k .normal a w else Kont J k (.exit id) a w);by_cases e:id=i
    · have:Nat.beq i id=true:=by rw[e];simp
      rw[this] at h;simp at h
    rw[ur e]
    have:Nat.beq i id=false:=by
      cases e':Nat.beq i id
      · rfl
      exact absurd (Nat.eq_of_beq_eq_true e').symm e
    rw[this] at h;exact Kont.out J (k:=k) h h'
theorem zrG {Y:YieldC} {nL id:Nat} (hk:zo5 id k=none) {rc:LoopState→Option Code→Obj} (hrc:rc=Y.C.rc) (hL:hp nL = .objAt Y.C.l (rc .busy none))
    (H:AW (Y.C.iter Y.fni) nx (Y.fr.set Y.d (.val zs false)) (hp.set nL (.objAt Y.C.l (rc .done (some (.exit id))))) Y.k):AW Y.round nx fr hp (.code (.exit id)::k) :=
  fun _ _ ⟨_,s⟩=>wpIn_exit (Kont.out _ hk (znH (some (.exit id)) hrc hL H s))
structure CallOk (J:Job) (nx:Nat) (fr:Fr) (a:Act) (d:Nat):Prop where
  hsz:a.tmps.size=J.nt
  had:a.defers=J.ds
  hlt:d<J.nt
  hfr:∀t,(fr t).under nx
  hbn:J.bn≤nx
structure CallC where
  J:Job
  nx:Nat
  fr:Fr
  a:Act
  d:Nat
  k:List It
  ok:CallOk J nx fr a d
def CallC.R (C:CallC):Ending→World→Prop
  | .returned v,w=>Kont C.J C.k .normal (C.a.put (some C.d) v) w
  | .panicked ch,w=>Kont C.J C.k (.panic ch) C.a w
  | _,_=>False
def CallC.job (C:CallC) (fni:Func):Job :=
  { C.J with
    fn:=fni,nt:=fni.ntmps,R:=C.R,rd:=none,ds:=[],bg:=(C.fr,C.a)::C.J.bg,bn:=C.nx
    bgb:=fun p hp t=>by
      rcases List.mem_cons.1 hp with e|hp
      · rw[e];exact C.ok.hfr t
      exact AV.under_mono C.ok.hbn (C.J.bgb p hp t)
    post:=bodyPostM Fence.wide 0 C.J.P fni C.R
    nrm:=fun _ _ _ h=>h
    fin:=fun _ _ _ _ h1 h2 _ h3=>zdq h1 h2 h3
    mark:=fun _ _ _ _ _ h1 h2 h3=>zhE h1 h2 h3 }
theorem zoU {vs:List Value} {n t:Nat}:(vs.toArray++Array.replicate (n-vs.toArray.size) undef).getD t undef=(vs[t]?).getD undef:=by
  rw[Array.getD_eq_getD_getElem?,Array.getElem?_append];by_cases c:t<vs.toArray.size
  · rw[ut c];simp
  rw[ur c];have hv:vs[t]?=none:=yb5;rw[hv,Array.getElem?_replicate]
  split<;>rfl
theorem zak {f : FuncId} {fni : Func} {c : Code} {xs : Array Operand} {ts : Array TypeId} {d : Nat} (ho : o.op = .call { callee := .value (.func f), args := xs, argTypes := ts }) (hd : o.dst = some d) (hg : o.guard = none) (hlt : Nat.blt d J.nt = true)
    (hf:J.P.funcs[f]?=some fni) (hfb:fnB J.P f=true) (hb:fni.body=some c) (hn:Nat.ble xs.size fni.ntmps=true)
    (H:∀(a:Act) (ok:CallOk J nx fr a d),
      AW (CallC.job ⟨J,nx,fr,a,d,.ops ops rest::k,ok⟩ fni) nx (Fr.args 0 (xs.toList.map fr.ev) Fr.none) hp [.code c]) :
    AW J nx fr hp (.ops ops (o::rest)::k):=by
  intro a w ⟨ρ,s⟩;have hlt:d<J.nt:=yM;have hn:xs.size≤fni.ntmps:=ycr;refine z6 hg yt fun K hK=>?_
  obtain⟨fn',h1,h2,h3⟩:=zb0 hfb;unfold Oper.wp;rw[zfL ho h1 h2 h3,Oper.upon_enter];have H:=H a ⟨s.size,s.defers,hlt,s.fnx,s.ble⟩;generalize hC:CallC.mk J nx fr a d (.ops ops rest::k) ⟨s.size,s.defers,hlt,s.fnx,s.ble⟩=C at H
  have hfr:=zei (P:=fun _ A v=>A.rel ρ J.B (Uu J ρ hp) (Nn ρ hp) w v∧A.under nx) (fun _ _=>⟨trivial,trivial⟩) (i:=0) (f:=Fr.none) (g:=fun _=>undef)
    (As:=xs.toList.map fr.ev) (vs:=xs.toList.map a.eval) yw
    (fun j A v e1 e2 _=>by
      simp only[List.getElem?_map,Option.map_eq_some_iff] at e1 e2;obtain⟨n,hn1,rfl⟩:=e1;obtain⟨m,hm1,rfl⟩:=e2;obtain rfl:n=m:=ycy;exact⟨zao s n,zbB s.fnx n⟩) (fun t=>⟨trivial,trivial⟩) (fun _ _=>rfl)
  have key:Calls J.P f (xs.toList.map a.eval).toArray w C.R:=by
    refine zeh hf hb ?_;have h4:=H { tmps:=(xs.toList.map a.eval).toArray++Array.replicate (fni.ntmps-(xs.toList.map a.eval).toArray.size) undef,defers:=[] } w ⟨ρ,SimR.job s.toSimH ybS (by subst hC;exact ug _) (by
      have e:(C.job fni).nt=fni.ntmps:=by subst hC;rfl
      rw[e];simp;omega) (by subst hC;rfl) (fun t=>by
        rw[zoU];have h1:=(hfr t).1;rw[ur (Nat.not_lt_zero t),Nat.sub_zero] at h1;exact h1) (fun t=>(hfr t).2) (fun p hp t=>by
        have hp:p∈(fr,a)::J.bg:=by subst hC;exact hp
        rcases List.mem_cons.1 hp with e|hp
        · rw[e];exact s.frel t
        exact s.brel p hp t)⟩
    subst hC;exact h4
  have e:(xs.toList.map a.eval).toArray=xs.map a.eval:=ycp;rw[e] at key;refine Calls.mono key fun en w' he=>?_
  cases en with
  | returned v =>
    rw[hd];subst hC;exact hK _ _ he
  | panicked c=>subst hC;exact he
  | outgrown=>exact he.elim
theorem zf0 {C:CallC} {fni:Func} (s:SimR (C.job fni) nx ρ fr hp a w):SimR C.J nx ρ C.fr hp C.a w :=
  SimR.job s.toSimH yag (Nat.le_trans C.ok.hbn s.ble) C.ok.hsz C.ok.had (s.brel (C.fr,C.a) (List.mem_cons_self ..)) (fun t=>AV.under_mono s.ble (C.ok.hfr t)) fun p hp t=>s.brel p (List.mem_cons_of_mem _ hp) t
theorem zeG {C:CallC} {fni:Func} {t:Tmp} (hres:fni.results = #[.tmp t]) (H:AW C.J nx (C.fr.set C.d (fr t)) hp C.k):AW (C.job fni) nx fr hp (.code .ret::k) :=
  zaX fun _ _ ⟨ρ,s⟩=>zdq s.defers (results_tmp hres _ _ _) (H _ _ ⟨ρ,(zf0 s).put C.ok.hlt (s.frel t) (s.fnx t)⟩)
theorem zdf {C:CallC} {fni:Func} {t u:Tmp} (hres:fni.results = #[.tmp t,.tmp u]) (H:AW C.J nx (C.fr.set C.d (.tup2 (fr t) (fr u))) hp C.k):AW (C.job fni) nx fr hp (.code .ret::k) :=
  zaX fun _ _ ⟨ρ,s⟩=>zdq s.defers (results_tmp2 hres _ _ _) (H _ _ ⟨ρ,(zf0 s).put C.ok.hlt ⟨_,_,rfl,s.frel t,s.frel u⟩ ⟨s.fnx t,s.fnx u⟩⟩)
end
end Go.Ab
namespace Go.Ab
open Go.RowKit
def zjD:Nat→List AV→Option AV
  | _,[]=>none
  | off,x::xs=>bif Nat.beq off 0 then some x else bif Nat.ble x.cells off then zjD (off-x.cells) xs else none
def zhP:Nat→AV→List AV→List AV
  | _,_,[]=>[]
  | off,y,x::xs=>bif Nat.beq off 0 then y::xs else bif Nat.ble x.cells off then x::zhP (off-x.cells) y xs else x::xs
abbrev flatV (vs:List Value):List Value:=vs.flatMap fun v=>v.cells.toList
def AV.isOne (hp:Hp):AV→Bool
  | .lit v=>v.oneCell'&&Nat.beq v.cells.size 1
  | .ptr .. | .eptr .. | .rptr .. | .clo .. | .bnd .. | .fn1 .. | .fn2 .. | .vw .. | .osub ..=>true
  | .own n=>match hp n with
    | .none_=>false
    | _=>true
  | .val T _=>!T.agg
  | _=>false
section
variable {J:Job} {nx:Nat} {ρ:Nat→Value} {fr:Fr} {hp:Hp} {a:Act} {w w':World} {k:List It} {ops:Array Oper} {rest:List Oper} {o:Oper}
variable {α β:Type} {T:GoT α} {S:GoT β} {get:α→β} {set:α→β→α} {B U N:Nat→Prop}
theorem zlB (p:Option Addr):(Value.pointer p).oneCell'=true∧(Value.pointer p).cells.size=1:=⟨rfl,rfl⟩
theorem znX (p:Option Addr) (l c:Nat):(Value.slice p l c).oneCell'=true∧(Value.slice p l c).cells.size=1:=⟨rfl,rfl⟩
theorem zqV (f:Fn) (b c:Array Value):(Value.func f b c).oneCell'=true∧(Value.func f b c).cells.size=1:=⟨rfl,rfl⟩
theorem zeD {v:Value} (h:v.oneCell'=true) (hs:v.cells.size=1):v.cells.toList=[v]:=ycm
theorem zoZ.one {v:Value} {C:World→(Nat→Prop)→FuncId→Array Value→Prop} (h:zoZ U N w v C):v.oneCell'=true∧v.cells.size=1:=by
  obtain⟨_,_,_,_,e,_⟩:=h;rw[e];exact zqV _ _ _
theorem zvB (s:SimH J nx ρ hp w):∀{x:AV} {v:Value},x.isOne hp=true→x.rel ρ J.B (Uu J ρ hp) (Nn ρ hp) w v→v.oneCell'=true∧v.cells.size=1
  | .lit v,_,h,(e:_=_)=>by
    rw[e];unfold AV.isOne at h;simpa using h
  | .ptr ..,_,_,⟨_,_,e⟩=>by rw[e];exact zlB _
  | .eptr ..,_,_,⟨_,_,_,_,e⟩=>by rw[e];exact zlB _
  | .rptr ..,_,_,⟨_,e,_⟩=>by rw[e];exact zlB _
  | .clo ..,_,_,(e:_=_)=>by rw[e];exact zqV _ _ _
  | .bnd ..,_,_,⟨_,_,e⟩=>by rw[e];exact zqV _ _ _
  | .fn1 ..,_,_,h=>zoZ.one h
  | .fn2 ..,_,_,h=>zoZ.one h
  | .vw ..,_,_,⟨_,_,_,e,_⟩=>by rw[e];exact znX _ _ _
  | .osub ..,_,_,⟨_,_,_,_,_,e⟩=>by rw[e];exact znX _ _ _
  | .val T x,v,h,hv=>by
    have hag:T.agg=false:=by unfold AV.isOne at h;simpa using h
    have hr:=GoT.val_cells hv;have h1:=T.len hr;rw[T.sc hag] at h1;obtain⟨cs,_,h2|h2⟩:=hv
    · rw[hag] at h2;exact absurd h2.1 yn
    have:=T.one yh v (by rw[h2.2];simp)
    exact⟨this,by simpa using h1⟩
  | .own n,v,h,(e:_=_)=>by
    have hr:=s.hrel n;have h':(match hp n with | .none_=>false|_=>true)=true:=h;rw[e];generalize hp n=x at hr h';cases x with
    | none_=>cases h'
    | box ty T x=>obtain⟨g,_,e,_⟩:=hr;rw[e];exact zlB _
    | parts ty xs=>obtain⟨g,_,e,_⟩:=hr;rw[e];exact zlB _
    | objAt b o=>obtain⟨e,_⟩:=hr;rw[e];exact zlB _
    | row e T l =>
      obtain⟨xs,ho,_⟩:=hr;rcases ho.2 with ⟨h,_⟩|⟨g,cap,cur,h,_⟩<;>(rw[h];exact znX _ _ _)
theorem relL_at:∀{xs:List AV} {vs:List Value} {off:Nat} {X:AV},AV.relL ρ B U N w xs vs→zjD off xs=some X→
    ∃pre v post,vs=pre++v::post∧X.rel ρ B U N w v∧(flatV pre).length=off∧v.cells.size=X.cells∧(∀u∈v.cells.toList,u.oneCell'=true)∧
      ∀(Y:AV) (v':Value),Y.rel ρ B U N w v'→v'.cells.size=Y.cells→(∀u∈v'.cells.toList,u.oneCell'=true)→AV.relL ρ B U N w (zhP off Y xs) (pre++v'::post)
  | [],_,_,_,_,h=>by cases h
  | x::xs,vs,off,X,⟨v,us,e,h1,h2,h3,h4⟩,h=>by
    unfold zjD at h;cases c:Nat.beq off 0 with
    | true =>
      rw[c] at h;simp only[cond_true,Option.some.injEq] at h;subst h;obtain rfl:off=0:=Nat.eq_of_beq_eq_true c;exact⟨[],v,us,e,h1,rfl,h2,h3,fun Y v' g1 g2 g3=>⟨v',us,rfl,g1,g2,g3,h4⟩⟩
    | false =>
      rw[c] at h;simp only[cond_false] at h;cases c2:Nat.ble x.cells off with
      | false=>rw[c2] at h;cases h
      | true =>
        rw[c2] at h;simp only[cond_true] at h;obtain⟨pre,u,post,e1,g1,g2,g3,g4,g5⟩:=relL_at h4 h;have hle:=Nat.le_of_ble_eq_true c2;refine⟨v::pre,u,post,by rw[e,e1];rfl,g1,?_,g3,g4,fun Y v' a1 a2 a3=>?_⟩
        · rw[flatV,List.flatMap_cons,ue]
          have:v.cells.toList.length=x.cells:=by simpa using h2
          rw[this,g2];omega
        unfold zhP;rw[c,c2];exact⟨v,_,rfl,h1,h2,h3,g5 Y v' a1 a2 a3⟩
theorem zks:∀{xs:List AV} {off:Nat} {Y:AV},(∀x∈xs,x.under nx)→Y.under nx→∀x∈zhP off Y xs,x.under nx
  | [],_,_,_,_,x,hx=>by cases hx
  | z::xs,off,Y,hx,hY,x,hm=>by
    unfold zhP at hm;cases c:Nat.beq off 0 with
    | true =>
      rw[c] at hm;rcases List.mem_cons.1 hm with e|hm
      · rw[e];exact hY
      exact hx x (by simp[hm])
    | false =>
      rw[c] at hm;cases c2:Nat.ble z.cells off with
      | false =>
        rw[c2] at hm;exact hx x hm
      | true =>
        rw[c2] at hm;rcases List.mem_cons.1 hm with e|hm
        · rw[e];exact hx z yw
        exact zks (fun y hy=>hx y ybH) hY x hm
theorem zpH:∀{xs:List AV} {off:Nat} {X:AV},zjD off xs=some X→X∈xs
  | [],_,_,h=>by cases h
  | x::xs,off,X,h=>by
    unfold zjD at h;cases c:Nat.beq off 0 with
    | true=>rw[c] at h;simp at h;simp[h]
    | false =>
      rw[c] at h;cases c2:Nat.ble x.cells off with
      | false=>rw[c2] at h;cases h
      | true=>rw[c2] at h;exact List.mem_cons_of_mem _ (zpH h)
theorem zwD {ty d:Nat} {y:Operand} {Y:AV} (ho:o.op = .box ty y) (hd:o.dst=some d) (hg:o.guard=none) (hlt:Nat.blt d J.nt=true) (hy:fr.ev y=Y) (h1:Y.isOne hp=true) (hc:Y.cells=1)
    (H:AW J (nx+1) (fr.set d (.ptr nx 0)) (hp.set nx (.parts ty [Y])) (.ops ops rest::k)):AW J nx fr hp (.ops ops (o::rest)::k):=by
  intro a w ⟨ρ,s⟩;refine z6 hg yt fun K hK=>?_
  have h:=zao s y;have hu:=zbB s.fnx y;rw[hy] at h hu;obtain⟨g1,g2⟩:=zvB s.toSimH h1 h;have hrun:(execOp a.eval o).run J.P w = .ok (.value (.pointer (some ⟨w.heap.size,0,none⟩))) (w.alloc (.cells (a.eval y).cells ty)):=by
    unfold execOp;rw[ho];simp[Instr.box,Sem.run_bind,newVar,newRow,newObj,Sem.run]
  unfold Oper.wp;rw[hrun,Oper.upon_value,hd];have hcs:(a.eval y).cells=(flatV [a.eval y]).toArray:=yw
  refine hK _ _ (H _ _ ⟨_,(s.bind (p:=.pointer (some ⟨w.heap.size,0,none⟩)) (x:=.parts ty [Y]) (zby _ _) (fun b e=>by simp only[zaV,Option.some.injEq] at e;subst e;exact⟨ug _,by simp⟩)
    (fun kp=>⟨w.heap.size,[a.eval y],rfl,by rw[←hcs];exact heap_alloc_new w _,a.eval y,[],rfl,AV.rel_ren (nx:=nx) (fun n hn=>by unfold ren;rw[ur ya]) hu (AV.rel_mono kp hu h),g2.trans hc.symm,(fun u hu=>by rw[zeD g1 g2] at hu;simp at hu;rw[hu];exact g1),rfl⟩)
    (fun x hx=>by simp only[List.mem_singleton] at hx;subst hx;exact AV.under_mono (Nat.le_succ nx) hu)).put yM ⟨w.heap.size,by unfold ren;simp,rfl⟩ (Nat.lt_succ_self nx)⟩)
theorem zjx {ty d:Nat} {v:Value} (hz:(J.P.info? ty).bind (·.zero)=some v) (h1:v.oneCell'=true) (h2:v.cells.size=1) (ho:o.op = .alloc ty) (hd:o.dst=some d) (hg:o.guard=none) (hlt:Nat.blt d J.nt=true)
    (H:AW J (nx+1) (fr.set d (.ptr nx 0)) (hp.set nx (.parts ty [.lit v])) (.ops ops rest::k)):AW J nx fr hp (.ops ops (o::rest)::k):=by
  intro a w ⟨ρ,s⟩;refine z6 hg yt fun K hK=>?_
  obtain⟨i,h3,h4⟩:=Option.bind_eq_some_iff.1 hz;have hrun:(execOp a.eval o).run J.P w = .ok (.value (.pointer (some ⟨w.heap.size,0,none⟩))) (w.alloc (.cells v.cells ty)):=by
    unfold execOp;rw[ho];simp[Instr.alloc,zeroValue,typeInfo,Sem.run_bind,h3,h4,newVar,newRow,newObj,Sem.run]
  unfold Oper.wp;rw[hrun,Oper.upon_value,hd];have hcs:v.cells=(flatV [v]).toArray:=yw
  refine hK _ _ (H _ _ ⟨_,(s.bind (p:=.pointer (some ⟨w.heap.size,0,none⟩)) (x:=.parts ty [.lit v]) (zby _ _) (fun b e=>by simp only[zaV,Option.some.injEq] at e;subst e;exact⟨ug _,by simp⟩)
    (fun kp=>⟨w.heap.size,[v],rfl,by rw[←hcs];exact heap_alloc_new w _,v,[],rfl,rfl,h2,(fun u hu=>by rw[zeD h1 h2] at hu;simp at hu;rw[hu];exact h1),rfl⟩)
    (fun x hx=>by simp only[List.mem_singleton] at hx;subst hx;trivial)).put yM ⟨w.heap.size,by unfold ren;simp,rfl⟩ (Nat.lt_succ_self nx)⟩)
theorem zqQ (s:SimH J nx ρ hp w) {n off ty:Nat} {xs:List AV} {X:AV} {v:Value} (hn:hp n = .parts ty xs) (hX:zjD off xs=some X) (hv:(AV.ptr n off).rel ρ J.B (Uu J ρ hp) (Nn ρ hp) w v) :
    ∃g pre u post,ρ n = .pointer (some ⟨g,0,none⟩)∧v = .pointer (some ((⟨g,0,none⟩:Addr).add off))∧w.heap[g]?=some (.cells (flatV (pre++u::post)).toArray ty (0,0))∧(flatV pre).length=off∧X.rel ρ J.B (Uu J ρ hp) (Nn ρ hp) w u∧u.cells.size=X.cells∧(∀z∈u.cells.toList,z.oneCell'=true)∧
      (∀(Y:AV) (v':Value),Y.rel ρ J.B (Uu J ρ hp) (Nn ρ hp) w v'→v'.cells.size=Y.cells→(∀u∈v'.cells.toList,u.oneCell'=true)→AV.relL ρ J.B (Uu J ρ hp) (Nn ρ hp) w (zhP off Y xs) (pre++v'::post))∧
      ∀(j:Nat) z,u.cells[j]?=some z→w.cell? (((⟨g,0,none⟩:Addr).add off).add j)=some z:=by
  obtain⟨g,e1,e2⟩:=hv;have hh:=s.hrel n;rw[hn] at hh;obtain⟨g',vs,e3,hg,hr⟩:=hh;obtain rfl:g=g':=ycn;obtain⟨pre,u,post,e4,h1,h2,h3,h4,h5⟩:=relL_at hr hX;refine⟨g,pre,u,post,e1,e2,by rw[←e4];exact hg,h2,h1,h3,h4,h5,fun j z hz=>?_⟩;rw[zbT,zh1,cell_of_row w g _ _ ty (0,0) hg,e4]
  have:flatV (pre++u::post)=flatV pre++(u.cells.toList++flatV post):=by simp[flatV]
  simp only[this,List.getElem?_toArray];have hj:=(Array.getElem?_eq_some_iff.1 hz).1;rw[List.getElem?_append_right (by rw[h2];exact Nat.le_add_right _ _),h2,Nat.add_sub_cancel_left,List.getElem?_append_left (by simpa using hj)];simpa using hz
theorem zae {t ty n off:Nat} {x:Operand} {xs:List AV} {X:AV} (ho:o.op = .load t x) (hx:fr.ev x = .ptr n off) (hn:hp n = .parts ty xs) (hX:zjD off xs=some X) (h1:X.isOne hp=true) (ht:tyB J.P t 1 false=true):OpG J o fr hp X where
  run {nx ρ a w} s hr hu K Q hK:=by
    have h:=hr x yl;rw[hx] at h;obtain⟨g,pre,u,post,e1,e2,hg,h2,h3,h4,h5,_,h6⟩:=zqQ s hn hX h;obtain⟨g1,g2⟩:=zvB s h1 h3;have hc:=h6 0 u (by have:=zeD g1 g2;rw[←Array.getElem?_toList,this];rfl);rw[add_zero] at hc;obtain⟨_,t1,t2⟩:=zgF ht w;have hrun:(execOp a.eval o).run J.P w = .ok (.value u) w:=by
      unfold execOp;rw[ho];simp[Instr.loadAt,Instr.sureAddr,Sem.run_bind,e2,loadVar,t1,load,Sem.run,hc]
    unfold Oper.wp;rw[hrun];exact hK u w (Below.refl _ _) h3
  und {nx} hb _:=by
    have:=(hb n).2
    rw[hn] at this;exact this X (zpH hX)
  nd c hc:=ycq
theorem part_val (s:SimH J nx ρ hp w) {n off ty:Nat} {xs:List AV} {x:α} {v:Value} (hn:hp n = .parts ty xs) (hX:zjD off xs=some (.val T x)) (hv:(AV.ptr n off).rel ρ J.B (Uu J ρ hp) (Nn ρ hp) w v) :
    ∃g,ρ n = .pointer (some ⟨g,0,none⟩)∧v = .pointer (some ((⟨g,0,none⟩:Addr).add off))∧T.at_ (Uu J ρ hp) (Nn ρ hp) w ((⟨g,0,none⟩:Addr).add off) x:=by
  obtain⟨g,pre,u,post,e1,e2,_,_,h3,_,_,_,h6⟩:=zqQ s hn hX hv;exact⟨g,e1,e2,_,GoT.val_cells h3,fun j z hz=>h6 j z (by simpa using hz)⟩
theorem zcp {t ty n off:Nat} {x:Operand} {xs:List AV} {c:α} (ho:o.op = .load t x) (hx:fr.ev x = .ptr n off) (hn:hp n = .parts ty xs) (hX:zjD off xs=some (.val T c)) (ht:tyB J.P t T.size T.agg=true):OpG J o fr hp (.val T c):=by
  refine .of_run (fun s hr _=>?_) (fun _ _=>trivial);have h:=hr x yl;rw[hx] at h;obtain⟨g,_,e,hat⟩:=part_val s hn hX h;obtain⟨v,h1,h2⟩:=zc4 ht hat
  refine⟨v,?_,h2⟩;unfold execOp;rw[ho];simp[Instr.loadAt,Instr.sureAddr,Sem.run_bind,e,h1]
theorem zaG {t ty:TypeId} {x y:Operand} {n off:Nat} {xs:List AV} {X Y:AV} {ag:Bool} (ho:o.op = .store t x y) (hd:o.dst=none) (hg:o.guard=none) (hx:fr.ev x = .ptr n off) (hn:hp n = .parts ty xs) (hX:zjD off xs=some X)
    (hy:fr.ev y=Y) (h1:Y.isOne hp=true) (hc:Y.cells=1) (hcX:X.cells=1) (ht:tyB J.P t 1 ag=true) (H:AW J nx fr (hp.set n (.parts ty (zhP off Y xs))) (.ops ops rest::k)):AW J nx fr hp (.ops ops (o::rest)::k):=by
  intro a w ⟨ρ,s⟩;refine z6 hg yt fun K hK=>?_
  have h:=zao s x;have h':=zao s y;have hu:=zbB s.fnx y;rw[hx] at h;rw[hy] at h' hu;obtain⟨g1,g2⟩:=zvB s.toSimH h1 h';obtain⟨g,pre,u,post,e1,e2,hgc,h2,h3,h4,h5,h6,_⟩:=zqQ s.toSimH hn hX h;have hu1:u.cells.size=1:=h4.trans hcX;have hrun:=zdW (w:=w) (P:=J.P) (off:=off) (v:=a.eval y) ht g2 (fun z hz=>by rw[zeD g1 g2] at hz;simp at hz;rw[hz];exact g1) hgc (by
    have:(flatV (pre++u::post)).length=(flatV pre).length+(u.cells.size+(flatV post).length):=by simp only[flatV,List.flatMap_append,List.flatMap_cons,ue,Array.length_toList]
    rw[List.size_toArray,this,h2,hu1];omega)
  have hnew:(flatV (pre++u::post)).toArray.toList.take off++(a.eval y).cells.toList++(flatV (pre++u::post)).toArray.toList.drop (off+1)=flatV (pre++a.eval y::post):=by
    have e3:flatV (pre++u::post)=flatV pre++(u.cells.toList++flatV post):=ycz;have e4:flatV (pre++a.eval y::post)=flatV pre++((a.eval y).cells.toList++flatV post):=ycz;rw[List.toList_toArray,e3,e4,←h2,List.take_left' rfl,←List.drop_drop,List.drop_left' rfl,List.drop_left' (by simpa using hu1),List.append_assoc]
  rw[hnew] at hrun;have hex:(execOp a.eval o).run J.P w = .ok .skip (w.setRow g (flatV (pre++a.eval y::post)).toArray):=by
    unfold execOp;rw[ho];simp only[e2,Instr.storeAt,Instr.sureAddr,Sem.run_bind,Sem.run_pure,Result.andThen_ok,hrun]
  unfold Oper.wp;rw[hex,Oper.upon_skip,hd];refine hK _ _ ?_;have hux:∀x∈zhP off Y xs,x.under nx:=zks (by have:=s.hun n;rw[hn] at this;exact this) hu
  exact H _ _ ⟨ρ,s.modify (x:=.parts ty (zhP off Y xs)) hn trivial trivial yw rfl rfl rfl (fun b hb=>setRow_other w g b _ (fun e=>hb yaO))
    (fun kp=>⟨g,pre++a.eval y::post,e1,setRow_heap w g _ _ ty (0,0) hgc,AV.relL_mono kp hux (h6 Y _ h' (g2.trans hc.symm) (fun z hz=>by rw[zeD g1 g2] at hz;simp at hz;rw[hz];exact g1))⟩) (ug _) hux⟩
end
theorem hpB {x y:HE} {ty:TypeId} {α:Type} {T:GoT α} {v:α} (h1:x = .box ty T v) (h2:y = .box ty T v):x=y:=h1.trans h2.symm
end Go.Ab
namespace Go.Ab
open Go.RowKit
section
variable {J:Job} {nx:Nat} {fr:Fr} {hp:Hp} {k:List It} {ops:Array Oper} {rest:List Oper} {o oj:Oper} {id:Nat} {l:List Oper} {c y z:Code}
theorem CN (h:AW J nx fr hp (k)):AW J nx fr hp (.ops ops []::k):=zM h
theorem CQ (h:AW J nx fr hp (.code c :: .code y::k)):AW J nx fr hp (.code (c.seq y)::k):=zgX h
theorem CR (h:AW J nx fr hp (.ops l.toArray l::k)):AW J nx fr hp (.code (.region id l.toArray false)::k):=zdr h
theorem CS (h:AW J nx fr hp (k)):AW J nx fr hp (.code .skip::k):=zlS h
theorem CB (h:AW J nx fr hp (.code c :: .inBlock id::k)):AW J nx fr hp (.code (.block id c)::k):=zrJ h
theorem CI (h:AW J nx fr hp (k)):AW J nx fr hp (.inBlock id::k):=zlU h
theorem CQR (h:AW J nx fr hp (.ops l.toArray l :: .code y::k)):AW J nx fr hp (.code ((Code.region id l.toArray false).seq y)::k):=zgX (zdr h)
theorem CNQ (h:AW J nx fr hp (.code c :: .code y::k)):AW J nx fr hp (.ops ops [] :: .code (c.seq y)::k):=zM (zgX h)
theorem CNR (h:AW J nx fr hp (.ops l.toArray l::k)):AW J nx fr hp (.ops ops [] :: .code (.region id l.toArray false)::k):=zM (zdr h)
theorem CNQR (h:AW J nx fr hp (.ops l.toArray l :: .code y::k)):AW J nx fr hp (.ops ops [] :: .code ((Code.region id l.toArray false).seq y)::k):=zM (zgX (zdr h))
theorem CQQR (h:AW J nx fr hp (.ops l.toArray l :: .code z :: .code y::k)):AW J nx fr hp (.code (((Code.region id l.toArray false).seq z).seq y)::k):=zgX (zgX (zdr h))
theorem CNQQR (h:AW J nx fr hp (.ops l.toArray l :: .code z :: .code y::k)):AW J nx fr hp (.ops ops [] :: .code (((Code.region id l.toArray false).seq z).seq y)::k):=zM (zgX (zgX (zdr h)))
theorem CSQR (h:AW J nx fr hp (.ops l.toArray l :: .code y::k)):AW J nx fr hp (.code .skip :: .code ((Code.region id l.toArray false).seq y)::k):=zlS (zgX (zdr h))
theorem CSQQR (h:AW J nx fr hp (.ops l.toArray l :: .code z :: .code y::k)):AW J nx fr hp (.code .skip :: .code (((Code.region id l.toArray false).seq z).seq y)::k):=zlS (zgX (zgX (zdr h)))
theorem CNB (h:AW J nx fr hp (.code c :: .inBlock id::k)):AW J nx fr hp (.ops ops [] :: .code (.block id c)::k):=zM (zrJ h)
theorem CSQBQR {i:Nat} (h:AW J nx fr hp (.ops l.toArray l :: .code z :: .inBlock i :: .code y::k)):AW J nx fr hp (.code .skip :: .code ((Code.block i ((Code.region id l.toArray false).seq z)).seq y)::k):=zlS (zgX (zrJ (zgX (zdr h))))
theorem CNIR {i:Nat} (h:AW J nx fr hp (.ops l.toArray l::k)):AW J nx fr hp (.ops ops [] :: .inBlock i :: .code (.region id l.toArray false)::k):=zM (zlU (zdr h))
theorem CSIR {i:Nat} (h:AW J nx fr hp (.ops l.toArray l::k)):AW J nx fr hp (.code .skip :: .inBlock i :: .code (.region id l.toArray false)::k):=zlS (zlU (zdr h))
theorem CE {k':List It} (h:AW J nx fr hp k') (e:zo5 id k=some k':=by exact rfl):AW J nx fr hp (.code (.exit id)::k):=aw_exit e h
theorem CD (hm:J.P.follows .mixedOrders=true) (h:GK J nx hp l.toArray k l fr) (hB:Region.lexB .any l.toArray=true:=by decide +kernel):AW J nx fr hp (.code (.region id l.toArray true)::k):=aw_draw hm hB h
variable {x:AV} {d j t:Nat} {b want:Bool}
theorem A0 (h:OpG J o fr hp x) (H:AW J nx (fr.set d x) hp (.ops ops rest::k)) (hd:o.dst=some d:=by exact rfl) (hg:o.guard=none:=by exact rfl) (hl:Nat.blt d J.nt=true:=by exact rfl):AW J nx fr hp (.ops ops (o::rest)::k):=aw_g h hd hg hl H
theorem A1 (h:OpG J o fr hp x) (H:AW J nx (fr.set d x) hp (.ops ops rest::k)) (hd:o.dst=some d:=by exact rfl) (hg:o.guard=some (j,want):=by exact rfl) (ho:ops[j]?=some oj:=by exact rfl) (hj:oj.dst=some t:=by exact rfl) (hv:fr t = .val zs b:=by exact rfl) (ht:Nat.blt t J.nt=true:=by exact rfl) (hw:b=want:=by exact rfl) (hl:Nat.blt d J.nt=true:=by exact rfl):AW J nx fr hp (.ops ops (o::rest)::k):=aw_gi h hd hg ho hj hv ht hw hl H
theorem A2 (H:AW J nx (fr.set d (.lit undef)) hp (.ops ops rest::k)) (hd:o.dst=some d:=by exact rfl) (hg:o.guard=some (j,want):=by exact rfl) (ho:ops[j]?=some oj:=by exact rfl) (hj:oj.dst=some t:=by exact rfl) (hv:fr t = .val zs b:=by exact rfl) (ht:Nat.blt t J.nt=true:=by exact rfl) (hw:(b==want)=false:=by exact rfl) (hl:Nat.blt d J.nt=true:=by exact rfl):AW J nx fr hp (.ops ops (o::rest)::k):=aw_gn hd hg ho hj hv ht hw hl H
theorem A3 (H:AW J nx (fr.set d (.lit undef)) hp (.ops ops rest::k)) (hd:o.dst=some d:=by exact rfl) (hg:o.guard=some (j,want):=by exact rfl) (ho:ops[j]?=some oj:=by exact rfl) (hj:oj.dst=some t:=by exact rfl) (hv:fr t = .lit undef:=by exact rfl) (ht:Nat.blt t J.nt=true:=by exact rfl) (hl:Nat.blt d J.nt=true:=by exact rfl):AW J nx fr hp (.ops ops (o::rest)::k):=aw_gu hd hg ho hj hv ht hl H
theorem G0 (h:OpG J o fr hp x) (H:GK J nx hp ops k rest (fr.set d x)) (hd:o.dst=some d:=by exact rfl) (hg:o.guard=none:=by exact rfl) (hl:Nat.blt d J.nt=true:=by exact rfl):GK J nx hp ops k (o::rest) fr:=GK.g h hd hg hl H
theorem G1 (h:OpG J o fr hp x) (H:GK J nx hp ops k rest (fr.set d x)) (hd:o.dst=some d:=by exact rfl) (hg:o.guard=some (j,want):=by exact rfl) (ho:ops[j]?=some oj:=by exact rfl) (hj:oj.dst=some t:=by exact rfl) (hv:fr t = .val zs b:=by exact rfl) (ht:Nat.blt t J.nt=true:=by exact rfl) (hw:b=want:=by exact rfl) (hl:Nat.blt d J.nt=true:=by exact rfl):GK J nx hp ops k (o::rest) fr:=GK.gi h hd hg ho hj hv ht hw hl H
theorem G2 (H:GK J nx hp ops k rest (fr.set d (.lit undef))) (hd:o.dst=some d:=by exact rfl) (hg:o.guard=some (j,want):=by exact rfl) (ho:ops[j]?=some oj:=by exact rfl) (hj:oj.dst=some t:=by exact rfl) (hv:fr t = .val zs b:=by exact rfl) (ht:Nat.blt t J.nt=true:=by exact rfl) (hw:(b==want)=false:=by exact rfl) (hl:Nat.blt d J.nt=true:=by exact rfl):GK J nx hp ops k (o::rest) fr:=GK.gn hd hg ho hj hv ht hw hl H
theorem X0 {info:List (Option Nat)} {s:XS} {S:List XS} {pd:List (Nat×HE×Nat)} (h:OpG J o fr s.hp x) (H:XK J ops k info rest (s::S) (fr.set d x) pd) (hd:o.dst=some d:=by exact rfl) (hg:o.guard=none:=by exact rfl) (hl:Nat.blt d J.nt=true:=by exact rfl):XK J ops k (some 1::info) (o::rest) (s::S) fr pd:=XK.g h hd hg hl H
theorem mV {y:Operand} {α:Type} {T:GoT α} {x:α} (ho:o.op = .move y:=by exact rfl) (hx:fr.ev y = .val T x:=by exact rfl):OpG J o fr hp (.val T x):=g_mv (.inl ho) hx
theorem aV {y:Operand} {α:Type} {T:GoT α} {x:α} (ho:o.op = .assign y:=by exact rfl) (hx:fr.ev y = .val T x:=by exact rfl):OpG J o fr hp (.val T x):=g_mv (.inr ho) hx
theorem mP {y:Operand} {n off:Nat} (ho:o.op = .move y:=by exact rfl) (hx:fr.ev y = .ptr n off:=by exact rfl):OpG J o fr hp (.ptr n off):=g_mp (.inl ho) hx
theorem aP {y:Operand} {n off:Nat} (ho:o.op = .assign y:=by exact rfl) (hx:fr.ev y = .ptr n off:=by exact rfl):OpG J o fr hp (.ptr n off):=g_mp (.inr ho) hx
theorem mO {y:Operand} {n:Nat} (ho:o.op = .move y:=by exact rfl) (hx:fr.ev y = .own n:=by exact rfl):OpG J o fr hp (.own n):=g_mo (.inl ho) hx
theorem aO {y:Operand} {n:Nat} (ho:o.op = .assign y:=by exact rfl) (hx:fr.ev y = .own n:=by exact rfl):OpG J o fr hp (.own n):=g_mo (.inr ho) hx
theorem mL {y:Operand} {v:Value} (ho:o.op = .move y:=by exact rfl) (hx:fr.ev y = .lit v:=by exact rfl):OpG J o fr hp (.lit v):=g_ml (.inl ho) hx
theorem aL {y:Operand} {v:Value} (ho:o.op = .assign y:=by exact rfl) (hx:fr.ev y = .lit v:=by exact rfl):OpG J o fr hp (.lit v):=g_ml (.inr ho) hx
theorem mC {y:Operand} {f:FuncId} {l:List Nat} (ho:o.op = .move y:=by exact rfl) (hx:fr.ev y = .clo f l:=by exact rfl):OpG J o fr hp (.clo f l):=g_mc (.inl ho) hx
theorem aC {y:Operand} {f:FuncId} {l:List Nat} (ho:o.op = .assign y:=by exact rfl) (hx:fr.ev y = .clo f l:=by exact rfl):OpG J o fr hp (.clo f l):=g_mc (.inr ho) hx
theorem mR {y:Operand} {α:Type} {T:GoT α} {x:α} (ho:o.op = .move y:=by exact rfl) (hx:fr.ev y = .rptr T x:=by exact rfl):OpG J o fr hp (.rptr T x):=g_mr (.inl ho) hx
theorem mS {y:Operand} {n sz lo len:Nat} (ho:o.op = .move y:=by exact rfl) (hx:fr.ev y = .osub n sz lo len:=by exact rfl):OpG J o fr hp (.osub n sz lo len):=g_ms (.inl ho) hx
theorem aS {y:Operand} {n sz lo len:Nat} (ho:o.op = .assign y:=by exact rfl) (hx:fr.ev y = .osub n sz lo len:=by exact rfl):OpG J o fr hp (.osub n sz lo len):=g_ms (.inr ho) hx
theorem mF {y:Operand} {P:Program} {α β:Type} {A:GoT α} {B:GoT β} {f:α→β} (ho:o.op = .move y:=by exact rfl) (hx:fr.ev y = .fn1 P A B f:=by exact rfl):OpG J o fr hp (.fn1 P A B f):=zro (.inl ho) hx
theorem mH {y:Operand} {P:Program} {α β γ:Type} {A:GoT α} {A':GoT β} {B:GoT γ} {f:α→β→γ} (ho:o.op = .move y:=by exact rfl) (hx:fr.ev y = .fn2 P A A' B f:=by exact rfl):OpG J o fr hp (.fn2 P A A' B f):=zrn (.inl ho) hx
theorem mX {y:Operand} {x:AV} (ho:o.op = .move y:=by exact rfl) (h:(o.op = .move y∨o.op = .assign y)→OpG J o fr hp x:=by intro k;first|exact g_mv k rfl|exact g_mp k rfl|exact g_mo k rfl|exact g_ml k rfl|exact g_mr k rfl|exact zdF k rfl|exact g_mc k rfl|exact g_me k rfl|exact g_ms k rfl|exact zdE k rfl|exact zro k rfl|exact zrn k rfl|exact g_mw k rfl|exact g_mi k rfl):OpG J o fr hp x:=h (.inl ho)
theorem aX {y:Operand} {x:AV} (ho:o.op = .assign y:=by exact rfl) (h:(o.op = .move y∨o.op = .assign y)→OpG J o fr hp x:=by intro k;first|exact g_mv k rfl|exact g_mp k rfl|exact g_mo k rfl|exact g_ml k rfl|exact g_mr k rfl|exact zdF k rfl|exact g_mc k rfl|exact g_me k rfl|exact g_ms k rfl|exact zdE k rfl|exact zro k rfl|exact zrn k rfl|exact g_mw k rfl|exact g_mi k rfl):OpG J o fr hp x:=h (.inr ho)
theorem oK {c x y:Operand} {b:Bool} {z:AV} (ho:o.op = .pick c x y:=by exact rfl) (hc:fr.ev c = .val zs b:=by exact rfl) (hz:(bif b then fr.ev x else fr.ev y)=z:=by exact rfl):OpG J o fr hp z:=g_pick ho hc hz
theorem e30 {x:Operand} {X Y Z:AV} (ho:o.op = .extract x 0:=by exact rfl) (hx:fr.ev x = .tup3 X Y Z:=by exact rfl):OpG J o fr hp X:=zkP ho hx
theorem e32 {x:Operand} {X Y Z:AV} (ho:o.op = .extract x 2:=by exact rfl) (hx:fr.ev x = .tup3 X Y Z:=by exact rfl):OpG J o fr hp Z:=g_x32 ho hx
theorem oN {x:Operand} {t:TypeId} {b:Bool} (ho:o.op = .unOp .not t x:=by exact rfl) (hx:fr.ev x = .val zs b:=by exact rfl):OpG J o fr hp (.val zs (!b)):=g_not ho hx
variable {α β:Type} {T:GoT α} {S:GoT β} {t':TypeId} {y z:Operand}
theorem zbb {X:AV} (h:OpG J o fr hp X:=by exact g_lss rfl rfl rfl rfl):OpG J o fr hp X:=h
theorem zfp {X:AV} (h:OpG J o fr hp X:=by exact g_leq rfl rfl rfl rfl):OpG J o fr hp X:=h
theorem zjC {X:AV} (h:OpG J o fr hp X:=by exact g_gtr rfl rfl rfl rfl):OpG J o fr hp X:=h
theorem zer {X:AV} (h:OpG J o fr hp X:=by exact g_geq rfl rfl rfl rfl):OpG J o fr hp X:=h
theorem zbZ {X:AV} (h:OpG J o fr hp X:=by exact g_eql rfl rfl rfl rfl):OpG J o fr hp X:=h
theorem zgB {X:AV} (h:OpG J o fr hp X:=by exact g_neq rfl rfl rfl rfl):OpG J o fr hp X:=h
theorem zcn {X:AV} (h:OpG J o fr hp X:=by first|exact zo9 rfl rfl rfl (zah yS)|exact zo9 rfl rfl rfl rfl):OpG J o fr hp X:=h
theorem za5 {X:AV} (h:OpG J o fr hp X:=by first|exact zj0 rfl rfl rfl (zah yS)|exact zj0 rfl rfl rfl rfl):OpG J o fr hp X:=h
theorem zh0 {X:AV} (h:OpG J o fr hp X:=by first|exact g_mul rfl rfl rfl (zah yS)|exact g_mul rfl rfl rfl rfl):OpG J o fr hp X:=h
variable {get:α→β} {set:α→β→α} {ty n off ft f:Nat} {v:α}
theorem oLb (L:Lens T off S get set) (ht:tyB J.P t S.size S.agg=true) (ho:o.op = .load t y:=by exact rfl) (hx:fr.ev y = .ptr n off:=by exact rfl) (hn:hp n = .box ty T v:=by exact rfl):OpG J o fr hp (.val S (get v)):=zy ho hx hn L ht
theorem oLs (ho:o.op = .load t y) (hx:fr.ev y = .ptr n 0) (hn:hp n = .box ty T v) (ht:tyB J.P t T.size T.agg=true):OpG J o fr hp (.val T v):=zy ho hx hn (Lens.self T) ht
theorem oFp {off':Nat} (hf:fieldB J.P ty f d ft=true) (ho:o.op = .fieldAddr ty y f:=by exact rfl) (hx:fr.ev y = .ptr n off:=by exact rfl) (e:off+d=off':=by exact rfl):OpG J o fr hp (.ptr n off'):=ziU ho hx hf e
theorem oFr (hf:fieldB J.P ty f off ft=true) (L:Lens T off S get set) (ho:o.op = .fieldAddr ty y f:=by exact rfl) (hx:fr.ev y = .rptr T v:=by exact rfl):OpG J o fr hp (.rptr S (get v)):=g_fa_r ho hx hf L
theorem oCl {g:FuncId} {xs:Array Operand} {ts:Array TypeId} {As:List AV} {X:AV} (hc:Tells J.P g As X) (ho:o.op = .call { callee:=.value (.func g),args:=xs,argTypes:=ts }) (hf:fnB J.P g=true) (ha:zis J fr hp xs.toList As) (hX:X.under0=true:=by exact rfl):OpG J o fr hp X:=zdC hc ho hf ha hX
variable {x y:Code} {c:Operand}
theorem Cf {p:Prop} [Decidable p] (ht:p→AW J nx fr hp (.code x::k)) (hf:¬p→AW J nx fr hp (.code y::k)) (hc:fr.ev c = .val zs b:=by exact rfl) (hp':b=decide p:=by first|rfl|(rw[uo];simp only[IntL.toI,id_eq];omega)|(simp[IntL.toI];done)|(simp[IntL.toI];omega)):AW J nx fr hp (.code (.cond c x y)::k):=zq hc hp' ht hf
theorem Ct (h:AW J nx fr hp (.code x::k)) (hc:fr.ev c = .val zs b:=by exact rfl) (e:b=true:=by exact rfl):AW J nx fr hp (.code (.cond c x y)::k):=zkb hc e h
theorem Cg (h:AW J nx fr hp (.code y::k)) (hc:fr.ev c = .val zs b:=by exact rfl) (e:b=false:=by exact rfl):AW J nx fr hp (.code (.cond c x y)::k):=zha hc e h
theorem Sp {d:Nat} {p:Prop} [Decidable p] (ht:p→AW J nx (fr.set d (.val zs true)) hp k) (hf:¬p→AW J nx (fr.set d (.val zs false)) hp k) (hc:fr d = .val zs b:=by exact rfl) (hp':b=decide p:=by first|rfl|(rw[uo];simp only[IntL.toI,id_eq];omega)|(simp[IntL.toI];done)|(simp[IntL.toI];omega)):AW J nx fr hp k:=zX hc hp' ht hf
theorem Lp {c:Code} {ι:Type} (nxI:Nat) (F:ι→Fr) (H:ι→Hp) (Inv:ι→Prop) (M:ι→Nat) (i0:ι) (h0:Inv i0)
    (round:∀i,Inv i→AW J nxI (F i) (H i) (.code c :: .again (Next J nxI F H Inv M i)::k)) (hk:Nat.ble (max J.kg J.bn) nxI=true:=by exact rfl)
    (hf:Fr.le (F i0) fr:=by (repeat refine Fr.le_set ?_ ybn);exact Fr.le_none _) (hh:Hp.le (H i0) hp:=by (repeat refine Hp.le_set ?_ rfl);exact Hp.le_none _) (bf:Fr.below_ nxI (F i0):=by (repeat refine Fr.below_setB ?_ rfl);exact Fr.below_none _) (bh:Hp.below_ nxI (H i0):=by (repeat refine Hp.below_set ?_ yn);exact Hp.below_none _):AW J nx fr hp (.code (.loop c)::k):=aw_loopI nxI hk F H Inv M i0 h0 hf hh bf bh round
theorem Nx {ι : Type} {nxI : Nat} {F : ι → Fr} {H : ι → Hp} {Inv : ι → Prop} {M : ι → Nat} {i : ι} (j : ι) (h0 : Inv j) (hm : M j < M i) (hk : Nat.ble (max J.kg J.bn) nxI = true := by exact rfl)
    (hf:Fr.le (F j) fr:=by (repeat refine Fr.le_set ?_ ybn);exact Fr.le_none _) (hh:Hp.le (H j) hp:=by (repeat refine Hp.le_set ?_ rfl);exact Hp.le_none _) (bf:Fr.below_ nxI (F j):=by (repeat refine Fr.below_setB ?_ rfl);exact Fr.below_none _) (bh:Hp.below_ nxI (H j):=by (repeat refine Hp.below_set ?_ yn);exact Hp.below_none _):AW J nx fr hp (.again (Next J nxI F H Inv M i)::k):=aw_next j h0 hm hk hf hh bf bh
end
end Go.Ab
namespace Go.Ab
open Go.RowKit
theorem zri {w w':World} (h:Below w.heap.size w w'):∃q os,w'=Sort.grow (w.drewN q) os:=by
  refine⟨w'.drawn-w.drawn,w'.heap.extract w.heap.size w'.heap.size,?_⟩;have hh:w'.heap=w.heap++w'.heap.extract w.heap.size w'.heap.size:=by
    apply Array.ext_getElem?;intro i;rw[Array.getElem?_append];by_cases c:i<w.heap.size
    · rw[ut c];exact h.block i c
    rw[ur c,Array.getElem?_extract];by_cases d:i<w'.heap.size
    · rw[ut ya];congr 1;omega
    rw[ur ya,Array.getElem?_eq_none ya]
  have h1:=h.os;have h2:=h.tape;have h3:=h.output;have h4:=h.drawn;cases w;cases w';simp only[Sort.grow,World.drewN] at *;subst h1;subst h2;subst h3;congr 1;omega
section
variable {α:Type} {T:GoT α} {enc:α→List Value} {ok:α→Prop}
def Flat1 (T:GoT α) (enc:α→List Value) (ok:α→Prop):Prop:=∀U N w x cs,T.rel U N w x cs↔cs=enc x∧ok x
theorem zh8 (hF:Flat1 T enc ok) {U N:Nat→Prop} {w:World}:∀{l:List α} {cs:List Value},zan T U N w l cs↔cs=(l.map enc).flatten∧∀x∈l,ok x
  | [],cs=>by simp[zan]
  | x::l,cs=>by
    constructor
    · rintro ⟨c1,c2,rfl,h1,h2⟩
      obtain⟨rfl,hx⟩:=(hF _ _ _ _ _).1 h1;obtain⟨rfl,hl⟩:=(zh8 hF).1 h2;refine⟨by simp,fun y hy=>?_⟩;rcases List.mem_cons.1 hy with e|hy
      · rw[e];exact hx
      exact hl y hy
    rintro ⟨rfl,hl⟩
    exact⟨enc x,(l.map enc).flatten,by simp,(hF _ _ _ _ _).2 ⟨rfl,hl x yw⟩,(zh8 hF).2 ⟨rfl,fun y hy=>hl y ybH⟩⟩
theorem zou {β:Type} {f:β→List Value} {k:Nat} (h0:0<k) (hk:∀x,(f x).length=k):∀(l:List β) (t:Nat),(l.map f).flatten[t]?=(l[t/k]?).bind fun x=>(f x)[t%k]?
  | [],t=>by simp
  | x::l,t=>by
    rw[List.map_cons,List.flatten_cons];by_cases c:t<k
    · rw[List.getElem?_append_left (by rw[hk];exact c),Nat.div_eq_of_lt c,Nat.mod_eq_of_lt c];rfl
    rw[List.getElem?_append_right (by rw[hk];omega),hk,zou h0 hk l (t-k)];have e1:t/k=(t-k)/k+1:=by
      rw[Nat.div_eq_sub_div h0 ya]
    have e2:t%k=(t-k)%k:=by rw[Nat.mod_eq_sub_mod ya]
    rw[e1,e2];rfl
theorem zhA {β:Type} [Inhabited β] {f:β→List Value} {k:Nat} (h0:0<k) (hk:∀x,(f x).length=k) (d:Array β):(Sort.flatK f k d).toList=(d.toList.map f).flatten:=by
  apply List.ext_getElem?;intro t;rw[zou h0 hk];by_cases c:t<d.size*k
  · have hd:t/k<d.size:=(Nat.div_lt_iff_lt_mul h0).2 c
    have h1:=Sort.get_flatK f k d t c;have hs:t<(Sort.flatK f k d).size:=by rw[Sort.size_flatK];exact c
    rw[getElem!_pos (Sort.flatK f k d) t hs,getElem!_pos d (t/k) hd] at h1;have hm:t%k<(f d[t/k]).length:=by rw[hk];exact Nat.mod_lt _ h0
    rw[getElem!_pos (f d[t/k]) (t%k) hm] at h1;rw[ub (by simpa using hs),ub (by simpa using hd)];simp only[Option.bind_some,Array.getElem_toList];rw[ub hm,h1]
  have hd:¬t/k<d.size:=fun h=>c ((Nat.div_lt_iff_lt_mul h0).1 h)
  rw[List.getElem?_eq_none yy,List.getElem?_eq_none yy];rfl
theorem zl3 {β:Type} [Inhabited β] {f:β→List Value} {k:Nat} (h0:0<k) (hk:∀x,(f x).length=k) {w:World} {g n:Nat} {d:Array β} {os:Array Obj} {cur:Array Value} {e:TypeId} (hg:w.heap[g]?=some (.cells cur e (0,0))) (hs:d.size*k≤cur.size) :
    (Proofs.sortWorldK f k w g 0 n d os).heap[g]?=some (.cells ((d.toList.map f).flatten++cur.toList.drop (d.size*k)).toArray e (0,0))∧
    BelowX (fun b=>b=g) w (Proofs.sortWorldK f k w g 0 n d os):=by
  have hlt:=(Array.getElem?_eq_some_iff.1 hg).1;have hsz:(Sort.ahead w n).heap.size=w.heap.size:=rfl;have hheap:(Proofs.sortWorldK f k w g 0 n d os).heap=w.heap.modify g (Sort.onCells (Sort.putCells id 0 (Sort.flatK f k d)))++os:=rfl;refine⟨?_,rfl,rfl,rfl,?_,fun b hb hne=>?_,Nat.le_add_right _ _⟩
  · rw[hheap,Array.getElem?_append_left yM,Array.getElem?_modify,ut rfl,hg]
    simp only[Option.map_some,Sort.onCells];congr 2;apply Array.ext';rw[List.toList_toArray];apply List.ext_getElem?;intro t;have hfl:=zhA h0 hk d;rw[←hfl];have hF:(Sort.flatK f k d).size=d.size*k:=Sort.size_flatK _ _ _;unfold Sort.putCells;rw[Array.getElem?_toList,Array.getElem?_mapIdx];by_cases c:t<d.size*k
    · rw[List.getElem?_append_left yb5,Array.getElem?_eq_getElem ya]
      have hs2:t<(Sort.flatK f k d).size:=ya;simp only[Option.map_some];rw[ut ⟨uf _,by omega⟩,Array.getElem?_toList,Array.getElem?_eq_getElem hs2,Nat.sub_zero,getElem!_pos (Sort.flatK f k d) t hs2];rfl
    rw[List.getElem?_append_right yy];simp only[Array.length_toList,hF,List.getElem?_drop];rw[show d.size*k+(t-d.size*k)=t by omega,Array.getElem?_toList];cases hc:cur[t]? with
    | none=>rfl
    | some v=>simp only[Option.map_some];rw[ur ya]
  · rw[hheap];simp
  rw[hheap,Array.getElem?_append_left (by simpa using hb),Array.getElem?_modify,ur (fun h=>hne h.symm)]
open Go.Shelf in
theorem sort_tells {P:Program} {ρ:Ren} (L:Proofs.SlLaysF0.n6 P ρ) (hF:Flat1 T enc ok) (hlen:∀x,ok x→(enc x).length=T.size) (hone:∀x,ok x→∀v∈enc x,v.oneCell'=true) (hag:T.agg=true) {x0:α} (hx0:ok x0)
    (ht:tyB P (ρ.t 24) T.size true=true) {cf:α→α→Int} (hirr:∀x,ok x→¬cf x x<0) (htr:∀x y z,ok x→ok y→ok z→cf x y<0→cf y z<0→cf x z<0) (hntr:∀x y z,ok x→ok y→ok z→¬cf x y<0→¬cf y z<0→¬cf x z<0)
    {g:FuncId} (hg:fnB P g=true) (hcmp:∀x y,Tells P g [.val T x,.val T y] (.val i64T (cf x y))) {e:TypeId} {l r:List α} (hn:l.length<1000000000)
    (hsort:∀r',r'.Perm l→r'.Pairwise (fun a b=>¬cf b a<0)→r'=r):zfl P (ρ.f 6) (.row e T l) [.own 0,.clo g []] (.lit (.tuple #[])) (.row e T r):=by
  intro ext p w vs hext hgr hrow hargs;obtain⟨hl2,hargs⟩:=hargs.spec
  match vs,hl2 with
  | [v0,v1],_ =>
  have hv0:v0=p:=hargs 0 _ _ rfl rfl;have hv1:v1 = .func (.func g) #[] #[]:=hargs 1 _ _ rfl rfl;subst hv0;subst hv1;obtain⟨xs,hown,hall⟩:=hrow;obtain⟨hxs,hok⟩:=(zh8 hF).1 hall;rcases hown.2 with ⟨hp,hl0⟩|⟨gb,cap,cur,hp,_,hheap,hncap,hcap,hcs,htk⟩
  · 
    obtain rfl:l=[]:=List.length_eq_zero_iff.1 hl0;have hr:r=[]:=(hsort [] (List.Perm.refl _) List.Pairwise.nil).symm;subst hr;subst hp
    have:=Proofs.AnyF.slices_SortFunc_none L none 0 (.func (.func g) #[] #[]) w
    refine this.mono ?_
    rintro _ w' ⟨rfl,rfl⟩
    exact⟨BelowX.refl _ _,⟨[],⟨by simp,.inl ⟨rfl,rfl⟩⟩,rfl⟩,rfl⟩
  subst hp
  let S:={ x:α // ok x }
  letI:Inhabited S:=⟨⟨x0,hx0⟩⟩
  let encS:S→List Value:=fun s=>enc s.1
  have hkS:∀s:S,(encS s).length=T.size:=fun s=>hlen s.1 s.2
  obtain⟨lS,hlS⟩:∃lS:List S,lS.map (·.1)=l:=⟨l.attachWith ok hok,List.attachWith_map_subtype_val hok⟩;have hsz:lS.length=l.length:=by rw[←hlS];simp
  have hmapS:∀q:List S,q.map encS=(q.map (·.1)).map enc:=fun q=>by rw[List.map_map];rfl
  have hlt:=(Array.getElem?_eq_some_iff.1 hheap).1;have hcsz:lS.length*T.size≤cur.size:=by rw[hcs,hsz];exact Nat.mul_le_mul_right _ hncap
  have hH:Sort.HoldsK encS T.size w gb 0 lS.toArray:=fun j hj=>by
    rw[Sort.size_flatK] at hj;have hj:j<lS.length*T.size:=by simpa using hj
    have hfl:=zhA T.pos hkS lS.toArray;rw[List.toList_toArray,hmapS,hlS,←hxs,←htk] at hfl;have hs2:j<(Sort.flatK encS T.size lS.toArray).size:=by rw[Sort.size_flatK];simpa using hj
    refine⟨?_,?_⟩
    · rw[Nat.zero_add,cell_of_row w gb j cur e (0,0) hheap,getElem!_pos (Sort.flatK encS T.size lS.toArray) j hs2]
      have h1:(Sort.flatK encS T.size lS.toArray).toList[j]?=(cur.toList.take (l.length*T.size))[j]?:=by rw[hfl]
      rw[List.getElem?_take,ut (by rw[←hsz];exact hj),Array.getElem?_toList,Array.getElem?_toList,Array.getElem?_eq_getElem hs2] at h1;rw[←h1];rfl
    unfold World.frozen?;simp[hheap]
  have hC:Proofs.CmpLays P g #[] encS T.size (fun x y=>cf x.1 y.1) gb 0 lS.toArray.size w:=fun m os dk hdk x y=>by
    generalize hW:Proofs.sortWorldK encS T.size w gb 0 m dk os=W;have hx:T.val (fun _=>False) noN W x.1 (.agg (encS x).toArray):=⟨encS x,(hF _ _ _ _ _).2 ⟨rfl,x.2⟩,.inl ⟨hag,rfl⟩⟩;have hy:T.val (fun _=>False) noN W y.1 (.agg (encS y).toArray):=⟨encS y,(hF _ _ _ _ _).2 ⟨rfl,y.2⟩,.inl ⟨hag,rfl⟩⟩
    have:=hcmp x.1 y.1 (fun _=>False) W [.agg (encS x).toArray,.agg (encS y).toArray] (fun b hb=>hb.elim) ⟨hx,hy,trivial⟩
    have e0:#[Value.agg (encS x).toArray,Value.agg (encS y).toArray] ++ #[]=[Value.agg (encS x).toArray,Value.agg (encS y).toArray].toArray:=yw;rw[e0];refine this.mono fun en w' he=>?_
    cases en with
    | returned v =>
      obtain⟨hb,hv⟩:=he;obtain⟨q,os',hw'⟩:=zri hb;exact⟨by rw[(zV.1 hv).1],q,os',hw'⟩
    | panicked c=>exact he.elim
    | outgrown=>exact he.elim
  have hO:Sort.SWO (Proofs.ltOf fun x y:S=>cf x.1 y.1):=by
    refine⟨fun x=>?_,fun x y z h1 h2=>?_,fun x y z h1 h2=>?_⟩
    · exact uh (hirr x.1 x.2)
    · exact ui (htr x.1 y.1 z.1 x.2 y.2 z.2 (of_decide_eq_true h1) (of_decide_eq_true h2))
    exact uh (hntr x.1 y.1 z.1 x.2 y.2 z.2 (of_decide_eq_false h1) (of_decide_eq_false h2))
  obtain⟨fn,h1,h2,h3⟩:=zb0 hg;have eg:∀args w,(callFunc g args).run P w = .ok (.enter g args) w:=fun args w=>by
    have hne : fn.name ≠ "runtime.NumGoroutine" := by simpa using h3
    have hbn:fn.body≠none:=ycx;simp[callFunc,h1,hne,hbn,Sem.run_bind]
  have key:=Proofs.AnyQ.slices_SortFunc L T.size (fun w=>(zgF ht w).2.1) (fun w=>(zgF ht w).2.2) encS hkS (fun s=>hone s.1 s.2) (fun x y=>cf x.1 y.1) hO g #[] gb 0 cap lS.toArray w eg hC hH hlt yy;rw[show lS.toArray.size=l.length by simpa using hsz] at key;refine Calls.mono key ?_
  rintro _ w' ⟨rfl,d',n,os,hperm,hsorted,rfl⟩
  have hdsz:d'.size=l.length:=by rw[hperm.1];simpa using hsz
  have hp2:d'.toList.Perm lS:=by
    have:=hperm.2.2
    have e1:d'.extract 0 l.length=d':=by rw[←hdsz];exact Array.extract_size
    have e2:lS.toArray.extract 0 l.length=lS.toArray:=by rw[←hsz];simp
    rw[e1,e2] at this;simpa using this
  have hr:d'.toList.map (·.1)=r:=by
    refine hsort _ ?_ ?_
    · rw[←hlS];exact hp2.map _
    rw[List.pairwise_map];rw[List.pairwise_iff_getElem];intro i j hi hj hij;have hi':i<d'.size:=ybG;have hj':j<d'.size:=by simpa using hj
    have:=hsorted i j (uf _) hij ya
    rw[getElem!_pos d' i hi',getElem!_pos d' j hj'] at this
    have:=of_decide_eq_false this
    simpa using this
  obtain⟨hb1,hb2⟩:=zl3 (n:=n) (os:=os) T.pos hkS hheap (d:=d') (by rw[hdsz,←hsz];exact hcsz);have hgN:gN (.slice (some ⟨gb,0,none⟩) l.length cap)=fun b=>b=gb:=by
    funext b;unfold gN zaV;exact propext ⟨fun h=>(Option.some.inj h).symm,fun h=>by rw[h]⟩
  have hrl:r.length=l.length:=by rw[←hr];simpa using hdsz
  have hflat:(d'.toList.map encS).flatten=(r.map enc).flatten:=by rw[hmapS,hr]
  have hfl2:((r.map enc).flatten).length=l.length*T.size:=by
    have:=Sort.size_flatK encS T.size d'
    rw[←hflat,←zhA T.pos hkS d'];rw[Array.length_toList,this,hdsz]
  have hokr:∀x∈r,ok x:=fun x hx=>by
    rw[←hr] at hx;obtain⟨s,_,rfl⟩:=List.mem_map.1 hx;exact s.2
  refine⟨by rw[hgN];exact hb2,⟨(r.map enc).flatten,⟨by rw[hfl2,hrl],.inr ⟨gb,cap,_,by rw[hrl],uf _,hb1,by rw[hrl];exact hncap,hcap,?_,?_⟩⟩,(zh8 hF).2 ⟨rfl,hokr⟩⟩,rfl⟩
  · rw[hflat];simp only[List.size_toArray,ue,List.length_drop,hfl2,Array.length_toList,hdsz,hcs]
    have:=Nat.mul_le_mul_right T.size hncap
    omega
  rw[hflat,List.toList_toArray,hrl,←hfl2,List.take_left' rfl]
end
end Go.Ab
namespace Go.Ab
open Go.RowKit
abbrev Light {H:Type} (P:Program) (t:TypeId) (d:DataW H):Prop:=(d.weights P t).all (·≤reachBytes)=true
def KT {α:Type} (_:α):Prop:=True
def KAll {α:Type} (bytes:Nat) (K:α→Prop) (l:List α):Prop:=l.length*bytes≤140737488351232∧∀x∈l,K x
def KP {α β:Type} (K:α→Prop) (K':β→Prop) (x:α×β):Prop:=K x.1∧K' x.2
structure Opens (P:Program) (t:TypeId) {α:Type} (T:GoT α) (K:α→Prop):Prop where
  rd:∀{H:Type} {enc:TypeId×Value→H} {W:World} {sp:Nat→Bool} {held:Bool} {fuel:Nat} {cs:List Value} {x:DataW H×List MemPlace},DataW.trod enc P W 0 sp held fuel t cs=some x→Light P t x.1→∃y,T.rel noN noN W y cs∧K y
section
variable {P:Program} {t e:TypeId} {α β:Type} {T:GoT α} {S:GoT β} {K:α→Prop} {K2:β→Prop}
theorem zmA {k:IntKind} {H:Type} {enc:TypeId×Value→H} {W:World} {sp:Nat→Bool} {held:Bool} {fuel:Nat} {cs:List Value} {x:DataW H×List MemPlace} (hu:P.underlying t=some (.int k)) (h:DataW.trod enc P W 0 sp held fuel t cs=some x) :
    ∃n,cs=[.int k n]∧IntKind.InR k n:=by
  cases fuel with
  | zero=>simp[DataW.trod] at h
  | succ f =>
    unfold DataW.trod at h;rw[hu] at h
    match cs,h with
    | [.int k' n],h =>
      simp only at h
      split at h
      · rename_i c
        obtain⟨rfl,hw⟩:=c;refine⟨n,rfl,?_⟩;simp only[Lit.wf,uk,uj] at hw;exact hw
      cases h
theorem op_int {k:IntKind} (hu:P.underlying t=some (.int k)):Opens P t (intT k) KT:=⟨fun h _=>by
  obtain⟨n,rfl,hn⟩:=zmA hu h;exact⟨n,⟨rfl,hn⟩,trivial⟩⟩
theorem op_u8 (hu:P.underlying t=some (.int .u8)):Opens P t u8T KT:=⟨fun h _=>by
  obtain⟨n,rfl,hn⟩:=zmA hu h;simp[IntKind.InR,IntKind.min,IntKind.max,IntKind.signed,IntKind.bits] at hn;refine⟨UInt8.ofNat n.toNat,⟨?_,trivial⟩,trivial⟩;show [Value.int .u8 n]=[Value.int .u8 ((UInt8.ofNat n.toNat).toNat:Nat)];rw[UInt8.toNat_ofNat_of_lt' (by show n.toNat<256;omega),Int.toNat_of_nonneg hn.1]⟩
theorem op_u32 (hu:P.underlying t=some (.int .u32)):Opens P t u32T KT:=⟨fun h _=>by
  obtain⟨n,rfl,hn⟩:=zmA hu h;simp[IntKind.InR,IntKind.min,IntKind.max,IntKind.signed,IntKind.bits] at hn;refine⟨UInt32.ofNat n.toNat,⟨?_,trivial⟩,trivial⟩;show [Value.int .u32 n]=[Value.int .u32 ((UInt32.ofNat n.toNat).toNat:Nat)];rw[UInt32.toNat_ofNat_of_lt' (by show n.toNat<4294967296;omega),Int.toNat_of_nonneg hn.1]⟩
theorem op_u64 (hu:P.underlying t=some (.int .u64)):Opens P t u64T KT:=⟨fun h _=>by
  obtain⟨n,rfl,hn⟩:=zmA hu h;simp[IntKind.InR,IntKind.min,IntKind.max,IntKind.signed,IntKind.bits] at hn;refine⟨UInt64.ofNat n.toNat,⟨?_,trivial⟩,trivial⟩;show [Value.int .u64 n]=[Value.int .u64 ((UInt64.ofNat n.toNat).toNat:Nat)];rw[UInt64.toNat_ofNat_of_lt' (by show n.toNat<18446744073709551616;omega),Int.toNat_of_nonneg hn.1]⟩
theorem zm4 {n:Nat} {g:Bool} (h:tyB P t n g=true):P.cellsOf t=n:=by
  obtain⟨i,h1,h2⟩:=(zgF h default).1;simp[Program.cellsOf,h1,h2]
theorem zq7 {γ δ:Type} {f:γ→Option δ}:∀{l:List γ} {r:List δ},l.mapM f=some r→∀x∈l,∃y∈r,f x=some y
  | [],_,_,x,hx=>by cases hx
  | z::l,r,h,x,hx=>by
    rw[List.mapM_cons] at h;cases hz:f z with
    | none=>rw[hz] at h;cases h
    | some y =>
      rw[hz] at h;cases hl:l.mapM f with
      | none=>simp[hl] at h
      | some r' =>
        simp[hl] at h;subst h;rcases List.mem_cons.1 hx with e|hx
        · rw[e];exact⟨y,by simp,hz⟩
        obtain⟨y',h1,h2⟩:=zq7 hl x hx;exact⟨y',by simp[h1],h2⟩
theorem zvG {γ δ:Type} {f:γ→Option δ}:∀{l:List γ} {r:List δ},l.mapM f=some r→r.length=l.length
  | [],r,h=>by simp at h;subst h;rfl
  | z::l,r,h=>by
    rw[List.mapM_cons] at h;cases hz:f z with
    | none=>rw[hz] at h;cases h
    | some y =>
      rw[hz] at h;cases hl:l.mapM f with
      | none=>simp[hl] at h
      | some r' =>
        simp[hl] at h;subst h;simp[zvG hl]
theorem zn7 {H:Type} {e:TypeId}:∀{ds:List (DataW H)},(DataW.weightsAll P e ds).all (·≤reachBytes)=true→∀d∈ds,Light P e d
  | [],_,d,hd=>by cases hd
  | c::ds,h,d,hd=>by
    unfold DataW.weightsAll at h;rw[List.all_append,uk] at h;rcases List.mem_cons.1 hd with e|hd
    · rw[e];exact h.1
    exact zn7 h.2 d hd
theorem zpL {H γ:Type} {ty:γ→TypeId} {f:γ→Option (DataW H×List MemPlace)}:∀{l:List γ} {r:List (DataW H×List MemPlace)},l.mapM f=some r→(DataW.weightsEach P (l.map ty) (r.map (·.1))).all (·≤reachBytes)=true→∀x∈l,∃z,f x=some z∧Light P (ty x) z.1
  | [],_,_,_,x,hx=>by cases hx
  | c::l,r,h,hw,x,hx=>by
    rw[List.mapM_cons] at h;cases hz:f c with
    | none=>rw[hz] at h;cases h
    | some y =>
      rw[hz] at h;cases hl:l.mapM f with
      | none=>simp[hl] at h
      | some r' =>
        simp[hl] at h;subst h;rw[List.map_cons,List.map_cons] at hw;unfold DataW.weightsEach at hw;rw[List.all_append,uk] at hw;rcases List.mem_cons.1 hx with e|hx
        · rw[e];exact⟨y,hz,hw.1⟩
        exact zpL hl hw.2 x hx
theorem zhZ {bytes:Nat} (hO:Opens P e T K) (hs:sliceB P t e T.size=true) (hby:P.bytesOf e=bytes):Opens P t (sl T) (KAll bytes K):=⟨fun {H enc W sp held fuel cs x} h hw=>by
  have hu:=(za8 hs W).1;have hcl:P.cellsOf e=T.size:=by
    obtain⟨i,h1,h2⟩:=(za8 hs W).2.2;simp[Program.cellsOf,h1,h2]
  cases fuel with
  | zero=>simp[DataW.trod] at h
  | succ f =>
    unfold DataW.trod at h;rw[hu] at h
    match cs,h with
    | [.slice none 0 0],_=>exact⟨[],⟨none,0,rfl,ug _,by unfold maxLen;omega,fun h=>absurd rfl h⟩,by simp,fun x hx=>by cases hx⟩
    | [.slice (some a) len cap],h =>
      simp only at h
      split at h
      · rename_i c
        cases hm:(List.range len).mapM (fun i=>(W.cells? 0 (a.add (i*P.cellsOf e)) (P.cellsOf e)).bind (DataW.trod enc P W 0 sp held f e)) with
        | none=>rw[hm] at h;cases h
        | some elems =>
          rw[hm] at h;obtain⟨rest,_,hx⟩:=Option.map_eq_some_iff.1 h;subst hx;have hw:((DataW.slice (elems.map (·.1)) (rest.map (·.1))).weights P t).all (·≤reachBytes)=true:=hw;unfold DataW.weights at hw;rw[hu] at hw;simp only[List.all_cons,List.all_append,uk,uj,List.length_map] at hw;obtain⟨hw1,hw2,_⟩:=hw;have hel:elems.length=len:=by rw[zvG hm,List.length_range]
          have hwl:len*bytes≤140737488351232:=by
            rw[hby,hel] at hw1
            have:len*bytes≤(len+rest.length)*bytes:=Nat.mul_le_mul_right _ ya
            have h0:reachBytes=140737488351232:=rfl;omega
          have hall:∀i,i<len→∃y ds,(T.rel noN noN W y ds∧K y)∧∀j v,ds[j]?=some v→W.cell? ((a.add (i*T.size)).add j)=some v:=fun i hi=>by
            obtain⟨z,hzm,hz⟩:=zq7 hm i ybG;obtain⟨ds,h1,h2⟩:=Option.bind_eq_some_iff.1 hz;obtain⟨y,hy,hk⟩:=hO.rd h2 (zn7 hw2 _ (List.mem_map_of_mem hzm));refine⟨y,ds,⟨hy,hk⟩,fun j v hj=>?_⟩;rw[hcl] at h1;unfold World.cells? at h1;rw[ut (uf _)] at h1;have hlen:=T.len hy;have hj':j<T.size:=by rw[←hlen];exact(ul.1 hj).1
            have key:∀{n:Nat} {r:List Value},(List.range n).mapM (fun i_1=>W.cell? ((a.add (i*T.size)).add i_1))=some r→∀j v,r[j]?=some v→W.cell? ((a.add (i*T.size)).add j)=some v:=by
              intro n
              induction n with
              | zero=>intro r hr j v hv;simp at hr;subst hr;simp at hv
              | succ n ih =>
                intro r hr j v hv;rw[List.range_succ,List.mapM_append] at hr;cases hr1:(List.range n).mapM (fun i_1=>W.cell? ((a.add (i*T.size)).add i_1)) with
                | none=>rw[hr1] at hr;cases hr
                | some r1 =>
                  rw[hr1] at hr;cases hc:W.cell? ((a.add (i*T.size)).add n) with
                  | none=>simp[hc] at hr
                  | some u =>
                    simp[hc] at hr;subst hr;have hl1:r1.length=n:=by
                      have:∀{l:List Nat} {r:List Value},l.mapM (fun i_1=>W.cell? ((a.add (i*T.size)).add i_1))=some r→r.length=l.length:=by
                        intro l
                        induction l with
                        | nil=>intro r hr;simp at hr;subst hr;rfl
                        | cons z l ih =>
                          intro r hr;rw[List.mapM_cons] at hr;cases hz:W.cell? ((a.add (i*T.size)).add z) with
                          | none=>simp[hz] at hr
                          | some y =>
                            cases hl:l.mapM (fun i_1=>W.cell? ((a.add (i*T.size)).add i_1)) with
                            | none=>simp[hz,hl] at hr
                            | some r'=>simp[hz,hl] at hr;subst hr;simp[ih hl]
                      simpa using this hr1
                    by_cases hjn:j<n
                    · rw[List.getElem?_append_left ya] at hv
                      exact ih hr1 j v hv
                    rw[List.getElem?_append_right ya] at hv
                    have:j=n:=by
                      have:=(ul.1 hv).1
                      simp at this;omega
                    subst this;simp[hl1] at hv;subst hv;exact hc
            exact key h1 j v hj
          have build:∀n,n≤len→∃l ds,l.length=n∧(zan T noN noN W l ds∧∀x∈l,K x)∧∀j v,ds[j]?=some v→W.cell? (a.add j)=some v:=by
            intro n
            induction n with
            | zero=>intro _;exact⟨[],[],rfl,⟨rfl,fun x hx=>by cases hx⟩,fun j v h=>by simp at h⟩
            | succ n ih =>
              intro hn;obtain⟨l,ds,h1,⟨h2,hkl⟩,h3⟩:=ih ya;obtain⟨y,ds',⟨h4,hky⟩,h5⟩:=hall n ya;refine⟨l++[y],ds++ds',by simp[h1],⟨h2.append ⟨ds',[],by simp,h4,rfl⟩,fun x hx=>?_⟩,fun j v hj=>?_⟩
              · rcases List.mem_append.1 hx with hx|hx
                · exact hkl x hx
                rw[List.mem_singleton.1 hx];exact hky
              have hdl:ds.length=n*T.size:=by rw[h2.len,h1]
              by_cases c:j<ds.length
              · rw[List.getElem?_append_left c] at hj;exact h3 j v hj
              rw[List.getElem?_append_right ya] at hj
              have:=h5 _ v hj
              rw[zbT] at this
              rwa [show n*T.size+(j-ds.length)=j by omega] at this
          obtain⟨l,ds,h1,⟨h2,hk⟩,h3⟩:=build len (ug _);exact⟨l,⟨some a,cap,by rw[h1],by rw[h1];exact c.2.1,c.2.2,fun _=>⟨a,ds,rfl,fun h=>h,h2,h3⟩⟩,by rw[h1];exact hwl,hk⟩
      cases h⟩
theorem op_arr {n:Nat} {hn:0<n} (hO:Opens P e T K) (ha:arrB P t n e T.size=true) (ht:tyB P t (n*T.size) true=true):Opens P t (arrT n hn T) KT:=⟨fun {H enc W sp held fuel cs x} h hw=>by
  obtain⟨hu,hsz⟩:=zdR ha W;have hcl:P.cellsOf e=T.size:=by
    unfold arrB at ha;rw[uk] at ha;have h2:(P.info? e).map (·.size)=some T.size:=by simpa using ha.2
    obtain⟨i,h1,h2⟩:=Option.map_eq_some_iff.1 h2;simp[Program.cellsOf,h1,h2]
  cases fuel with
  | zero=>simp[DataW.trod] at h
  | succ f =>
    unfold DataW.trod at h;rw[hu] at h;simp only at h
    split at h
    · rename_i hlen
      cases hm:(List.range n).mapM (fun i=>DataW.trod enc P W 0 sp held f e ((cs.drop (i*P.cellsOf e)).take (P.cellsOf e))) with
      | none=>rw[hm] at h;cases h
      | some xs =>
        rw[hm] at h;have hx:x=(DataW.agg (xs.map (·.1)),xs.flatMap (·.2)):=(Option.some.inj h).symm;subst hx;have hw:((DataW.agg (xs.map (·.1))).weights P t).all (·≤reachBytes)=true:=hw;unfold DataW.weights at hw;rw[hu] at hw;have hall:∀i,i<n→∃y,T.rel noN noN W y ((cs.drop (i*T.size)).take T.size):=fun i hi=>by
          obtain⟨z,hzm,hz⟩:=zq7 hm i ybG;rw[hcl] at hz;obtain⟨y,hy,_⟩:=hO.rd hz (zn7 hw _ (List.mem_map_of_mem hzm));exact⟨y,hy⟩
        have build:∀m,m≤n→∃l:List α,l.length=m∧(cs.take (m*T.size)).length=m*T.size∧zan T noN noN W l (cs.take (m*T.size)):=by
          intro m
          induction m with
          | zero=>intro _;exact⟨[],rfl,by simp,by simp[zan]⟩
          | succ m ih =>
            intro hm;obtain⟨l,h1,h2,h3⟩:=ih ya;obtain⟨y,hy⟩:=hall m ya;have e:cs.take ((m+1)*T.size)=cs.take (m*T.size)++(cs.drop (m*T.size)).take T.size:=by
              rw[Nat.add_mul,Nat.one_mul,List.take_add]
            refine⟨l++[y],by simp[h1],?_,?_⟩
            · rw[e,ue,h2,T.len hy,Nat.add_mul,Nat.one_mul]
            rw[e];exact h3.append ⟨_,[],by simp,hy,rfl⟩
        obtain⟨l,h1,h2,h3⟩:=build n (ug _);have hcs:cs.length=n*T.size:=by rw[hlen,zm4 ht]
        rw[uc ya] at h3;exact⟨l,⟨h1,h3⟩,trivial⟩
    cases h⟩
def OpF (P:Program) (s:TypeId) (k off:Nat) {α:Type} (T:GoT α) (K:α→Prop):Prop :=
  ∀{H:Type} {enc:TypeId×Value→H} {W:World} {sp:Nat→Bool} {held:Bool} {fuel:Nat} {cs:List Value} {fs:Array Field},P.underlying s=some (.struct fs)→
    (∀fd∈fs.toList,∃z,DataW.trod enc P W 0 sp held fuel fd.type ((cs.drop fd.offset).take (P.cellsOf fd.type))=some z∧Light P fd.type z.1)→(cs.drop off).length=T.size→∃y,T.rel noN noN W y (cs.drop off)∧K y
theorem zpW {s:TypeId} {k off:Nat} {ft:TypeId} (hf:fieldB P s k off ft=true) {H:Type} {enc:TypeId×Value→H} {W:World} {sp:Nat→Bool} {held:Bool} {fuel:Nat} {cs:List Value} {fs:Array Field} (hu:P.underlying s=some (.struct fs))
    (h:∀fd∈fs.toList,∃z,DataW.trod enc P W 0 sp held fuel fd.type ((cs.drop fd.offset).take (P.cellsOf fd.type))=some z∧Light P fd.type z.1):∃z,DataW.trod enc P W 0 sp held fuel ft ((cs.drop off).take (P.cellsOf ft))=some z∧Light P ft z.1:=by
  obtain⟨fs',fd,h1,h2,h3,h4⟩:=zia hf;obtain rfl:fs=fs':=by rw[hu] at h1;injection h1 with h1;injection h1
  have:=h fd (by
    obtain⟨hk,e⟩:=Array.getElem?_eq_some_iff.1 h2;rw[←e];simp)
  rw[h3,h4] at this;exact this
theorem zhY {s:TypeId} {k off:Nat} {ft:TypeId} {g:Bool} (hf:fieldB P s k off ft=true) (ht:tyB P ft T.size g=true) (hO:Opens P ft T K):OpF P s k off T K:=fun {H enc W sp held fuel cs fs} hu h hl=>by
  obtain⟨z,hz,hw⟩:=zpW hf hu h;rw[zm4 ht,uc ya] at hz;exact hO.rd hz hw
theorem zcM {s:TypeId} {k off off':Nat} {ft:TypeId} {g:Bool} (hf:fieldB P s k off ft=true) (ht:tyB P ft T.size g=true) (hO:Opens P ft T K) (e:off+T.size=off') (hr:OpF P s (k+1) off' S K2):OpF P s k off (zcs T S) (KP K K2):=fun {H enc W sp held fuel cs fs} hu h hl=>by
  subst e;obtain⟨z,hz,hw⟩:=zpW hf hu h;rw[zm4 ht] at hz;obtain⟨y,hy,hk⟩:=hO.rd hz hw;have hl:(cs.drop off).length=T.size+S.size:=hl;obtain⟨y',hy',hk'⟩:=hr hu h (by rw[List.length_drop] at hl ⊢;omega);refine⟨(y,y'),⟨(cs.drop off).take T.size,cs.drop (off+T.size),?_,hy,hy'⟩,hk,hk'⟩;rw[←List.drop_drop,List.take_append_drop]
theorem zgc {t:TypeId} {A:GoT α} {γ:Type} {g:γ→α} (f:α→γ) (hgf:∀x,g (f x)=x) (hs:(match P.underlying t with|some (.struct _)=>true|_=>false)=true) (ht:tyB P t A.size true=true) (hF:OpF P t 0 0 A K) {K':γ→Prop} (hK:∀y,K (g y)→K' y):Opens P t (viaT A g) K':=⟨fun {H enc W sp held fuel cs x} h hw=>by
  cases fuel with
  | zero=>simp[DataW.trod] at h
  | succ n =>
    cases hu:P.underlying t with
    | none=>rw[hu] at hs;cases hs
    | some d =>
      rw[hu] at hs;cases d<;>simp at hs;rename_i fs;unfold DataW.trod at h;rw[hu] at h;simp only at h
      split at h
      · rename_i hlen
        cases hm:fs.toList.mapM (fun f=>DataW.trod enc P W 0 sp held n f.type ((cs.drop f.offset).take (P.cellsOf f.type))) with
        | none=>rw[hm] at h;cases h
        | some xs =>
          rw[hm] at h;have hx:x=(DataW.agg (xs.map (·.1)),xs.flatMap (·.2)):=(Option.some.inj h).symm;subst hx;have hw:((DataW.agg (xs.map (·.1))).weights P t).all (·≤reachBytes)=true:=hw;unfold DataW.weights at hw;rw[hu] at hw;obtain⟨y,hy,hk⟩:=hF hu (zpL (ty:=fun fd:Field=>fd.type) hm hw) (by rw[List.drop_zero,hlen,zm4 ht]);rw[List.drop_zero] at hy;exact⟨f y,by show A.rel _ _ _ _ _;rw[hgf];exact hy,hK _ (by rw[hgf];exact hk)⟩
      cases h⟩
structure GT where
  {α:Type}
  T:GoT α
  K:α→Prop
def Shape:List GT→List AV→Prop
  | [],[]=>True
  | G::Gs,A::As=>(∃x,A = .val G.T x∧G.K x)∧Shape Gs As
  | _,_=>False
def zm9 (P:Program):List TypeId→List GT→Prop
  | [],[]=>True
  | t::ts,G::Gs=>Opens P t G.T G.K∧tyB P t G.T.size G.T.agg=true∧zm9 P ts Gs
  | _,_=>False
theorem open_val {W:World} {v:Value} {H:Type} {enc:TypeId×Value→H} {sp:Nat→Bool} {held:Bool} {d:DataW H} {ps:List MemPlace} {b0:Nat} (hO:Opens P t T K) (ht:tyB P t T.size T.agg=true) (hok:Value.okWide P W .any b0 t v) (h:DataW.Trod enc P W 0 sp held t v d ps) (hw:Light P t d) :
    ∃x,T.val noN noN W x v∧K x:=by
  obtain⟨fuel,hf⟩:=h;obtain⟨y,hy,hk⟩:=hO.rd hf hw;refine⟨y,?_,hk⟩;unfold tyB at ht;rw[uk] at ht;obtain⟨_,ht⟩:=ht;unfold Value.okWide at hok;cases hu:P.underlying t with
  | none=>rw[hu] at ht;cases ht
  | some de =>
    rw[hu] at ht hok;have hone:T.agg=false→(∀cs,v≠.agg cs)→(∀cs,v≠.tuple cs)→T.val noN noN W y v:=fun hg h1 h2=>by
      refine⟨_,hy,.inr ⟨hg,?_⟩⟩;cases v<;>first|rfl|(exact absurd rfl (h1 _))|(exact absurd rfl (h2 _))
    have hcell:(T.agg=false)→Cell.okWide P W .any b0 t v→T.val noN noN W y v:=fun hg hc=>by
      refine hone hg (fun cs e=>?_) (fun cs e=>?_)
      · subst e
        unfold Cell.okWide Cell.ok at hc;rw[hu] at hc;cases de<;>exact hc
      subst e;unfold Cell.okWide Cell.ok at hc;rw[hu] at hc;cases de<;>exact hc
    cases de<;>first
      | (have hg:T.agg=true:=ht
         obtain⟨cs,rfl,_,_⟩:=hok;exact⟨cs.toList,by simpa [Value.cells] using hy,.inl ⟨hg,rfl⟩⟩)
      | exact hcell (by simpa using ht) hok
theorem zvA {W:World} {H:Type} {enc:TypeId×Value→H} {sp:Nat→Bool} {held:Bool} {b0:Nat}:∀{ts:List TypeId} {Gs:List GT} {vs:List Value} {ds:List (DataW H)} {ps:List MemPlace},zm9 P ts Gs→DataW.TrodAll enc P W 0 sp held ts vs ds ps→
    (∀(j:Nat) t v,ts[j]?=some t→vs[j]?=some v→Value.okWide P W .any b0 t v)→(DataW.weightsEach P ts ds).all (·≤reachBytes)=true→∃As,Shape Gs As∧zca noN W As vs
  | [],[],[],[],_,_,_,_,_=>⟨[],trivial,trivial⟩
  | [],[],_::_,_,_,_,h,_,_=>h.elim
  | [],[],[],_::_,_,_,h,_,_=>h.elim
  | [],_::_,_,_,_,h,_,_,_=>h.elim
  | _::_,[],_,_,_,h,_,_,_=>h.elim
  | _::_,_::_,[],_,_,_,h,_,_=>h.elim
  | _::_,_::_,_::_,[],_,_,h,_,_=>h.elim
  | t::ts,G::Gs,v::vs,d::ds,ps,⟨h1,h2,h3⟩,⟨p,q,g1,g2,_⟩,hok,hw=>by
    unfold DataW.weightsEach at hw;rw[List.all_append,uk] at hw;obtain⟨x,hx,hk⟩:=open_val h1 h2 (hok 0 t v rfl rfl) g1 hw.1;obtain⟨As,hs,ha⟩:=zvA h3 g2 (fun j t' v' e1 e2=>hok (j+1) t' v' (by simpa using e1) (by simpa using e2)) hw.2;exact⟨.val G.T x::As,⟨⟨x,rfl,hk⟩,hs⟩,hx,ha⟩
end
end Go.Ab
namespace Go.Ab
open Go.RowKit
theorem zkj {H:Type} {enc:TypeId×Value→H} {P:Program} (hl:laidOutB P=true) {W W':World} (hb:Below W.heap.size W W'):∀{ts:List TypeId} {vs:List Value} {ds:List (DataW H)} {ps:List MemPlace},
    (∀t∈ts,P.readableRec t=true∧t<P.types.size)→DataW.TrodAll enc P W 0 (fun _=>true) true ts vs ds ps→(∀x∈ps,x.block<W.heap.size)→DataW.TrodAll enc P W' 0 (fun b=>decide (b<W.heap.size)) true ts vs ds ps
  | [],[],[],ps,_,h,_=>h
  | [],[],_::_,_,_,h,_=>h.elim
  | [],_::_,_,_,_,h,_=>h.elim
  | _::_,[],_,_,_,h,_=>h.elim
  | _::_,_::_,[],_,_,h,_=>h.elim
  | t::ts,v::vs,d::ds,ps,hr,⟨p,q,h1,h2,e⟩,hlt=>by
    subst e;exact⟨p,q,RowKit.Below.trod hl (hr t yw).1 (hr t yw).2 h1 hb.toBelow (fun x hx=>hlt x (List.mem_append_left _ hx)),zkj hl hb (fun t ht=>hr t (by simp[ht])) h2 (fun x hx=>hlt x (List.mem_append_right _ hx)),rfl⟩
theorem znp {H:Type} {enc:TypeId×Value→H} {P:Program} {w:World} {base:Nat} {spare:Nat→Bool} {held:Bool}:∀{ts:List TypeId} {vs:List Value} {ds:List (DataW H)} {ps:List MemPlace},DataW.TrodAll enc P w base spare held ts vs ds ps→ds.length=ts.length
  | [],[],[],_,_=>rfl
  | [],[],_::_,_,h=>h.elim
  | [],_::_,_,_,h=>h.elim
  | _::_,[],_,_,h=>h.elim
  | _::_,_::_,[],_,h=>h.elim
  | _::_,_::_,_::_,_,⟨_,_,_,h2,_⟩=>by simp[znp h2]
theorem zn6 {H:Type} {enc:TypeId×Value→H} {P:Program} {w:World} {base:Nat} {spare:Nat→Bool} {held:Bool} {us:List TypeId} {es:List (DataW H)}:∀{ts:List TypeId} {vs:List Value} {ds:List (DataW H)} {ps:List MemPlace},DataW.TrodAll enc P w base spare held ts vs ds ps→(DataW.weightsEach P (ts++us) (ds++es)).all (·≤reachBytes)=true→(DataW.weightsEach P ts ds).all (·≤reachBytes)=true
  | [],[],[],_,_,_=>by unfold DataW.weightsEach;rfl
  | [],[],_::_,_,h,_=>h.elim
  | [],_::_,_,_,h,_=>h.elim
  | _::_,[],_,_,h,_=>h.elim
  | _::_,_::_,[],_,h,_=>h.elim
  | _::_,_::_,_::_,_,⟨_,_,_,h2,_⟩,h=>by
    rw[List.cons_append,List.cons_append] at h;unfold DataW.weightsEach at h ⊢;rw[List.all_append,uk] at h ⊢;exact⟨h.1,zn6 h2 h.2⟩
theorem law_handed {C:Checked} {os:Os} {H:Type} {enc:TypeId×Value→H} {f:FuncId} {fn:Func} {s:ChangeSpec} {conds:List PathCond} {Gs:List GT} {rt:TypeId}
    (own:ownKnob C.prog.godebug=none) (started:os.Started) (noInit:C.prog.inits.idxOf? f=none) (hfn:C.prog.funcs[f]?=some fn)
    (witness:∃(w:World) (tape:Tape) (i:Input),w.os=os∧(w.forCall tape i).Shaped C.prog∧i.vars=[]∧Input.okWide C.prog (w.forCall tape i) .any w.heap.size f i∧
      s.pre6 enc C.prog fn conds false (w.forCall tape i).memory i.args∧({}:Assume).holds C.prog (lone (Frame.enter C.prog f i.args .normal) [] (w.forCall tape i)))
    (hvars:s.vars=[]) (hl:laidOutB C.prog=true) (hr:∀t∈fn.params.toList,C.prog.readableRec t=true∧t<C.prog.types.size) (hO:zm9 C.prog fn.params.toList Gs)
    (hres:fn.resultTypes = #[rt]) (hrt:C.prog.underlying rt=some .bool) (hspec:∀ds:List (DataW H),ds.length=fn.params.toList.length→s.fn H ds = { results:=[.lit (.bool true)],args:=ds })
    (hlaw:∀As,Shape Gs As→Tells C.prog f As (.val zs true)) :
    ReturnsInHanded {} C os f .any (s.pre6 enc C.prog fn conds false) (s.post enc C.prog fn false true false false):=by
  refine returnsInHanded_of_calls own started noInit witness ?_;intro w0 tape i _ _ _ hok hpre hholds;obtain⟨_,_,_,fn',hfn',_,_,_,_,hval⟩:=hok;have e:fn'=fn:=Option.some.inj (hfn'.symm.trans hfn);subst e;obtain⟨⟨ds,gs,before,hw,hc⟩,hz⟩:=hpre;have hwt:=hz.weights hw;have hw':=DataW.Whole.of_heap (w':=w0.forCall tape i) (by rfl) hw
  suffices main : ∀ (W : World) (base : Nat) (args : Array Value) (ds gs : List (DataW H)) (before : List MemPlace),
      (∀(j:Nat) t v,fn'.params[j]?=some t→args[j]?=some v→Value.okWide C.prog W .any base t v)→
      DataW.Whole enc C.prog fn'.params.toList s.vars false W args.toList ds gs before→(DataW.weightsEach C.prog (fn'.params.toList++s.plain.varTypes C.prog) (ds++gs)).all (·≤reachBytes)=true→
      Calls C.prog f args W fun e W'=>∃v,e = .returned v∧s.post enc C.prog fn' false true false false W args v W' by
    refine(main (w0.forCall tape i) w0.heap.size i.args ds gs before hval hw' hwt).mono fun e W' ⟨v,he,hp⟩=>?_
    subst he;exact ChangeSpec.post_blind hp
  clear hwt hw' hc hw hval hholds;intro W base args ds gs before hval hW hwt;have hW':=hW;obtain⟨p,q,hA,hV,rfl,hfz,hnd⟩:=hW;obtain⟨rfl,rfl⟩:gs=[]∧q=[]:=by
    rw[hvars] at hV
    match gs,hV with
    | [],hV=>exact⟨rfl,hV⟩
  obtain⟨As,hS,hrel⟩:=zvA hO hA (fun j t v e1 e2=>hval j t v (by simpa using e1) (by simpa using e2)) (zn6 hA hwt);have hc:=hlaw As hS noN W args.toList (fun b h=>h.elim) hrel;have hlen:=znp hA;have hsp:=hspec ds hlen;rw[show args.toList.toArray=args by simp] at hc;refine hc.mono fun e w' he=>?_
  cases e with
  | returned v =>
    obtain⟨hb,hv⟩:=he;obtain rfl:v = .bool true:=zbs.1 hv;have hlt:∀x∈p,x.block<W.heap.size:=fun x hx=>hW'.lt x (List.mem_append_left _ hx)
    refine⟨_,rfl,ds,[],p++[],[],p,[],hW',?_,?_,?_,?_,fun h=>by cases h⟩
    · rw[List.append_nil,hsp,hres]
      exact⟨[],[],shut_bool hrt true,rfl,rfl⟩
    · rw[List.append_nil,hsp]
      exact zkj hl hb hr hA hlt
    · rw[List.append_nil,hsp,hvars];rfl
    exact hb.toBelow.frame _
  | panicked c=>exact he.elim
  | outgrown=>exact he.elim
end Go.Ab
namespace Go.Ab
open Go.RowKit
def nilT:GoT Unit:=scT (fun _=>.slice none 0 0) (fun _=>True) (fun _=>rfl)
theorem zkf:Zero nilT () [.slice none 0 0]:=fun _ _ _=>⟨rfl,trivial⟩
section
variable {J:Job} {nx:Nat} {fr:Fr} {hp:Hp} {k:List It} {α β γ:Type} {A:GoT α} {T:GoT β} {R:GoT γ}
theorem SimR.nilpart {ρ:Nat→Value} {a:Act} {w:World} (s:SimR J nx ρ fr hp a w) (e:Nat) (T:GoT β) {n:Nat} {y:HE} {xs:List AV} {ty:Nat} (hn:hp n=y) (hy:y.live) (hu:∀x∈xs,x.under nx)
    (hrel:∀{ρ':Nat→Value} {B U N:Nat→Prop} {p:Value},ρ' nx = .slice none 0 0→y.rel ρ' B U N w p→HE.rel ρ' B U N w (.parts ty (xs++[.own nx])) p) :
    SimR J (nx+1) (ren ρ nx (.slice none 0 0)) fr ((hp.set nx (.row e T [])).set n (.parts ty (xs++[.own nx]))) a w:=by
  have hne:n≠nx:=fun e=>by
    have:=s.hnx n ya
    rw[hn] at this;rw[this] at hy;exact hy
  have s2:=s.bind (p:=.slice none 0 0) (x:=.row e T []) (Below.refl _ _) (fun b hb=>by cases hb) fun kp=>⟨[],World.ownsRow_nil w 0 e T.size,rfl⟩
  have hn2:(hp.set nx (.row e T [])) n=y:=by rw[zk,ur hne];exact hn
  have h0:=s2.hrel n;rw[hn2] at h0;have hrn:(ren ρ nx (Value.slice none 0 0)) nx = .slice none 0 0:=by unfold ren;simp
  refine s2.modify hn2 hy trivial rfl rfl rfl rfl (fun _ _=>rfl) (fun kp=>?_) (ug _) (fun x hx=>?_)
  · have h1:=hrel (B:=J.B) hrn h0
    refine HE.rel_mono (nx:=nx+1) kp (fun x hx=>?_) (fun _ _ _=>rfl) h1;rcases List.mem_append.1 hx with hx|hx
    · exact AV.under_mono (Nat.le_succ nx) (hu x hx)
    rw[List.mem_singleton.1 hx];exact Nat.lt_succ_self nx
  rcases List.mem_append.1 hx with hx|hx
  · exact AV.under_mono (Nat.le_succ nx) (hu x hx)
  rw[List.mem_singleton.1 hx];exact Nat.lt_succ_self nx
theorem aw_nilbox (n:Nat) {ty:Nat} (e:Nat) (T:GoT β) (hn:hp n = .box ty nilT ()) (H:AW J (nx+1) fr ((hp.set nx (.row e T [])).set n (.parts ty [.own nx])) k):AW J nx fr hp k:=fun a w ⟨ρ,s⟩=>by
  refine H a w ⟨_,s.nilpart e T (xs:=[]) hn trivial (fun x hx=>by cases hx) fun hr h=>?_⟩;obtain⟨g,cs,e1,e2,e3⟩:=h;obtain⟨e3,_⟩:=e3;subst e3;refine⟨g,[.slice none 0 0],e1,by simpa [Value.cells] using e2,_,[],rfl,hr.symm,rfl,fun u hu=>?_,rfl⟩;simp[Value.cells] at hu;rw[hu];rfl
theorem aw_unguard {ops:Array Oper} {rest:List Oper} {o oj:Oper} {j t:Nat} {want c:Bool} (hg:o.guard=some (j,want)) (hj:ops[j]?=some oj) (hd:oj.dst=some t) (hv:fr t = .val zs c) (hc:c=want) (hlt:Nat.blt t J.nt=true)
    (H:AW J nx fr hp (.ops ops ({ o with guard:=none }::rest)::k)):AW J nx fr hp (.ops ops (o::rest)::k):=fun a w ⟨ρ,s⟩=>by
  have h:=H a w ⟨ρ,s⟩;have hw:Region.wanted o (yielded ops a.tmps)=true:=by
    refine zd2 s (b:=true) ?_ (fun c' j' t' oj' e h1 h2=>?_)
    · unfold zdj
      rw[hg];exact⟨oj,t,hj,hd,.inl ⟨c,hv,by rw[hc];simp⟩⟩
    rw[hg] at e;injection e with e;injection e with e1 e2;subst e1;rw[hj] at h1;injection h1 with h1;subst h1;rw[hd] at h2;injection h2 with h2;subst h2;simpa using hlt
  show wpListIn J.F 0 J.P ops (Kont J k) (o::rest) a w;have h:wpListIn J.F 0 J.P ops (Kont J k) ({ o with guard:=none }::rest) a w:=h;unfold wpListIn at h ⊢;rw[ut hw];rw[ut (by simp[Region.wanted])] at h;exact h
end
end Go.Ab
namespace Go.Ab
open Go.RowKit
def setL:Nat→List Int→List MapEntry
  | _,[]=>[]
  | n,k::ks=>{ key:=.int .i64 k,val:=.agg #[],born:=n }::setL (n+1) ks
def setO (ks:List Int):Obj:=.map (setL 0 ks).toArray ks.length
def zdA (ks:List Int) (k:Int):List Int:=if k∈ks then ks else ks++[k]
def itO (b n:Nat) (seen:List Nat):Obj:=.mapIter (some b) n seen.toArray n
theorem znz (k:Int):∀(ks:List Int) (n:Nat),setL n (ks++[k])=setL n ks++[{ key:=.int .i64 k,val:=.agg #[],born:=n+ks.length }]
  | [],n=>by simp[setL]
  | x::ks,n=>by simp[setL,znz k ks (n+1)];omega
theorem zhQ:∀(ks:List Int) (n i:Nat),(setL n ks)[i]?=ks[i]?.map fun k=>{ key:=.int .i64 k,val:=.agg #[],born:=n+i }
  | [],_,_=>by simp[setL]
  | x::ks,n,0=>by simp[setL]
  | x::ks,n,i+1=>by simp only[setL,List.getElem?_cons_succ,zhQ ks];congr 1;funext k;congr 1;omega
theorem zqC {ks:List Int} {n:Nat} {e:MapEntry} (h:e∈setL n ks):∃i k,ks[i]?=some k∧e = { key:=.int .i64 k,val:=.agg #[],born:=n+i }:=by
  obtain⟨i,hi⟩:=List.getElem?_of_mem h;rw[zhQ] at hi;obtain⟨k,hk,e⟩:=Option.map_eq_some_iff.1 hi;exact⟨i,k,hk,e.symm⟩
theorem setL_born (ks:List Int) (n:Nat):(setL n ks).map (·.born)=List.range' n ks.length:=by
  induction ks generalizing n with
  | nil=>rfl
  | cons k ks ih=>simp[setL,ih,List.range'_succ]
theorem setL_nodup (ks:List Int) (n:Nat):((setL n ks).map (·.born)).Nodup:=by rw[setL_born];exact List.nodup_range'
theorem zsj {ks:List Int} {k:Int} (h:ks.Nodup):(zdA ks k).Nodup:=by
  unfold zdA
  split
  · exact h
  rename_i c;exact List.nodup_append.2 ⟨h,by simp,fun a ha b hb=>by simp at hb;subst hb;exact fun e=>c (e▸ha)⟩
theorem mem_setAdd {ks:List Int} {k x:Int}:x∈zdA ks k↔x∈ks∨x=k:=by
  unfold zdA
  split
  · rename_i c;exact⟨.inl,fun h=>h.elim id fun e=>e▸c⟩
  simp
section
variable {J:Job} {nx:Nat} {ρ:Nat→Value} {fr:Fr} {hp:Hp} {a:Act} {w w':World} {k:List It} {ops:Array Oper} {rest:List Oper} {o:Oper}
theorem aw_mkmap {t d:Nat} (ho:o.op = .makeMap t none) (hd:o.dst=some d) (hg:o.guard=none) (hlt:Nat.blt d J.nt=true)
    (H:∀b,AW J (nx+1) (fr.set d (.lit (.map (some b)))) (hp.set nx (.objAt b (setO []))) (.ops ops rest::k)):AW J nx fr hp (.ops ops (o::rest)::k):=by
  intro a w ⟨ρ,s⟩;refine z6 hg yt fun K hK=>?_
  have hrun:(execOp a.eval o).run J.P w = .ok (.value (.map (some w.heap.size))) (w.alloc (.map #[] 0)):=by
    unfold execOp;rw[ho];simp[Instr.makeMap,Sem.run_bind,newObj,Sem.run]
  unfold Oper.wp;rw[hrun,Oper.upon_value,hd]
  exact hK _ _ (H w.heap.size _ _ ⟨_,(s.bind (p:=.pointer (some ⟨w.heap.size,0,none⟩)) (x:=.objAt w.heap.size (setO [])) (zby _ _) (fun b e=>by simp only[zaV,Option.some.injEq] at e;subst e;exact⟨ug _,by simp⟩)
    (fun _=>⟨rfl,heap_alloc_new w _⟩) trivial).put yM rfl trivial⟩)
theorem isKey_setL {ks:List Int} {n:Nat}:∀x∈setL n ks,MapKept.IsKey (.int .i64) x.key:=fun x hx=>by
  obtain⟨i,k,_,rfl⟩:=zqC hx;rfl
theorem aw_mapput {t kt e n b:Nat} {m x y:Operand} {ks:List Int} {v:Int} (ho:o.op = .mapUpdate t m x y) (hd:o.dst=none) (hg:o.guard=none) (hm:fr.ev m = .lit (.map (some b))) (hx:fr.ev x = .val i64T v) (hy:fr.ev y = .lit (.agg #[]))
    (hn:hp n = .objAt b (setO ks)) (ht:J.P.underlying t=some (.map kt e)) (hk:J.P.underlying kt=some (.int .i64))
    (H:AW J nx fr (hp.set n (.objAt b (setO (zdA ks v)))) (.ops ops rest::k)):AW J nx fr hp (.ops ops (o::rest)::k):=by
  intro a w ⟨ρ,s⟩;refine z6 hg yt fun K hK=>?_
  have hm:a.eval m = .map (some b):=by have:=zao s m;rw[hm] at this;exact this
  have hy:a.eval y = .agg #[]:=by have:=zao s y;rw[hy] at this;exact this
  have hx:a.eval x = .int .i64 v:=by have:=zao s x;rw[hx] at this;exact(zV.1 this).1
  have hb:=s.getObj hn;have hkey:MapKept.IsKey (.int .i64) (.int .i64 v):=rfl;have hrun:(execOp a.eval o).run J.P w = .ok .skip (w.putObj b (setO (zdA ks v))):=by
    unfold execOp;rw[ho];simp only[Instr.mapUpdate,hm,hy,hx,Sem.run_bind,run_underlying ht,Result.andThen_ok,MapKept.run_getObj_map hb,MapKept.run_checkKey hk hkey];rcases MapKept.findNow_spec hkey (setL 0 ks) 0 isKey_setL with ⟨h1,h2⟩|⟨j,en,h1,h2,h3⟩
    · have hno : v ∉ ks := fun hv => by
        obtain⟨i,hi⟩:=List.getElem?_of_mem hv
        have:=zhQ ks 0 i
        rw[hi] at this;exact h2 _ (ud this) rfl
      rw[MapKept.run_findKey hk h1];simp only[Result.andThen_ok,MapKept.run_setObj_map _ hb]
      have:setO (zdA ks v) = .map ((setL 0 ks).toArray.push { key:=.int .i64 v,val:=.agg #[],born:=ks.length }) (ks.length+1):=by
        unfold setO zdA;rw[ur hno,znz];simp
      rw[this];rfl
    rw[MapKept.run_findKey hk h1];have hyes:v∈ks:=by
      rw[zhQ] at h2;obtain⟨k',hk',e'⟩:=Option.map_eq_some_iff.1 h2;rw[←e'] at h3;injection h3 with _ h3;exact h3▸ud hk'
    have hsame:setO (zdA ks v)=setO ks:=by unfold zdA;rw[ut hyes]
    have hej:(setL 0 ks).toArray[0+j]?=some en:=by simpa using h2
    have hen:en.val = .agg #[]:=by
      rw[zhQ] at h2;obtain⟨k',hk',e'⟩:=Option.map_eq_some_iff.1 h2;rw[←e']
    have hmod:((setL 0 ks).toArray.modify (0+j) fun e=>{ e with key:=.int .i64 v,val:=.agg #[] })=(setL 0 ks).toArray:=by
      apply Array.ext';rw[Array.toList_modify];simp only[Nat.zero_add];apply List.ext_getElem?;intro i;rw[List.getElem?_modify];by_cases c:j=i
      · subst c
        rw[h2];simp only[if_true,←h3,←hen];rfl
      simp[c]
    simp only[Result.andThen_ok,hej,Option.map_some,Option.getD_some,h3,MapKept.run_keyThatStays hkey,Sem.run_bind,MapKept.run_setObj_map _ hb,hmod,hsame];rfl
  unfold Oper.wp;rw[hrun,Oper.upon_skip,hd];exact hK _ _ (H _ _ ⟨_,(s.putObj hn).2⟩)
theorem zuE {t kt e n b d:Nat} {m:Operand} {ks:List Int} (ho:o.op = .range t m) (hd:o.dst=some d) (hg:o.guard=none) (hlt:Nat.blt d J.nt=true) (hm:fr.ev m = .lit (.map (some b)))
    (hn:hp n = .objAt b (setO ks)) (ht:J.P.underlying t=some (.map kt e))
    (H:∀r,AW J (nx+1) (fr.set d (.ptr nx 0)) (hp.set nx (.objAt r (itO b ks.length []))) (.ops ops rest::k)):AW J nx fr hp (.ops ops (o::rest)::k):=by
  intro a w ⟨ρ,s⟩;refine z6 hg yt fun K hK=>?_
  have hm:a.eval m = .map (some b):=by have:=zao s m;rw[hm] at this;exact this
  have hb:=s.getObj hn;have hrun:(execOp a.eval o).run J.P w = .ok (.value (.pointer (some ⟨w.heap.size,0,none⟩))) (w.alloc (itO b ks.length [])):=by
    unfold execOp;rw[ho];simp only[hm]
    have:=run_range_map (P:=J.P) w t kt e b _ _ ht hb
    simp only[Sem.run_bind,this];rfl
  unfold Oper.wp;rw[hrun,Oper.upon_value,hd]
  exact hK _ _ (H w.heap.size _ _ ⟨_,(s.bind (p:=.pointer (some ⟨w.heap.size,0,none⟩)) (x:=.objAt w.heap.size (itO b ks.length [])) (zby _ _) (fun b e=>by simp only[zaV,Option.some.injEq] at e;subst e;exact⟨ug _,by simp⟩)
    (fun _=>⟨rfl,heap_alloc_new w _⟩) trivial).put yM ⟨w.heap.size,by unfold ren;simp,rfl⟩ (Nat.lt_succ_self nx)⟩)
theorem zpM {ks:List Int} {seen:List Nat} {e:MapEntry}:e∈(leftOf (setL 0 ks).toArray seen.toArray).toList↔∃i k,ks[i]?=some k∧i∉seen∧e = { key:=.int .i64 k,val:=.agg #[],born:=i }:=by
  unfold leftOf;simp only[Array.toList_filter,List.mem_filter]
  constructor
  · rintro ⟨h1,h2⟩
    obtain⟨i,k,hk,rfl⟩:=zqC h1;refine⟨i,k,hk,?_,by simp⟩;simpa using h2
  rintro ⟨i,k,hk,hi,rfl⟩
  refine⟨ud (i:=i) ?_,by simpa using hi⟩;simp only[zhQ,hk,Option.map_some,Nat.zero_add]
theorem aw_nextmap {n1 n2 b r d:Nat} {it:Operand} {ks:List Int} {seen:List Nat} (ho:o.op = .next it false) (hd:o.dst=some d) (hg:o.guard=none) (hlt:Nat.blt d J.nt=true) (hi:fr.ev it = .ptr n2 0)
    (hk:∀k∈ks,-9223372036854775808≤k∧k≤9223372036854775807) (hn:hp n1 = .objAt b (setO ks)) (hn2:hp n2 = .objAt r (itO b ks.length seen))
    (H1:(∀i,i<ks.length→i∈seen)→AW J nx (fr.set d (.lit (.tuple #[.bool false]))) hp (.ops ops rest::k))
    (H2:∀i v,ks[i]?=some v→i∉seen→AW J nx (fr.set d (.tup3 (.val zs true) (.val i64T v) (.lit (.agg #[])))) (hp.set n2 (.objAt r (itO b ks.length (seen++[i])))) (.ops ops rest::k)):AW J nx fr hp (.ops ops (o::rest)::k):=by
  intro a w ⟨ρ,s⟩;refine z6 hg yt fun K hK=>?_
  have hlt:d<J.nt:=yM;have hb:=s.getObj hn;have hr:=s.getObj hn2;have hit:a.eval it = .pointer (some ⟨r,0,none⟩):=by
    have h:=zao s it;rw[hi] at h;obtain⟨g,e1,e2⟩:=h;have h2:=s.hrel n2;rw[hn2] at h2;obtain⟨e3,_⟩:=h2;rw[e1] at e3;injection e3 with e3;injection e3 with e3;injection e3 with e3;subst e3;rw[e2];rfl
  have hh:=run_next_at (P:=J.P) w o.type r b ks.length ks.length seen.toArray (setL 0 ks).toArray ks.length hr hb (fun x hx=>by
    obtain⟨i,v,hv,rfl⟩:=zqC (by simpa using hx:x∈setL 0 ks)
    have:=(ul.1 hv).1
    show 0+i<_;omega) (ug _)
  rcases hh with ⟨h0,hrun⟩|⟨e,he,w1,hw1,hrun⟩
  · have hex : (execOp a.eval o).run J.P w = .ok (.value (.tuple #[.bool false])) w := by
      unfold execOp;rw[ho];simp only[hit,Sem.run_bind,hrun];rfl
    unfold Oper.wp;rw[hex,Oper.upon_value,hd];refine hK _ _ (H1 ?_ _ _ ⟨_,s.put hlt rfl trivial⟩);intro i hi';apply Classical.byContradiction;intro hc
    have:({ key:=.int .i64 ks[i],val:=.agg #[],born:=i }:MapEntry)∈(leftOf (setL 0 ks).toArray seen.toArray).toList:=zpM.2 ⟨i,ks[i],ub hi',hc,rfl⟩
    have hz:(leftOf (setL 0 ks).toArray seen.toArray).toList=[]:=by
      apply List.eq_nil_of_length_eq_zero;simpa using h0
    rw[hz] at this;cases this
  obtain⟨i,v,hv,his,rfl⟩:=zpM.1 he;have hex:(execOp a.eval o).run J.P w = .ok (.value (.tuple #[.bool true,.int .i64 v,.agg #[]])) (w1.putObj r (itO b ks.length (seen++[i]))):=by
    unfold execOp;rw[ho];simp only[hit,Sem.run_bind,hrun];simp[ChangeMaps.setBlock,World.putObj,itO]
  unfold Oper.wp;rw[hex,Oper.upon_value,hd];have h2:=s.hrel n2;rw[hn2] at h2;obtain⟨e3,_⟩:=h2;have hw:w1.heap=w.heap∧w1.os=w.os∧w1.tape=w.tape∧w1.output=w.output∧w.drawn≤w1.drawn:=by
    rcases hw1 with rfl|rfl
    · exact⟨rfl,rfl,rfl,rfl,ug _⟩
    exact⟨rfl,rfl,rfl,rfl,Nat.le_succ _⟩
  obtain⟨g1,g2,g3,g4,g5⟩:=hw
  have s2:SimR J nx ρ fr (hp.set n2 (.objAt r (itO b ks.length (seen++[i])))) a (w1.putObj r (itO b ks.length (seen++[i]))) :=
    s.modify hn2 trivial trivial (by simp[g1]) g2 g3 g4 (fun c hc=>(World.putObj_heap_other (fun e'=>hc (by rw[e3,e'];rfl))).trans (by rw[g1])) (fun _=>⟨e3,World.putObj_heap_same (by rw[g1];exact(Array.getElem?_eq_some_iff.1 hr).1)⟩) g5
  have hx:(AV.tup3 (.val zs true) (.val i64T v) (.lit (.agg #[]))).rel ρ J.B (Uu J ρ (hp.set n2 (.objAt r (itO b ks.length (seen++[i]))))) (Nn ρ (hp.set n2 (.objAt r (itO b ks.length (seen++[i]))))) (w1.putObj r (itO b ks.length (seen++[i]))) (.tuple #[.bool true,.int .i64 v,.agg #[]]) :=
    ⟨_,_,_,rfl,zbs.2 rfl,zV.2 ⟨rfl,zdB.2 (hk v (ud hv))⟩,rfl⟩
  exact hK _ _ (H2 i v hv his _ _ ⟨ρ,s2.put hlt hx ⟨trivial,trivial,trivial⟩⟩)
theorem g_x1f {x:Operand} {b:Bool} (ho:o.op = .extract x 0) (hx:fr.ev x = .lit (.tuple #[.bool b])):OpG J o fr hp (.val zs b):=by
  refine .of_run (fun s hr _=>?_) (fun _ _=>trivial);have h:=hr x yl;rw[hx] at h;have h:_=Value.tuple #[.bool b]:=h;unfold execOp;rw[ho];exact⟨.bool b,by simp[h,Instr.extract],zbs.2 rfl⟩
theorem zv0 {t:TypeId} (ho:o.op = .build t #[]) (hz:(J.P.info? t).bind (·.zero)=some (.agg #[])) (hu:J.P.underlying t=some (.struct #[])):OpG J o fr hp (.lit (.agg #[])):=by
  refine .of_run (fun {_ ρ a w} s hr _=>?_) (fun _ _=>trivial);obtain⟨i,h3,h4⟩:=Option.bind_eq_some_iff.1 hz;refine⟨.agg #[],?_,rfl⟩;unfold execOp;rw[ho];simp[Instr.build,zeroValue,typeInfo,Sem.run_bind,h3,h4,run_underlying hu,Instr.fill,Value.cells]
theorem aw_entry {n1 n2 b r d i:Nat} {it:Operand} {ks:List Int} {seen:List Nat} {v:Int} (ho:o.op = .entry it) (hd:o.dst=some d) (hg:o.guard=none) (hlt:Nat.blt d J.nt=true) (hi:fr.ev it = .ptr n2 0)
    (hn:hp n1 = .objAt b (setO ks)) (hn2:hp n2 = .objAt r (itO b ks.length (seen++[i]))) (hv:ks[i]?=some v) (hk:∀k∈ks,-9223372036854775808≤k∧k≤9223372036854775807)
    (H:AW J nx (fr.set d (.tup2 (.val i64T v) (.lit (.agg #[])))) hp (.ops ops rest::k)):AW J nx fr hp (.ops ops (o::rest)::k):=by
  intro a w ⟨ρ,s⟩;refine z6 hg yt fun K hK=>?_
  have hlt:d<J.nt:=yM;have hb:=s.getObj hn;have hr:=s.getObj hn2;have hit:a.eval it = .pointer (some ⟨r,0,none⟩):=by
    have h:=zao s it;rw[hi] at h;obtain⟨g,e1,e2⟩:=h;have h2:=s.hrel n2;rw[hn2] at h2;obtain⟨e3,_⟩:=h2;rw[e1] at e3;injection e3 with e3;injection e3 with e3;injection e3 with e3;subst e3;rw[e2];rfl
  have hr':w.heap[r]?=some (.mapIter (some b) ks.length (seen.toArray.push i) ks.length):=by rw[hr];unfold itO;simp
  have hrun:=run_entry_at (P:=J.P) w r b ks.length seen.toArray (setL 0 ks).toArray ks.length { key:=.int .i64 v,val:=.agg #[],born:=i } hr' hb (by
    have:=zhQ ks 0 i
    rw[hv] at this;simpa using ud this) (setL_nodup ks 0)
  have hex:(execOp a.eval o).run J.P w = .ok (.value (.tuple #[.int .i64 v,.agg #[]])) w:=by
    unfold execOp;rw[ho];simp only[hit,Sem.run_bind,hrun];rfl
  unfold Oper.wp;rw[hex,Oper.upon_value,hd];exact hK _ _ (H _ _ ⟨ρ,s.put hlt ⟨_,_,rfl,zV.2 ⟨rfl,zdB.2 (hk v (ud hv))⟩,rfl⟩ ⟨trivial,trivial⟩⟩)
theorem g_max {x y:Operand} {a b:Int} {ts:Array TypeId} (ho:o.op = .call { callee:=.builtin .max,args:=#[x,y],argTypes:=ts }) (hx:fr.ev x = .val i64T a) (hy:fr.ev y = .val i64T b):OpG J o fr hp (.val i64T (max a b)):=by
  refine .of_run (fun {_ _ ac _} sm hr _=>?_) (fun _ _=>trivial);have h1:=hr x yA;have h2:=hr y yA;rw[hx] at h1;rw[hy] at h2;obtain⟨e1,r1⟩:=zV.1 h1;obtain⟨e2,r2⟩:=zV.1 h2;refine⟨.int .i64 (max a b),?_,zV.2 ⟨rfl,by rw[zdB] at *;omega⟩⟩;unfold execOp;rw[ho];have e3:(if a<b then b else a)=max a b:=by by_cases h:a<b<;>simp[h]<;>omega
  simp[resolve,Deferred.ofValue,invoke,builtin,Builtin.max_,Builtin.max2,e1,e2,Sem.run_bind,e3]
theorem zk6 (n:Nat) {b:Nat} {x:Obj} (y:Obj) (h:hp n = .objAt b x) (e:x=y) (H:AW J nx fr (hp.set n (.objAt b y)) k):AW J nx fr hp k:=by
  have:hp.set n (.objAt b y)=hp:=by
    subst e
    funext t
    rw[zk];by_cases c:t=n
    · rw[ut c,c,h]
    rw[ur c]
  rwa [this] at H
theorem zlT {x : Operand} {f : FuncId} {caps : List Nat} {fni : Func} {c : Code} {xs : Array Operand} {ts : Array TypeId} {d : Nat} (ho : o.op = .call { callee := .value x, args := xs, argTypes := ts }) (hd : o.dst = some d) (hg : o.guard = none) (hlt : Nat.blt d J.nt = true)
    (hx:fr.ev x = .clo f caps) (hf:J.P.funcs[f]?=some fni) (hfb:fnB J.P f=true) (hb:fni.body=some c) (hn:Nat.ble (xs.size+caps.length) fni.ntmps=true) (hcb:∀n∈caps,(hp n).isBox=true)
    (H:∀(a:Act) (ok:CallOk J nx fr a d),
      AW (CallC.job ⟨J,nx,fr,a,d,.ops ops rest::k,ok⟩ fni) nx (Fr.args 0 (xs.toList.map fr.ev++caps.map fun n=>.ptr n 0) Fr.none) hp [.code c]) :
    AW J nx fr hp (.ops ops (o::rest)::k):=by
  intro a w ⟨ρ,s⟩;have hlt:d<J.nt:=yM;have hn:xs.size+caps.length≤fni.ntmps:=ycr;refine z6 hg yt fun K hK=>?_
  obtain⟨fn',h1,h2,h3⟩:=zb0 hfb;have hv:a.eval x = .func (.func f) #[] (caps.map ρ).toArray:=by
    have:=zao s x
    rw[hx] at this;exact this
  have hux:∀n∈caps,n<nx:=by
    have:=zbB s.fnx x
    rw[hx] at this;exact this
  unfold Oper.wp;rw[zho ho hv h1 h2 h3,Oper.upon_enter];have H:=H a ⟨s.size,s.defers,hlt,s.fnx,s.ble⟩;generalize hC:CallC.mk J nx fr a d (.ops ops rest::k) ⟨s.size,s.defers,hlt,s.fnx,s.ble⟩=C at H
  have hfr:=zei (P:=fun _ A v=>A.rel ρ J.B (Uu J ρ hp) (Nn ρ hp) w v∧A.under nx) (fun _ _=>⟨trivial,trivial⟩) (i:=0) (f:=Fr.none) (g:=fun _=>undef)
    (As:=xs.toList.map fr.ev++caps.map fun n=>.ptr n 0) (vs:=xs.toList.map a.eval++caps.map ρ) yw
    (fun j A v e1 e2 _=>by
      by_cases c:j<xs.toList.length
      · rw[List.getElem?_append_left yb5] at e1 e2
        simp only[List.getElem?_map,Option.map_eq_some_iff] at e1 e2;obtain⟨n,hn1,rfl⟩:=e1;obtain⟨m,hm1,rfl⟩:=e2;obtain rfl:n=m:=ycy;exact⟨zao s n,zbB s.fnx n⟩
      rw[List.getElem?_append_right yb5] at e1 e2;simp only[List.length_map,List.getElem?_map,Option.map_eq_some_iff] at e1 e2;obtain⟨n,hn1,rfl⟩:=e1;obtain⟨m,hm1,rfl⟩:=e2;obtain rfl:n=m:=ycy;have hmem:=ud hn1;obtain⟨⟨g,eg⟩,_⟩:=s.toSimH.ptr_of_box (hcb n hmem);exact⟨⟨g,eg,eg⟩,hux n hmem⟩) (fun t=>⟨trivial,trivial⟩) (fun _ _=>rfl)
  have key:Calls J.P f (xs.toList.map a.eval++caps.map ρ).toArray w C.R:=by
    refine zeh hf hb ?_;have h4:=H { tmps:=(xs.toList.map a.eval++caps.map ρ).toArray++Array.replicate (fni.ntmps-(xs.toList.map a.eval++caps.map ρ).toArray.size) undef,defers:=[] } w ⟨ρ,SimR.job s.toSimH ybS (by subst hC;exact ug _) (by
      have e:(C.job fni).nt=fni.ntmps:=by subst hC;rfl
      rw[e];simp;omega) (by subst hC;rfl) (fun t=>by
        rw[zoU];have h1:=(hfr t).1;rw[ur (Nat.not_lt_zero t),Nat.sub_zero] at h1;exact h1) (fun t=>(hfr t).2) (fun p hp t=>by
        have hp:p∈(fr,a)::J.bg:=by subst hC;exact hp
        rcases List.mem_cons.1 hp with e|hp
        · rw[e];exact s.frel t
        exact s.brel p hp t)⟩
    subst hC;exact h4
  have e:(xs.toList.map a.eval++caps.map ρ).toArray=xs.map a.eval++(caps.map ρ).toArray:=ycp;rw[e] at key;refine Calls.mono key fun en w' he=>?_
  cases en with
  | returned v =>
    rw[hd];subst hC;exact hK _ _ he
  | panicked c=>subst hC;exact he
  | outgrown=>exact he.elim
theorem zi9 {C:CallC} {fni:Func} (hres:fni.results = #[]) (H:AW C.J nx (C.fr.set C.d (.lit (.tuple #[]))) hp C.k):AW (C.job fni) nx fr hp [] :=
  fun _ _ ⟨ρ,s⟩=>zdq s.defers (results_none hres _ _ _) (H _ _ ⟨ρ,(zf0 s).put C.ok.hlt rfl trivial⟩)
theorem ar_back1 {C:CallC} {fni:Func} {t:Tmp} (hres:fni.results = #[.tmp t]) (H:AW C.J nx (C.fr.set C.d (fr t)) hp C.k):AR (C.job fni) nx fr hp :=
  fun _ _ ⟨ρ,s⟩=>zdq s.defers (results_tmp hres _ _ _) (H _ _ ⟨ρ,(zf0 s).put C.ok.hlt (s.frel t) (s.fnx t)⟩)
theorem aw_nilpart (n:Nat) {ty:Nat} (e:Nat) {β:Type} (T:GoT β) (hn:hp n = .parts ty [.lit (.slice none 0 0)]) (H:AW J (nx+1) fr ((hp.set nx (.row e T [])).set n (.parts ty [.own nx])) k):AW J nx fr hp k:=fun a w ⟨ρ,s⟩=>by
  refine H a w ⟨_,s.nilpart e T (xs:=[]) hn trivial (fun x hx=>by cases hx) fun hr h=>?_⟩;obtain⟨g,vs,e1,e2,e3⟩:=h;refine⟨g,vs,e1,e2,?_⟩;obtain⟨v,us,rfl,hv,hc,hu,hrest⟩:=e3;have hv:v = .slice none 0 0:=hv;exact⟨v,us,rfl,by rw[hv];exact hr.symm,hc,hu,hrest⟩
end
end Go.Ab
namespace Go.Ab
open Go.RowKit
def za4 (l:List Int):List Int:=l.mergeSort fun x y=>decide (x≤y)
theorem zwj:Flat1 i64T (fun x=>[.int .i64 x]) (fun x=>IntKind.InR .i64 x):=fun _ _ _ _ _=>Iff.rfl
theorem flatK_one (d:Array Int):Sort.flatK (fun x:Int=>[Value.int .i64 x]) 1 d=d.map (Value.int .i64):=by
  apply Array.ext';rw[zhA (f:=fun x:Int=>[Value.int .i64 x]) Nat.one_pos (fun _=>rfl),Array.toList_map]
  induction d.toList with
  | nil=>rfl
  | cons x l ih=>simp[ih]
theorem world_one (w:World) (g n:Nat) (d:Array Int) (os:Array Obj):Sort.grow (Sort.putRow (Value.int .i64) (Sort.ahead w n) g 0 d) os=Proofs.sortWorldK (fun x:Int=>[Value.int .i64 x]) 1 w g 0 n d os:=by
  have:Sort.putCells (Value.int .i64) 0 d=Sort.putCells id 0 (Sort.flatK (fun x:Int=>[Value.int .i64 x]) 1 d):=by
    funext c
    rw[flatK_one];unfold Sort.putCells;apply Array.ext
    · simp
    intro i h1 h2;simp only[Array.getElem_mapIdx,Array.size_map]
    split
    · rename_i h
      have hd:i-0<d.size:=ya;rw[getElem!_pos d (i-0) hd,getElem!_pos (d.map (Value.int .i64)) (i-0) (by simpa using hd)];simp
    rfl
  unfold Proofs.sortWorldK;show _=Sort.grow (Sort.putRow id (Sort.ahead w n) g 0 (Sort.flatK (fun x:Int=>[Value.int .i64 x]) 1 d)) os;unfold Sort.putRow;rw[this]
theorem zwi:∀l:List Int,(l.map fun x=>[Value.int .i64 x]).flatten=l.map (Value.int .i64)
  | []=>rfl
  | x::l=>by rw[List.map_cons,List.flatten_cons,zwi l];rfl
open Go.Shelf in
theorem ztU {P:Program} {ρ:Ren} (L:Proofs.Lays.n189 P ρ) {e:TypeId} {l:List Int} (hn:l.length<1000000000):zfl P (ρ.f 189) (.row e i64T l) [.own 0] (.lit (.tuple #[])) (.row e i64T (za4 l)):=by
  intro ext p w vs hext hgr hrow hargs;obtain⟨hl2,hargs⟩:=hargs.spec
  match vs,hl2 with
  | [v0],_ =>
  have hv0:v0=p:=hargs 0 _ _ rfl rfl;subst hv0;obtain⟨xs,hown,hall⟩:=hrow;obtain⟨hxs,hok⟩:=(zh8 zwj).1 hall;rcases hown.2 with ⟨hp,hl0⟩|⟨gb,cap,cur,hp,_,hheap,hncap,hcap,hcs,htk⟩
  · obtain rfl:l=[]:=List.length_eq_zero_iff.1 hl0
    subst hp
    have:=Proofs.Any.slices_Sort_int_none L none 0 w
    refine this.mono ?_
    rintro _ w' ⟨rfl,rfl⟩
    exact⟨BelowX.refl _ _,⟨[],⟨by simp[za4],.inl ⟨rfl,by simp[za4]⟩⟩,by simp[za4];rfl⟩,rfl⟩
  subst hp;have hlt:=(Array.getElem?_eq_some_iff.1 hheap).1;have hsz1:(i64T).size=1:=rfl;rw[hsz1,Nat.mul_one] at hcs htk;rw[zwi] at hxs;have hH:Sort.Holds (Value.int .i64) w gb 0 l.toArray:=fun j hj=>by
    have hj:j<l.length:=by simpa using hj
    refine⟨?_,?_⟩
    · have hs2:j<l.toArray.size:=by simpa using hj
      rw[Nat.zero_add,cell_of_row w gb j cur e (0,0) hheap,getElem!_pos l.toArray j hs2];have h1:(cur.toList.take l.length)[j]?=xs[j]?:=by rw[htk]
      rw[List.getElem?_take,ut hj,Array.getElem?_toList,hxs] at h1;rw[h1];simp[hj]
    unfold World.frozen?;simp[hheap]
  have key:=Proofs.Any.slices_Sort_int L gb 0 cap l w hH hlt ya;refine Calls.mono key ?_
  rintro _ w' ⟨rfl,n,os,rfl⟩
  have hlen:(za4 l).length=l.length:=by simp[za4]
  have hmem:∀x,x∈za4 l↔x∈l:=fun x=>(List.mergeSort_perm l _).mem_iff
  show zpd _ _ _ _ _ _ (Sort.grow (Sort.putRow (Value.int .i64) (Sort.ahead w n) gb 0 (za4 l).toArray) os);rw[world_one];obtain⟨hb1,hb2⟩:=zl3 (n:=n) (os:=os) (f:=fun x:Int=>[Value.int .i64 x]) Nat.one_pos (fun _=>rfl) hheap (d:=(za4 l).toArray) (by simp[hlen];omega);have hgN:gN (.slice (some ⟨gb,0,none⟩) l.length cap)=fun b=>b=gb:=by
    funext b;unfold gN zaV;exact propext ⟨fun h=>(Option.some.inj h).symm,fun h=>by rw[h]⟩
  have hfl:(((za4 l).toArray.toList).map fun x:Int=>[Value.int .i64 x]).flatten.length=l.length:=by
    rw[←zhA (f:=fun x:Int=>[Value.int .i64 x]) Nat.one_pos (fun _=>rfl),Array.length_toList,Sort.size_flatK];simp[hlen]
  refine⟨by rw[hgN];exact hb2,⟨(((za4 l).toArray.toList).map fun x:Int=>[Value.int .i64 x]).flatten,⟨by rw[hfl,hlen,hsz1,Nat.mul_one],.inr ⟨gb,cap,_,by rw[hlen],uf _,hb1,by rw[hlen];exact hncap,hcap,?_,?_⟩⟩,(zh8 zwj).2 ⟨rfl,fun x hx=>hok x ((hmem x).1 hx)⟩⟩,rfl⟩
  · simp only[List.size_toArray,ue,List.length_drop,hfl,Array.length_toList,hcs,hsz1,Nat.mul_one,hlen]
    omega
  rw[List.toList_toArray,hlen,hsz1,Nat.mul_one,List.take_left' hfl]
end Go.Ab
namespace Go.Ab
open Go.RowKit
theorem zjU {ρ:Nat→Value} {B U N:Nat→Prop} {w:World}:∀{xs ys:List AV} {vs us:List Value},AV.relL ρ B U N w xs vs→AV.relL ρ B U N w ys us→AV.relL ρ B U N w (xs++ys) (vs++us)
  | [],_,_,_,h,h'=>by
    have h:_=[]:=h;subst h;exact h'
  | x::xs,_,_,_,⟨v,us',e,h1,h2,h3,h4⟩,h'=>by subst e;exact⟨v,_,rfl,h1,h2,h3,zjU h4 h'⟩
theorem zlx {ρ:Nat→Value} {B U N:Nat→Prop} {w:World}:∀{xs ys:List AV} {vs:List Value},AV.relL ρ B U N w (xs++ys) vs→∃v1 v2,vs=v1++v2∧AV.relL ρ B U N w xs v1∧AV.relL ρ B U N w ys v2
  | [],_,vs,h=>⟨[],vs,rfl,rfl,h⟩
  | x::xs,_,_,⟨v,us,e,h1,h2,h3,h4⟩=>by
    obtain⟨v1,v2,rfl,h5,h6⟩:=zlx h4;subst e;exact⟨v::v1,v2,rfl,⟨v,v1,rfl,h1,h2,h3,h5⟩,h6⟩
def zhc {α:Type} (T:GoT α) (x:α) (xs:List AV):Prop:=(∀y∈xs,y.under 0)∧∀{ρ:Nat→Value} {B U N:Nat→Prop} {w:World} {cs:List Value},T.rel U N w x cs→∃vs,cs=flatV vs∧AV.relL ρ B U N w xs vs
section
variable {α β γ:Type} {A:GoT α} {B:GoT β} {T:GoT β} {R:GoT γ}
theorem zcV {x:α}:zhc A x [.val A x]:=by
  refine⟨fun y hy=>by rw[List.mem_singleton.1 hy];trivial,fun {ρ B U N w cs} h=>?_⟩;cases hA:A.agg with
  | true =>
    have e:(Value.agg cs.toArray).cells=cs.toArray:=rfl;refine⟨[.agg cs.toArray],by simp[e],.agg cs.toArray,[],rfl,⟨cs,h,.inl ⟨hA,rfl⟩⟩,?_,fun u hu=>A.one h u (by simpa [e] using hu),rfl⟩;show cs.toArray.size=A.size;rw[List.size_toArray,A.len h]
  | false =>
    have hl:=A.len h;rw[A.sc hA] at hl;obtain⟨v,rfl⟩:∃v,cs=[v]:=by
      match cs,hl with
      | [v],_=>exact⟨v,rfl⟩
    have hv1:=A.one h v yw;have hvc:v.cells.toList=[v]:=zeD hv1 (by
      have:v.cells = #[v]:=ycm
      rw[this];rfl)
    refine⟨[v],by simp[hvc],v,[],rfl,⟨[v],h,.inr ⟨hA,rfl⟩⟩,?_,fun u hu=>?_,rfl⟩
    · show v.cells.size=A.size
      rw[A.sc hA,←Array.length_toList,hvc];rfl
    rw[hvc] at hu;simp at hu;rw[hu];exact hv1
theorem zns:zhc nilT () [.lit (.slice none 0 0)]:=by
  refine⟨fun y hy=>by rw[List.mem_singleton.1 hy];trivial,fun {ρ B U N w cs} h=>?_⟩;obtain⟨rfl,_⟩:=h;exact⟨[.slice none 0 0],rfl,.slice none 0 0,[],rfl,rfl,rfl,fun u hu=>by simp[Value.cells] at hu;rw[hu];rfl,rfl⟩
theorem zcA {x:α} {y:β} {xs ys:List AV} (h1:zhc A x xs) (h2:zhc B y ys):zhc (zcs A B) (x,y) (xs++ys):=by
  refine⟨fun z hz=>(List.mem_append.1 hz).elim (h1.1 z) (h2.1 z),fun {ρ B' U N w cs} h=>?_⟩;obtain⟨c1,c2,rfl,k1,k2⟩:=h;obtain⟨v1,rfl,r1⟩:=h1.2 (ρ:=ρ) (B:=B') k1;obtain⟨v2,rfl,r2⟩:=h2.2 (ρ:=ρ) (B:=B') k2;exact⟨v1++v2,by simp[flatV],zjU r1 r2⟩
def zlc {β γ:Type} (R:GoT γ) (z:γ) (xs:List AV) (T:GoT β) (l:List β):Prop:=∀{ρ:Nat→Value} {B U N:Nat→Prop} {w:World} {vs:List Value} {v:Value},AV.relL ρ B U N w xs vs→(sl T).val U N w l v→R.rel U N w z (flatV vs++v.cells.toList)
theorem zoc {l:List β}:zlc (sl T) l [] T l:=fun {ρ B U N w vs v} h h'=>by
  have h:vs=[]:=h;subst h;simpa [flatV] using GoT.val_cells h'
theorem zge {x:α} {y:γ} {xs:List AV} {l:List β} (h:zlc R y xs T l):zlc (zcs A R) (x,y) (.val A x::xs) T l:=fun {ρ B U N w vs v} h1 h2=>by
  obtain⟨u,us,rfl,k1,k2,k3,k4⟩:=h1;exact⟨u.cells.toList,flatV us++v.cells.toList,by simp[flatV],GoT.val_cells k1,h k4 h2⟩
theorem zvN {g:γ→α} {z:γ} {xs:List AV} {l:List β} (h:zlc A (g z) xs T l):zlc (viaT A g) z xs T l:=fun h1 h2=>h h1 h2
end
section
variable {J:Job} {nx:Nat} {fr:Fr} {hp:Hp} {k:List It} {α β γ:Type} {A:GoT α} {T:GoT β} {R:GoT γ}
theorem zdQ (n:Nat) {ty:Nat} {x:α} {xs:List AV} (hs:zhc A x xs) (hn:hp n = .box ty A x) (H:AW J nx fr (hp.set n (.parts ty xs)) k):AW J nx fr hp k:=fun a w ⟨ρ,s⟩=>by
  have h0:=s.hrel n;rw[hn] at h0;obtain⟨g,cs,e1,e2,h⟩:=h0;refine H a w ⟨ρ,s.modify hn trivial trivial rfl rfl rfl rfl (fun _ _=>rfl) (fun kp=>?_) (ug _) (fun x hx=>AV.under_mono (uf _) (hs.1 x hx))⟩;obtain⟨vs,rfl,hr⟩:=hs.2 (ρ:=ρ) (B:=J.B) (A.mono kp h);exact⟨g,vs,e1,e2,hr⟩
theorem zcR (n:Nat) {ty:Nat} (e:Nat) (T:GoT β) (xs:List AV) (hn:hp n = .parts ty (xs++[.lit (.slice none 0 0)])) (hu:∀x∈xs,x.under 0) (H:AW J (nx+1) fr ((hp.set nx (.row e T [])).set n (.parts ty (xs++[.own nx]))) k):AW J nx fr hp k:=fun a w ⟨ρ,s⟩=>by
  refine H a w ⟨_,s.nilpart e T (xs:=xs) hn trivial (fun x hx=>AV.under_mono (uf _) (hu x hx)) fun hr h=>?_⟩;obtain⟨g,vs,e1,e2,e3⟩:=h;refine⟨g,vs,e1,e2,?_⟩;obtain⟨v1,v2,rfl,h1,v,us,rfl,hv,hc,hu,hrest⟩:=zlx e3;have hv:v = .slice none 0 0:=hv;exact zjU h1 ⟨v,us,rfl,by rw[hv];exact hr.symm,hc,hu,hrest⟩
theorem zgY (n m:Nat) {ty e:Nat} (xs:List AV) {l:List β} {z:γ} (hn:hp n = .parts ty (xs++[.own m])) (hm:hp m = .row e T l) (hne:Nat.beq n m=false)
    (hR:zlc R z xs T l) (H:AW J nx fr ((hp.set m .none_).set n (.box ty R z)) k):AW J nx fr hp k:=fun a w ⟨ρ,s⟩=>by
  have hne':n≠m:=fun e=>by subst e;simp at hne
  have hrow:=s.hrel m;rw[hm] at hrow;obtain⟨xs',hown,hall⟩:=hrow;have s':=s.drop m;have hlive:(hp m).live:=by rw[hm];trivial
  have hN:∀b,Nn ρ (hp.set m .none_) b→Nn ρ hp b∧zaV (ρ m)≠some b:=fun b ⟨i,hl,e⟩=>by
    rw[zk] at hl;by_cases c:i=m
    · rw[ut c] at hl;exact hl.elim
    rw[ur c] at hl;exact⟨⟨i,hl,e⟩,fun e'=>c (s.inj i m b hl hlive e e')⟩
  have kp:Keeps (Uu J ρ hp) (Nn ρ hp) w (Uu J ρ (hp.set m .none_)) (Nn ρ (hp.set m .none_)) w:=⟨s.sub,ug _,fun _ _ _=>rfl,fun b _ hu=>hu.imp id (fun h=>(hN b h).1),fun b _ h=>(hN b h).1⟩
  have hval:(sl T).val (Uu J ρ (hp.set m .none_)) (Nn ρ (hp.set m .none_)) w l (ρ m) :=
    zhm (b:=false) hown rfl (hall.mono kp) (fun g hg hu=>by
      rcases hu with hu|hu
      · rcases (s.new m g hlive hg).1 with h1|h1
        · have:=J.lt g hu;omega
        exact J.dj g hu h1
      exact(hN g hu).2 hg)
  have hn2:(hp.set m .none_) n = .parts ty (xs++[.own m]):=by rw[zk,ur hne'];exact hn
  have h0:=s'.hrel n;rw[hn2] at h0;obtain⟨g,vs,e1,e2,e3⟩:=h0;obtain⟨v1,v2,rfl,h1,v,us,rfl,hv,hc,hu,hrest⟩:=zlx e3;have hrest:us=[]:=hrest;subst hrest;have hv:v=ρ m:=hv;subst hv;refine H a w ⟨ρ,s'.modify hn2 trivial trivial rfl rfl rfl rfl (fun _ _=>rfl) (fun kp2=>?_)⟩;exact⟨g,flatV v1++(ρ m).cells.toList,e1,by simpa [flatV] using e2,R.mono kp2 (hR h1 hval)⟩
theorem zk9 {C:CallC} {fni:Func} {t ty n tb:Nat} {x:α} (hres:fni.results = #[.cell t ty]) (ht:fr t = .ptr n 0) (hn:hp n = .box tb A x) (hty:tyB C.J.P ty A.size A.agg=true) (H:AW C.J nx (C.fr.set C.d (.val A x)) hp C.k):AW (C.job fni) nx fr hp (.code .ret::k) :=
  zaX fun a w ⟨ρ,s⟩=>by
    obtain⟨v,h1,h2⟩:=zmE s hres ht hn hty;exact zdq s.defers h1 (H _ _ ⟨ρ,(zf0 s).put C.ok.hlt h2 trivial⟩)
end
end Go.Ab
namespace Go.Ab
open Go.RowKit
section
variable {J:Job} {ops:Array Oper} {k:List It} {info:List (Option Nat)} {rest:List Oper} {S:List XS} {fr:Fr} {o oj:Oper} {x:AV} {pd:List (Nat×HE×Nat)}
theorem yield_gi {hp:Hp} {d j t:Nat} {b want:Bool} (h:OpG J o fr hp x) (hd:o.dst=some d) (hg:o.guard=some (j,want)) (ho:ops[j]?=some oj) (hj:oj.dst=some t) (hv:fr t = .val zs b) (ht:Nat.blt t J.nt=true) (hw:b=want) (hlt:Nat.blt d J.nt=true):YieldA J hp ops o x fr :=
  ⟨⟨d,hd,by simpa using hlt,fun b' j' t' oj' e h1 h2=>by
    rw[hg] at e;cases e;rw[ho] at h1;cases h1;rw[hj] at h2;cases h2;simpa using ht⟩,.inl ⟨by unfold zdj;rw[hg];exact⟨oj,t,ho,hj,.inl ⟨b,hv,by rw[hw];cases want<;>rfl⟩⟩,h⟩⟩
theorem yield_gn {hp:Hp} {d j t:Nat} {b want:Bool} (hd:o.dst=some d) (hg:o.guard=some (j,want)) (ho:ops[j]?=some oj) (hj:oj.dst=some t) (hv:fr t = .val zs b) (ht:Nat.blt t J.nt=true) (hw:(b==want)=false) (hlt:Nat.blt d J.nt=true):YieldA J hp ops o (.lit undef) fr :=
  ⟨⟨d,hd,by simpa using hlt,fun b' j' t' oj' e h1 h2=>by
    rw[hg] at e;cases e;rw[ho] at h1;cases h1;rw[hj] at h2;cases h2;simpa using ht⟩,.inr ⟨by unfold zdj;rw[hg];exact⟨oj,t,ho,hj,.inl ⟨b,hv,hw.symm⟩⟩,rfl⟩⟩
theorem XK.gi {s:XS} {d j t:Nat} {b want:Bool} (h:OpG J o fr s.hp x) (hd:o.dst=some d) (hg:o.guard=some (j,want)) (ho:ops[j]?=some oj) (hj:oj.dst=some t) (hv:fr t = .val zs b) (ht:Nat.blt t J.nt=true) (hw:b=want) (hlt:Nat.blt d J.nt=true)
    (H:XK J ops k info rest (s::S) (fr.set d x) pd):XK J ops k (some 1::info) (o::rest) (s::S) fr pd :=
  XK.y (x:=x) yn (fun s' hs=>by
    have:s'=s:=by simpa using hs
    subst this;exact yield_gi h hd hg ho hj hv ht hw hlt) ybf
theorem XK.gn {s:XS} {m d j t:Nat} {b want:Bool} (hm:Nat.blt m 1000000=true) (hd:o.dst=some d) (hg:o.guard=some (j,want)) (ho:ops[j]?=some oj) (hj:oj.dst=some t) (hv:fr t = .val zs b) (ht:Nat.blt t J.nt=true) (hw:(b==want)=false) (hlt:Nat.blt d J.nt=true)
    (H:XK J ops k info rest (s::S) (fr.set d (.lit undef)) pd):XK J ops k (some m::info) (o::rest) (s::S) fr pd :=
  XK.y (x:=.lit undef) (by simpa using hm) (fun s' _=>yield_gn hd hg ho hj hv ht hw hlt) ybf
end
end Go.Ab
namespace Go.Ab
open Go.RowKit
def strV (l:List UInt8):Value:=.string ⟨l.toArray⟩
section
variable {J:Job} {fr:Fr} {hp:Hp} {o:Oper}
theorem g_cvs {s d e:TypeId} {x:Operand} {b:Bool} {l:List UInt8} (ho:o.op = .convert s d x) (hx:fr.ev x = .val (slT b u8T) l) (hs:J.P.underlying s=some (.slice e)) (he:J.P.underlying e=some (.int .u8)) (hd:J.P.underlying d=some .string):OpG J o fr hp (.lit (strV l)):=by
  refine .of_run (fun {_ ρ a w} sm hr _=>?_) (fun _ _=>trivial);have h:=hr x yl;rw[hx] at h;obtain⟨p,cap,hv,h1,h2,h3⟩:=zik h;have hex:(convert s d (a.eval x)).run J.P w = .ok (strV l) w:=by
    rw[hv];by_cases hl:l=[]
    · subst hl
      cases p with
      | none=>exact Lib.run_convert_nil_bytes (P:=J.P) w s d e cap hs he hd
      | some p=>exact run_convert_bytes_back (P:=J.P) w s d e p cap [] hs he hd (fun j hj=>absurd hj (Nat.not_lt_zero _))
    obtain⟨ad,ds,rfl,_,hr,hc⟩:=h3 hl;have hds:ds=l.map fun b=>Value.int .u8 b.toNat:=znN hr
    exact run_convert_bytes_back (P:=J.P) w s d e ad cap l hs he hd (fun j hj=>hc j _ (by rw[hds];simp[hj]))
  refine⟨strV l,?_,rfl⟩;unfold execOp;rw[ho];simp only[Sem.run_bind,hex];rfl
theorem beq_str (l m:List UInt8):((⟨l.toArray⟩:ByteArray).toList==(⟨m.toArray⟩:ByteArray).toList)=decide (l=m):=by
  rw[ByteArray.toList_eq,ByteArray.toList_eq];show(l==m)=_;by_cases h:l=m
  · subst h;simp
  simp[h]
theorem zkv {op:BinOp} (t:TypeId) (x y:Operand) (a b:ByteArray) (P:Program) (w:World):(eqGuard op t x y (.string a) (.string b)).run P w = .ok () w:=by
  unfold eqGuard;cases op<;>simp[Sem.run_pure]
theorem g_eqlstr {t t':TypeId} {x y:Operand} {l m:List UInt8} (ho:o.op = .binOp .eql t x y t') (hx:fr.ev x = .lit (strV l)) (hy:fr.ev y = .lit (strV m)):OpG J o fr hp (.val zs (decide (l=m))) :=
  zd4 ho hx hy (fun {ρ U N w u v} hu hv=>by
    have hu:u=strV l:=hu;have hv:v=strV m:=hv;subst hu;subst hv;refine⟨.bool (decide (l=m)),?_,zkv ..,zbs.2 rfl⟩;show(Op.stringOp .eql ⟨l.toArray⟩ ⟨m.toArray⟩).run J.P w=_;simp only[Op.stringOp,beq_str];rfl) (fun _=>trivial)
theorem g_neqstr {t t':TypeId} {x y:Operand} {l m:List UInt8} (ho:o.op = .binOp .neq t x y t') (hx:fr.ev x = .lit (strV l)) (hy:fr.ev y = .lit (strV m)):OpG J o fr hp (.val zs (!decide (l=m))) :=
  zd4 ho hx hy (fun {ρ U N w u v} hu hv=>by
    have hu:u=strV l:=hu;have hv:v=strV m:=hv;subst hu;subst hv;refine⟨.bool (!decide (l=m)),?_,zkv ..,zbs.2 rfl⟩;show(Op.stringOp .neq ⟨l.toArray⟩ ⟨m.toArray⟩).run J.P w=_;simp only[Op.stringOp,beq_str];rfl) (fun _=>trivial)
end
end Go.Ab
namespace Go.Ab
open Go.RowKit
def PanPost (gr:Nat→Prop) (w0:World) (pv:Value):Ending→World→Prop
  | .panicked ch,w=>ch=[{ v:=pv,recovered:=false }]∧BelowX gr w0 w
  | _,_=>False
def Pans (P:Program) (f:FuncId) (args:List AV) (pv:Value):Prop :=
  ∀(ext:Nat→Prop) (w:World) (vs:List Value),(∀b,ext b→b<w.heap.size)→zca ext w args vs→Calls P f vs.toArray w (PanPost (fun _=>False) w pv)
def zoX (P:Program) (f:FuncId) (args:List AV) (c:Prop) (pv:Value) (res:AV):Prop:=(c→Tells P f args res)∧(¬c→Pans P f args pv)
def zo0 (ext gr:Nat→Prop) (w0:World) (c:Prop) (pv:Value) (res:AV):Ending→World→Prop
  | .returned v,w=>c∧BelowX gr w0 w∧res.rel ρ0 (fun b=>w0.heap.size≤b∨gr b) ext ext w v
  | .panicked ch,w=>¬c∧ch=[{ v:=pv,recovered:=false }]∧BelowX gr w0 w
  | .outgrown,_=>False
def Job.ofR (P:Program) (fn:Func) (R:Ending→World→Prop) (ext:Nat→Prop) (w:World) (h:∀b,ext b→b<w.heap.size):Job :=
  { P,fn,w0:=w,ext,gr:=fun _=>False,kg:=0,ρg:=ρ0,dj:=fun _ _ h=>h,nt:=fn.ntmps,R:=R,rd:=none,ds:=[],bg:=[],bn:=0,bgb:=fun p hp=>(nomatch hp),post:=bodyPostM Fence.wide 0 P fn R,nrm:=fun _ _ _ h=>h,fin:=fun _ _ _ _ h1 h2 _ h3=>zdq h1 h2 h3,mark:=fun _ _ _ _ _ h1 h2 h3=>zhE h1 h2 h3,lt:=h }
abbrev Job.ofP (P:Program) (fn:Func) (c:Prop) (pv:Value) (res:AV) (ext:Nat→Prop) (w:World) (h:∀b,ext b→b<w.heap.size):Job:=Job.ofR P fn (zo0 ext (fun _=>False) w c pv res) ext w h
def Job.Pan (J:Job) (pv:Value):Prop:=∀a w,BelowX J.gr J.w0 w→a.defers=J.ds→J.post (.panic [{ v:=pv,recovered:=false }]) a w
theorem ztw {P:Program} {fn:Func} {R:Ending→World→Prop} {a:Act} {w:World} {ch:List PanicEntry} (h1:a.defers=[]) (h3:R (.panicked ch) w):bodyPostM Fence.wide 0 P fn R (.panic ch) a w:=by
  show LeavesInM Fence.wide 0 P fn a.tmps R a.defers (.panicking ch) w;rw[h1];exact h3
theorem pan_of {P:Program} {fn:Func} {c:Prop} {pv:Value} {res:AV} {ext:Nat→Prop} {w0:World} {h:∀b,ext b→b<w0.heap.size} (hc:¬c):(Job.ofP P fn c pv res ext w0 h).Pan pv :=
  fun _ _ hb hd=>ztw hd ⟨hc,rfl,hb⟩
theorem Kont.panic (J:Job):∀(k:List It) {ch:List PanicEntry} {a:Act} {w:World},J.post (.panic ch) a w→Kont J k (.panic ch) a w
  | [],_,_,_,h=>h
  | .code _::k,_,_,_,h=>Kont.panic J k h
  | .ops ..::k,_,_,_,h=>Kont.panic J k h
  | .inBlock _::k,_,_,_,h=>Kont.panic J k h
  | .again _::k,_,_,_,h=>Kont.panic J k h
  | .inScope ..::k,_,_,_,h=>Kont.panic J k h
section
variable {J:Job} {nx:Nat} {ρ:Nat→Value} {fr:Fr} {hp:Hp} {a:Act} {w w':World} {k:List It} {ops:Array Oper} {rest:List Oper} {o:Oper}
theorem zwG {A:AV} {c:Prop} {pv:Value} (hR:J.R=zo0 J.ext J.gr J.w0 c pv A) (hA:A = .lit (.tuple #[])) (hfn:J.fn.results = #[]) (hc:c) (hds:J.ds=[]∧J.rd=none:=by exact⟨rfl,rfl⟩):AR J nx fr hp:=by
  intro a w ⟨ρ,s⟩;refine J.fin hds.2 _ _ _ (s.defers.trans hds.1) (results_none hfn _ _ _) s.below ?_;rw[hR,hA];exact⟨hc,s.below,rfl⟩
theorem zrH {t:Tmp} {A:AV} {c:Prop} {pv:Value} (hR:J.R=zo0 J.ext J.gr J.w0 c pv A) (hfn:J.fn.results = #[.tmp t]) (hc:c) (h:zfY J hp (fr t) A) (hds:J.ds=[]∧J.rd=none:=by exact⟨rfl,rfl⟩):AW J nx fr hp (.code .ret::k):=zaX (by
  intro a w ⟨ρ,s⟩;refine xa ?_;rw[hR];exact⟨hc,s.below,h _ _ _ _ s.toSimH (s.frel t)⟩)
end
theorem zoN {P:Program} {f:FuncId} {fn:Func} {c:Code} {As:List AV} {R:Ending→World→Prop} (hf:P.funcs[f]?=some fn) (hb:fn.body=some c) (hn:Nat.ble As.length fn.ntmps=true) (hu:As.all AV.under0=true)
    {ext:Nat→Prop} {w:World} {vs:List Value} (hext:∀b,ext b→b<w.heap.size) (ha:zca ext w As vs)
    (H:AW (Job.ofR P fn R ext w hext) 0 (Fr.args 0 As Fr.none) Hp.none [.code c]):Calls P f vs.toArray w R:=by
  obtain⟨hl,hrel⟩:=ha.spec;have hn:As.length≤fn.ntmps:=ycr;have hu:∀A∈As,A.under 0:=fun A hA=>AV.under0_spec (List.all_eq_true.1 hu A hA)
  refine zeh hf hb ?_;have hNN:∀b,Nn (fun _=>undef) Hp.none b→False:=fun b ⟨n,hl,_⟩=>hl
  have k:Keeps ext noN w (Uu (Job.ofR P fn R ext w hext) ρ0 Hp.none) (Nn ρ0 Hp.none) w:=⟨fun _ h=>h.elim,ug _,fun _ _ _=>rfl,fun b _ h=>h.elim id (fun h=>(hNN b h).elim),fun b _ h=>(hNN b h).elim⟩
  have hfr:=zei (P:=fun _ A v=>A.rel ρ0 (Job.ofR P fn R ext w hext).B (Uu (Job.ofR P fn R ext w hext) ρ0 Hp.none) (Nn ρ0 Hp.none) w v∧A.under 0) (fun _ _=>⟨trivial,trivial⟩) (i:=0) (f:=Fr.none) (g:=fun _=>undef) hl
    (fun j A v h1 h2 _=>by
      have hu':=hu A (ud h1);exact⟨AV.rel_mono k hu' (AV.rel_B hu' (hrel j A v h1 h2)),hu'⟩) (fun t=>⟨trivial,trivial⟩) (fun _ _=>rfl)
  refine H _ w ⟨ρ0,{ kle:=ug _,ble:=uf _,brel:=fun q hq=>(nomatch hq),named:=fun _ _=>rfl,below:=BelowX.refl _ _,hrel:=fun _=>trivial,hun:=fun _=>trivial,hnx:=fun _ _=>rfl,new:=fun n b hl _=>hl.elim,inj:=fun n m b hl=>hl.elim,size:=?_,defers:=rfl,frel:=fun t=>?_,fnx:=fun t=>(hfr t).2 }⟩
  · show(vs.toArray++_).size=fn.ntmps
    simp;omega
  have e : (vs.toArray ++ Array.replicate (fn.ntmps - vs.toArray.size) undef).getD t undef = (vs[t]?).getD undef := by
    rw[Array.getD_eq_getD_getElem?,Array.getElem?_append];by_cases c:t<vs.toArray.size
    · rw[ut c];simp
    rw[ur c];have hv:vs[t]?=none:=yb5;rw[hv,Array.getElem?_replicate]
    split<;>rfl
  rw[e];have h1:=(hfr t).1;rw[ur (Nat.not_lt_zero t),Nat.sub_zero] at h1;exact h1
theorem ziW {P:Program} {f:FuncId} {fn:Func} {c:Code} {As:List AV} {res:AV} {cd:Prop} {pv:Value} (hf:P.funcs[f]?=some fn) (hb:fn.body=some c) (hn:Nat.ble As.length fn.ntmps=true) (hu:As.all AV.under0=true)
    (H:∀(ext:Nat→Prop) (w:World) (h:∀b,ext b→b<w.heap.size),AW (Job.ofP P fn cd pv res ext w h) 0 (Fr.args 0 As Fr.none) Hp.none [.code c]):zoX P f As cd pv res:=by
  constructor
  · intro hc ext w vs hext ha
    refine Calls.mono (zoN hf hb hn hu hext ha (H ext w hext)) fun e w' he=>?_
    cases e with
    | returned v=>exact zbn.pure (e:=.returned v) he.2
    | panicked ch=>exact absurd hc he.1
    | outgrown=>exact he.elim
  intro hc ext w vs hext ha;refine Calls.mono (zoN hf hb hn hu hext ha (H ext w hext)) fun e w' he=>?_
  cases e with
  | returned v=>exact absurd he.1 hc
  | panicked ch=>exact he.2
  | outgrown=>exact he.elim
end Go.Ab
namespace Go.Ab
open Go.RowKit
def AP (J:Job) (nx:Nat) (fr:Fr) (hp:Hp) (pv:Value):Prop:=∀a w,Sim J nx fr hp a w→J.post (.panic [{ v:=pv,recovered:=false }]) a w
def dOf (f:FuncId) (b:Nat):Deferred:={ target:=.fn (.func f) #[.pointer (some ⟨b,0,none⟩)],args:=#[] }
structure Catches (P:Program) (f:FuncId) (bt:TypeId) (pv:Value):Prop where
  fn:fnB P f=true
  idle:∀(b:Nat) (w:World),CallsDIn Fence.wide 0 P f #[.pointer (some ⟨b,0,none⟩)] .returning w fun e u w'=>e = .returned (.tuple #[])∧u = .returning∧w'=w
  caught:∀(b:Nat) (w:World) (x:Bool),w.heap[b]?=some (.cells #[.bool x] bt (0,0))→CallsDIn Fence.wide 0 P f #[.pointer (some ⟨b,0,none⟩)] (.panicking [{ v:=pv,recovered:=false }]) w
    fun e u w'=>e = .returned (.tuple #[])∧u = .panicking [{ v:=pv,recovered:=true }]∧w'=w.putObj b (.cells #[.bool false] bt (0,0))
section
variable {J:Job} {nx:Nat} {ρ:Nat→Value} {fr:Fr} {hp:Hp} {a:Act} {w w':World} {k:List It} {ops:Array Oper} {rest:List Oper} {o:Oper} {pv:Value}
theorem aw_panic {x:Operand} {t:TypeId} {v:Value} (ho:o.op = .panic x) (hg:o.guard=none) (hx:fr.ev x = .lit (.iface t v)) (H:AP J nx fr hp (.iface t v)):AW J nx fr hp (.ops ops (o::rest)::k):=by
  intro a w ⟨ρ,s⟩;refine z6 hg yt fun K hK=>?_
  have hv:=zao s x;rw[hx] at hv;have hv:a.eval x = .iface t v:=hv;have hex:(execOp a.eval o).run J.P w = .halt (.panic (.iface t v)) w:=by
    unfold execOp;rw[ho];have hp:∀w,(Instr.panic (.iface t v)).run J.P w = .halt (.panic (.iface t v)) w:=fun _=>rfl
    simp[hv,Sem.run_bind,hp]
  unfold Oper.wp;rw[hex,Oper.upon_panic];exact Kont.panic J k (H a w ⟨ρ,s⟩)
theorem ap_inl {C:CallC} {fni:Func} (H:AP C.J nx C.fr hp pv):AP (C.job fni) nx fr hp pv :=
  fun _ w ⟨ρ,s⟩=>ztw s.defers (Kont.panic C.J C.k (H C.a w ⟨ρ,zf0 s⟩))
theorem zoW {P:Program} {fn:Func} {c:Prop} {res:AV} {ext:Nat→Prop} {w0:World} {h:∀b,ext b→b<w0.heap.size} (hc:¬c):AP (Job.ofP P fn c pv res ext w0 h) nx fr hp pv :=
  fun a w ⟨_,s⟩=>pan_of hc a w s.below s.defers
theorem zbu {f : FuncId} {xs : Array Operand} {ts : Array TypeId} {As : List AV} {X : AV} {c : Prop} (hc : zoX J.P f As c pv X) (ho : o.op = .call { callee := .value (.func f), args := xs, argTypes := ts }) (hf : fnB J.P f = true) (hg : o.guard = none)
    (ha:zis J fr hp xs.toList As) (hpan:¬c→AP J nx fr hp pv) (H:c→AW J nx fr hp (.ops ops (o::rest)::k)):AW J nx fr hp (.ops ops (o::rest)::k):=by
  by_cases h:c
  · exact H h
  intro a w ⟨ρ,s⟩;refine z6 hg yt fun K hK=>?_
  obtain⟨fn,h1,h2,h3⟩:=zb0 hf;unfold Oper.wp;rw[zfL ho h1 h2 h3,Oper.upon_enter];have hargs:=zg0 (s:=s.toSimH) (a:=a) (fun y _=>zao s y) ha;have e:(xs.toList.map a.eval).toArray=xs.map a.eval:=ycp
  have:=hc.2 h (Uu J ρ hp) w _ (fun b hb=>s.uu_lt hb) hargs
  rw[e] at this;refine Calls.mono this fun e w' he=>?_
  cases e with
  | returned v=>exact he.elim
  | panicked ch =>
    obtain⟨rfl,hb⟩:=he;exact Kont.panic J k (hpan h _ _ ⟨ρ,s.later (BelowX.none hb)⟩)
  | outgrown=>exact he.elim
theorem g_mkif {x:Operand} {t:TypeId} {v:Value} (ho:o.op = .makeInterface t x) (hx:fr.ev x = .lit v) (hu:(match J.P.underlying t with|some (.interface _)=>false|some _=>true|none=>false)=true):OpG J o fr hp (.lit (.iface t v)):=by
  refine .of_run (fun {_ _ _ w} s hr _=>?_) (fun _ _=>trivial);have h:=hr x yl;rw[hx] at h;have h:_=v:=h;refine⟨.iface t v,?_,rfl⟩;unfold execOp;rw[ho];cases hd:J.P.underlying t with
  | none=>simp[hd] at hu
  | some d=>cases d<;>first|(simp[hd] at hu;done)|simp[h,Instr.makeInterface,run_underlying hd,Sem.run_bind]
theorem aw_fall (h:AR J nx fr hp) (hrd:J.rd=none:=by exact rfl):AW J nx fr hp []:=fun a w s=>J.nrm hrd a w (h a w s)
theorem SimR.tobox (s:SimR J nx ρ fr hp a w) {n b bt:Nat} {x:Bool} (hn:hp n = .objAt b (.cells #[.bool x] bt (0,0))):SimR J nx ρ fr (hp.set n (.box bt zs x)) a w:=by
  have hh:=s.hrel n;rw[hn] at hh;obtain⟨e,hb⟩:=hh;exact s.modify hn trivial trivial rfl rfl rfl rfl (fun _ _=>rfl) fun _=>⟨b,[.bool x],e,hb,rfl,trivial⟩
theorem SimR.toobj (s:SimR J nx ρ fr hp a w) {n bt:Nat} {x:Bool} (hn:hp n = .box bt zs x):∃b,ρ n = .pointer (some ⟨b,0,none⟩)∧SimR J nx ρ fr (hp.set n (.objAt b (.cells #[.bool x] bt (0,0)))) a w:=by
  have hh:=s.hrel n;rw[hn] at hh;obtain⟨b,cs,e,hb,hr,_⟩:=hh;subst hr;exact⟨b,e,s.modify hn trivial trivial rfl rfl rfl rfl (fun _ _=>rfl) fun _=>⟨e,hb⟩⟩
theorem opInD {J:Job} {o:Oper} {a:Act} {w:World} {K:Act→World→Prop} {Q:Exit→Act→World→Prop} (hrd:J.rd=none) {d:Deferred} (hex:(execOp a.eval o).run J.P w = .ok (.defer d) w) (ha:o.about J.P w a.eval=none)
    (h:K ({ a with defers:=d::a.defers }.put o.dst undef) w):o.wpIn J.F 0 J.P a w K Q:=by
  refine⟨fun f hf=>(by rw[ha] at hf;cases hf),?_⟩;have e:J.F.round=none:=hrd;rw[e,Oper.semAt_none,hex];exact h
theorem zwA {y : Operand} {ts : Array TypeId} {f : FuncId} {n bt : Nat} {x : Bool} (ho : o.op = .defer { callee := .value y, args := #[], argTypes := ts }) (hd : o.dst = none) (hg : o.guard = none) (hy : fr.ev y = .clo f [n]) (hn : hp n = .box bt zs x) (hds : J.ds = []) (hrd : J.rd = none)
    (H:∀b,AW (J.withDs [dOf f b]) nx fr (hp.set n (.objAt b (.cells #[.bool x] bt (0,0)))) (.ops ops rest::k)):AW J nx fr hp (.ops ops (o::rest)::k):=by
  intro a w ⟨ρ,s⟩;have hv:=zao s y;rw[hy] at hv;obtain⟨b,e,s'⟩:=s.toobj hn;have hv:a.eval y = .func (.func f) #[] #[.pointer (some ⟨b,0,none⟩)]:=by
    have hv:a.eval y = .func (.func f) #[] ([n].map ρ).toArray:=hv;rw[hv,List.map_cons,List.map_nil,e]
  refine wpListIn_plain hg fun K hK=>?_;refine opInD hrd (d:=dOf f b) ?_ ?_ ?_
  · unfold execOp;rw[ho]
    simp[resolve,hv,Deferred.ofValue,Sem.run_bind,dOf]
  · unfold Oper.about;rw[ho]
  rw[hd];refine hK _ _ ?_;have h2:=H b { a with defers:=[dOf f b] } w ⟨ρ,SimR.job s'.toSimH yag s'.ble s'.size rfl s'.frel s'.fnx s'.brel⟩;rw[ziO] at h2;have e2:({ a with defers:=dOf f b::a.defers }:Act) = { a with defers:=[dOf f b] }:=by rw[s.defers,hds]
  show Kont J (.ops ops rest::k) .normal ({ a with defers:=dOf f b::a.defers }:Act) w;rw[e2];exact h2
theorem zqh {t:TypeId} {x y:Operand} {n b bt:Nat} {v z:Bool} (ho:o.op = .store t x y) (hd:o.dst=none) (hg:o.guard=none) (hx:fr.ev x = .ptr n 0) (hn:hp n = .objAt b (.cells #[.bool v] bt (0,0)))
    (ht:tyB J.P t zs.size zs.agg=true) (hy:fr.ev y = .val zs z) (H:AW J nx fr (hp.set n (.objAt b (.cells #[.bool z] bt (0,0)))) (.ops ops rest::k)):AW J nx fr hp (.ops ops (o::rest)::k):=by
  intro a w ⟨ρ,s⟩;refine z6 hg yt fun K hK=>?_
  have h:=zao s x;have h':=zao s y;rw[hx] at h;rw[hy] at h';obtain⟨g,e1,e2⟩:=h;have hh:=s.hrel n;rw[hn] at hh;obtain⟨e3,hgc⟩:=hh;obtain rfl:g=b:=ycn;have hz:a.eval y = .bool z:=zbs.1 h';have hrun:=zdW (w:=w) (off:=0) (v:=a.eval y) ht (by rw[hz];rfl) (by rw[hz];intro u hu;simp[Value.cells] at hu;subst hu;rfl) hgc (by show 0+1≤1;omega);have hw:(w.setRow g ((#[Value.bool v]:Array Value).toList.take 0++(a.eval y).cells.toList++(#[Value.bool v]:Array Value).toList.drop (0+zs.size)).toArray)=w.setRow g #[.bool z]:=by rw[hz];rfl
  rw[hw] at hrun;have hex:(execOp a.eval o).run J.P w = .ok .skip (w.setRow g #[.bool z]):=by
    unfold execOp;rw[ho];simp only[e2,Instr.storeAt,Instr.sureAddr,Sem.run_bind,Sem.run_pure,Result.andThen_ok,hrun]
  unfold Oper.wp;rw[hex,Oper.upon_skip,hd];refine hK _ _ ?_;refine H _ _ ⟨ρ,s.modify hn trivial trivial yw rfl rfl rfl (fun b hb=>setRow_other w g b _ (fun e=>hb yaO)) fun kp=>⟨e1,setRow_heap w g _ _ bt (0,0) hgc⟩⟩
theorem zpt {P:Program} {f:FuncId} (hf:fnB P f=true) (vs:Array Value) (w:World):(invoke (.fn (.func f) vs) #[]).run P w = .ok (.enter f vs) w:=by
  obtain⟨fn,h1,h2,h3⟩:=zb0 hf
  have hne : fn.name ≠ "runtime.NumGoroutine" := by simpa using h3
  have hbn:fn.body≠none:=ycx;simp[invoke,callFunc,Sem.run_bind,h1,hne,hbn]
theorem znx {C:CallC} {fni:Func} {ds:List Deferred} (s:SimR ((C.job fni).withDs ds) nx ρ fr hp a w):SimR C.J nx ρ C.fr hp C.a w :=
  SimR.job s.toSimH yag (Nat.le_trans C.ok.hbn s.ble) C.ok.hsz C.ok.had (s.brel (C.fr,C.a) (List.mem_cons_self ..)) (fun t=>AV.under_mono s.ble (C.ok.hfr t)) fun p hp t=>s.brel p (List.mem_cons_of_mem _ hp) t
theorem zqi {C:CallC} {fni:Func} {f:FuncId} {t ty n b bt:Nat} {x:Bool} (hc:Catches C.J.P f bt pv) (hres:fni.results = #[.cell t ty]) (ht:fr t = .ptr n 0) (hn:hp n = .objAt b (.cells #[.bool x] bt (0,0))) (hty:tyB C.J.P ty zs.size zs.agg=true)
    (H:AW C.J nx (C.fr.set C.d (.val zs x)) (hp.set n (.box bt zs x)) C.k):AW ((C.job fni).withDs [dOf f b]) nx fr hp (.code .ret::k) :=
  zaX fun a w ⟨ρ,s⟩=>by
    show LeavesInM Fence.wide 0 C.J.P fni a.tmps C.R a.defers .returning w;rw[s.defers];refine⟨by simp,.inr ⟨fun h=>(by cases h),_,_,f,_,rfl,zpt hc.fn _ w,fun _ _=>trivial,?_⟩⟩;refine(hc.idle b w).mono fun e u w' ⟨h1,h2,h3⟩=>?_
    subst h1;subst h2;subst h3;have s':=s.tobox hn;obtain⟨v,h4,h5⟩:=zmE s' hres ht (by rw[zk,ut rfl]) hty;exact⟨v,h4,H _ _ ⟨ρ,(znx s').put C.ok.hlt h5 trivial⟩⟩
theorem ap_fine {C:CallC} {fni:Func} {f:FuncId} {t ty n b bt:Nat} {x:Bool} (hc:Catches C.J.P f bt pv) (hres:fni.results = #[.cell t ty]) (ht:fr t = .ptr n 0) (hn:hp n = .objAt b (.cells #[.bool x] bt (0,0))) (hty:tyB C.J.P ty zs.size zs.agg=true)
    (H:AW C.J nx (C.fr.set C.d (.val zs false)) (hp.set n (.box bt zs false)) C.k):AP ((C.job fni).withDs [dOf f b]) nx fr hp pv:=fun a w ⟨ρ,s⟩=>by
  show LeavesInM Fence.wide 0 C.J.P fni a.tmps C.R a.defers (.panicking [{ v:=pv,recovered:=false }]) w;rw[s.defers];refine⟨by simp,.inr ⟨fun h=>(by cases h),_,_,f,_,rfl,zpt hc.fn _ w,fun _ _=>trivial,?_⟩⟩;refine(hc.caught b w x (s.getObj hn)).mono fun e u w' ⟨h1,h2,h3⟩=>?_
  subst h1;subst h2;subst h3;have s1:=(s.putObj (o':=.cells #[.bool false] bt (0,0)) hn).2;have s':=s1.tobox (n:=n) (b:=b) (bt:=bt) (x:=false) (by rw[zk,ut rfl]);have e2:((hp.set n (.objAt b (.cells #[.bool false] bt (0,0)))).set n (.box bt zs false))=hp.set n (.box bt zs false):=by
    funext m
    rw[zk,zk,zk];by_cases c:m=n
    · rw[ut c,ut c]
    rw[ur c,ur c,ur c]
  rw[e2] at s';obtain⟨v,h4,h5⟩:=zmE s' hres ht (by rw[zk,ut rfl]) hty;exact⟨v,h4,H _ _ ⟨ρ,(znx s').put C.ok.hlt h5 trivial⟩⟩
end
end Go.Ab
namespace Go.Ab
open Go.RowKit
section
variable {J:Job} {nx:Nat} {ρ:Nat→Value} {fr:Fr} {hp:Hp} {a:Act} {w w':World} {k:List It} {ops:Array Oper} {rest:List Oper} {o:Oper}
variable {α:Type} {T:GoT α}
theorem g_s2a {arr n:Nat} (e:Nat) {b:Bool} {x:Operand} {l:List α} (hn:0<n) (ho:o.op = .sliceToArrayPointer arr x) (hx:fr.ev x = .val (slT b T) l) (hu:J.P.underlying arr=some (.array n e)) (hl:l.length=n):OpG J o fr hp (.rptr (arrT n hn T) l):=by
  refine .of_run (fun {_ _ _ w} s hr _=>?_) (fun _ _=>trivial);have h:=hr x yl;rw[hx] at h;obtain⟨ad,cap,hv,h1,h2,h3⟩:=zik h;obtain⟨ad,ds,rfl,hU,hrel,hcell⟩:=h3 (by intro e;rw[e] at hl;simp at hl;omega);refine⟨.pointer (some ad),?_,ad,rfl,?_,?_⟩
  · unfold execOp;rw[ho]
    have:¬l.length<n:=ya
    simp[hv,Instr.arrayAt,Sem.run_bind,run_underlying hu,this]
  · cases b
    · exact fun hn=>hU (s.sub _ hn)
    exact hU
  exact⟨ds,⟨hl,hrel⟩,hcell⟩
end
end Go.Ab
namespace Go.Ab
open Go.RowKit
section
variable {J:Job} {nx:Nat} {ρ:Nat→Value} {fr:Fr} {hp:Hp} {a:Act} {w w':World} {k:List It} {ops:Array Oper} {rest:List Oper} {o:Oper}
theorem g_mb {y:Operand} {f:FuncId} {n:Nat} (ho:o.op = .move y∨o.op = .assign y) (hx:fr.ev y = .bnd f n):OpG J o fr hp (.bnd f n):=zgh ho hx
theorem g_mkbp {f:FuncId} {y:Operand} {n:Nat} (ho:o.op = .makeFunc (.func f) #[y] #[]) (hy:fr.ev y = .ptr n 0):OpG J o fr hp (.bnd f n):=by
  refine .of_run (fun {_ ρ a w} s hr _=>?_) (fun _ hn=>?_)
  · have h:=hr y yl
    rw[hy] at h;obtain⟨g,e1,e2⟩:=h;refine⟨.func (.func f) #[.pointer (some ⟨g,0,none⟩)] #[],?_,g,e1,rfl⟩;have e2:a.eval y = .pointer (some ⟨g,0,none⟩):=e2;unfold execOp;rw[ho];simp[Instr.makeFunc,Sem.run_bind,e2]
  have h:=hn y yl;rw[hy] at h;exact h
theorem run_callbv {x : Operand} {xs : Array Operand} {ts : Array TypeId} {f : FuncId} {p : Value} {fn : Func} (ho : o.op = .call { callee := .value x, args := xs, argTypes := ts }) (hx : a.eval x = .func (.func f) #[p] #[]) (hf : J.P.funcs[f]? = some fn) (hb : fn.body.isSome = true) (hnm : (fn.name == "runtime.NumGoroutine") = false) :
    (execOp a.eval o).run J.P w = .ok (.enter f (#[p]++xs.map a.eval)) w:=by
  unfold execOp;rw[ho];simp only[resolve,hx,Deferred.ofValue,Sem.run_bind,Sem.run_pure,Result.andThen_ok,invoke,callFunc]
  have hne : fn.name ≠ "runtime.NumGoroutine" := by simpa using hnm
  have hbn:fn.body≠none:=yco;simp[hf,hne,hbn]
theorem aw_inlineb {x : Operand} {f : FuncId} {n : Nat} {fni : Func} {c : Code} {xs : Array Operand} {ts : Array TypeId} {d : Nat} (ho : o.op = .call { callee := .value x, args := xs, argTypes := ts }) (hd : o.dst = some d) (hg : o.guard = none) (hlt : Nat.blt d J.nt = true)
    (hx:fr.ev x = .bnd f n) (hf:J.P.funcs[f]?=some fni) (hfb:fnB J.P f=true) (hb:fni.body=some c) (hn:Nat.ble (xs.size+1) fni.ntmps=true)
    (H:∀(a:Act) (ok:CallOk J nx fr a d),
      AW (CallC.job ⟨J,nx,fr,a,d,.ops ops rest::k,ok⟩ fni) nx (Fr.args 0 (.ptr n 0::xs.toList.map fr.ev) Fr.none) hp [.code c]) :
    AW J nx fr hp (.ops ops (o::rest)::k):=by
  intro a w ⟨ρ,s⟩;have hlt:d<J.nt:=yM;have hn:xs.size+1≤fni.ntmps:=ycr;refine z6 hg yt fun K hK=>?_
  obtain⟨fn',h1,h2,h3⟩:=zb0 hfb;have hv:=zao s x;rw[hx] at hv;obtain⟨g,eg,hv⟩:=hv;have hv:a.eval x = .func (.func f) #[.pointer (some ⟨g,0,none⟩)] #[]:=hv;have hux:n<nx:=by
    have:=zbB s.fnx x
    rw[hx] at this;exact this
  unfold Oper.wp;rw[run_callbv ho hv h1 h2 h3,Oper.upon_enter];have H:=H a ⟨s.size,s.defers,hlt,s.fnx,s.ble⟩;generalize hC:CallC.mk J nx fr a d (.ops ops rest::k) ⟨s.size,s.defers,hlt,s.fnx,s.ble⟩=C at H
  have hfr:=zei (P:=fun _ A v=>A.rel ρ J.B (Uu J ρ hp) (Nn ρ hp) w v∧A.under nx) (fun _ _=>⟨trivial,trivial⟩) (i:=0) (f:=Fr.none) (g:=fun _=>undef)
    (As:=.ptr n 0::xs.toList.map fr.ev) (vs:=.pointer (some ⟨g,0,none⟩)::xs.toList.map a.eval) yw
    (fun j A v e1 e2 _=>by
      cases j with
      | zero =>
        simp only[List.getElem?_cons_zero,Option.some.injEq] at e1 e2;subst e1;subst e2;exact⟨⟨g,eg,rfl⟩,hux⟩
      | succ j =>
        simp only[List.getElem?_cons_succ,List.getElem?_map,Option.map_eq_some_iff] at e1 e2;obtain⟨n,hn1,rfl⟩:=e1;obtain⟨m,hm1,rfl⟩:=e2;obtain rfl:n=m:=ycy;exact⟨zao s n,zbB s.fnx n⟩) (fun t=>⟨trivial,trivial⟩) (fun _ _=>rfl)
  have key:Calls J.P f (.pointer (some ⟨g,0,none⟩)::xs.toList.map a.eval).toArray w C.R:=by
    refine zeh hf hb ?_;have h4:=H { tmps:=(.pointer (some ⟨g,0,none⟩)::xs.toList.map a.eval).toArray++Array.replicate (fni.ntmps-(Value.pointer (some ⟨g,0,none⟩)::xs.toList.map a.eval).toArray.size) undef,defers:=[] } w ⟨ρ,SimR.job s.toSimH ybS (by subst hC;exact ug _) (by
      have e:(C.job fni).nt=fni.ntmps:=by subst hC;rfl
      rw[e];simp;omega) (by subst hC;rfl) (fun t=>by
        rw[zoU];have h1:=(hfr t).1;rw[ur (Nat.not_lt_zero t),Nat.sub_zero] at h1;exact h1) (fun t=>(hfr t).2) (fun p hp t=>by
        have hp:p∈(fr,a)::J.bg:=by subst hC;exact hp
        rcases List.mem_cons.1 hp with e|hp
        · rw[e];exact s.frel t
        exact s.brel p hp t)⟩
    subst hC;exact h4
  have e:(Value.pointer (some ⟨g,0,none⟩)::xs.toList.map a.eval).toArray = #[Value.pointer (some ⟨g,0,none⟩)]++xs.map a.eval:=ycp;rw[e] at key;refine Calls.mono key fun en w' he=>?_
  cases en with
  | returned v =>
    rw[hd];subst hC;exact hK _ _ he
  | panicked c=>subst hC;exact he
  | outgrown=>exact he.elim
theorem zvq {B U N:Nat→Prop} {e:Operand→Value}:∀{ys:List Operand},(∀y∈ys,(fr.ev y).rel ρ B U N w (e y))→(∀y∈ys,(e y).oneCell'=true∧(e y).cells.size=1)→((ys.map fr.ev).all fun x=>Nat.beq x.cells 1)=true→AV.relL ρ B U N w (ys.map fr.ev) (ys.map e)
  | [],_,_,_=>rfl
  | y::ys,h,h1,hc=>by
    simp only[List.map_cons,List.all_cons,uk] at hc;have h2:=h1 y (List.mem_cons_self ..);refine⟨e y,ys.map e,rfl,h y (List.mem_cons_self ..),h2.2.trans (Nat.eq_of_beq_eq_true hc.1).symm,fun u hu=>?_,zvq (fun z hz=>h z (List.mem_cons_of_mem _ hz)) (fun z hz=>h1 z (List.mem_cons_of_mem _ hz)) hc.2⟩;rw[zeD h2.1 h2.2] at hu;simp at hu;rw[hu];exact h2.1
theorem zwh {e:Operand→Value}:∀{ys:List Operand},(∀y∈ys,(e y).oneCell'=true∧(e y).cells.size=1)→flatV (ys.map e)=ys.map e
  | [],_=>rfl
  | y::ys,h=>by
    have h2:=h y (List.mem_cons_self ..);rw[List.map_cons,flatV,List.flatMap_cons,zeD h2.1 h2.2];exact congrArg (e y :: ·) (zwh fun z hz=>h z (List.mem_cons_of_mem _ hz))
theorem zuG {o2:Oper} {ty d1 d2:Nat} {ps:Array (Nat×Operand)} (ys:List Operand) (hrun:∀(e:Operand→Value) (w:World),(∀y∈ys,(e y).oneCell'=true∧(e y).cells.size=1)→(execOp e o).run J.P w = .ok (.value (.agg (ys.map e).toArray)) w)
    (ho:o.op = .build ty ps) (hd1:o.dst=some d1) (hg1:o.guard=none) (hlt1:Nat.blt d1 J.nt=true) (ho2:o2.op = .box ty (.tmp d1)) (hd2:o2.dst=some d2) (hg2:o2.guard=none) (hlt2:Nat.blt d2 J.nt=true)
    (hone:((ys.map fr.ev).all fun x=>x.isOne hp&&Nat.beq x.cells 1)=true)
    (H:AW J (nx+1) ((fr.set d1 .idk).set d2 (.ptr nx 0)) (hp.set nx (.parts ty (ys.map fr.ev))) (.ops ops rest::k)):AW J nx fr hp (.ops ops (o::o2::rest)::k):=by
  intro a w ⟨ρ,s⟩;have hone':∀y∈ys,(fr.ev y).isOne hp=true∧Nat.beq (fr.ev y).cells 1=true:=fun y hy=>by
    have:=List.all_eq_true.1 hone _ (List.mem_map_of_mem hy)
    simpa [uk] using this
  have hcs:((ys.map fr.ev).all fun x=>Nat.beq x.cells 1)=true:=List.all_eq_true.2 fun x hx=>by
    obtain⟨y,hy,rfl⟩:=List.mem_map.1 hx;exact(hone' y hy).2
  have h1:∀y∈ys,(a.eval y).oneCell'=true∧(a.eval y).cells.size=1:=fun y hy=>zvB s.toSimH (hone' y hy).1 (zao s y)
  refine z6 hg1 yt fun K hK=>?_
  unfold Oper.wp;rw[hrun a.eval w h1,Oper.upon_value,hd1];refine hK _ _ ?_;have s1:=s.put (x:=.idk) (v:=.agg (ys.map a.eval).toArray) (by simpa using hlt1) trivial trivial;have he:(a.put (some d1) (.agg (ys.map a.eval).toArray)).eval (.tmp d1) = .agg (ys.map a.eval).toArray:=by
    have hsz:d1<a.tmps.size:=by rw[s.size];simpa using hlt1
    simp[Act.put,Act.eval,hsz]
  refine z6 hg2 (by intro c hc;rw[ho2] at hc;cases hc) fun K' hK'=>?_
  have hrun2:(execOp (a.put (some d1) (.agg (ys.map a.eval).toArray)).eval o2).run J.P w = .ok (.value (.pointer (some ⟨w.heap.size,0,none⟩))) (w.alloc (.cells (ys.map a.eval).toArray ty)):=by
    unfold execOp;rw[ho2];simp only[he];simp[Instr.box,Sem.run_bind,newVar,newRow,newObj,Sem.run,Value.cells]
  unfold Oper.wp;rw[hrun2,Oper.upon_value,hd2]
  refine hK' _ _ (H _ _ ⟨_,(s1.bind (p:=.pointer (some ⟨w.heap.size,0,none⟩)) (x:=.parts ty (ys.map fr.ev)) (zby _ _) (fun b e=>by simp only[zaV,Option.some.injEq] at e;subst e;exact⟨ug _,by simp⟩)
    (fun kp=>⟨w.heap.size,ys.map a.eval,rfl,by have hf:=zwh (ys:=ys) h1;unfold flatV at hf;rw[hf];exact heap_alloc_new w _,zvq (fun y hy=>AV.rel_ren (nx:=nx) (fun n hn=>by unfold ren;rw[ur ya]) (zbB s.fnx y) (AV.rel_mono kp (zbB s.fnx y) (zao s y))) h1 hcs⟩)
    (fun x hx=>by obtain⟨y,hy,rfl⟩:=List.mem_map.1 hx;exact AV.under_mono (Nat.le_succ nx) (zbB s.fnx y))).put (by simpa using hlt2) ⟨w.heap.size,by unfold ren;simp,rfl⟩ (Nat.lt_succ_self nx)⟩)
theorem zju (n:Nat) {ty:Nat} {xs:List AV} (ys:List AV) (h:hp n = .parts ty xs) (e:xs=ys) (H:AW J nx fr (hp.set n (.parts ty ys)) k):AW J nx fr hp k:=by
  subst e;have e2:hp.set n (.parts ty xs)=hp:=by
    funext m
    rw[zk];by_cases c:m=n
    · rw[ut c,c,h]
    rw[ur c]
  rwa [e2] at H
theorem run_build4 {P:Program} {t:TypeId} {y0 y1 y2 y3:Operand} {z0 z1 z2 z3:Value} (hz:∀w:World,(zeroValue t).run P w = .ok (.agg #[z0,z1,z2,z3]) w) (hall:(match P.underlying t with|some (.struct fs)=>fs.all fun f=>(P.info? f.type).isSome|_=>false)=true)
    (hpl:(match P.underlying t with|some (.struct fs)=>fs.map fun f=>(f.offset,P.cellsOf f.type)|_=>#[]) = #[(0,1),(1,1),(2,1),(3,1)]) (ho:o.op = .build t #[(0,y0),(1,y1),(2,y2),(3,y3)])
    (e:Operand→Value) (w:World) (h:∀y∈[y0,y1,y2,y3],(e y).oneCell'=true∧(e y).cells.size=1):(execOp e o).run P w = .ok (.value (.agg ([y0,y1,y2,y3].map e).toArray)) w:=by
  have hc:∀y∈[y0,y1,y2,y3],(e y).cells = #[e y]:=fun y hy=>by
    have:=zeD (h y hy).1 (h y hy).2
    apply Array.ext';simpa using this
  have h0:=hc y0 yw;have h1:=hc y1 yw;have h2:=hc y2 yw;have h3:=hc y3 yw;cases hu:P.underlying t with
  | none=>simp[hu] at hall
  | some d =>
    cases d<;>simp[hu] at hall;rename_i fs;rw[hu] at hpl;have hpl:fs.map (fun f=>(f.offset,P.cellsOf f.type)) = #[(0,1),(1,1),(2,1),(3,1)]:=hpl;have hpl2:=zlp (P:=P) (w:=w) fs.toList (fun f hf=>by
      obtain⟨i,hi,rfl⟩:=List.getElem_of_mem hf
      have:=hall i ybG
      simp only[Array.getElem_toList];exact Option.isSome_iff_exists.1 this)
    have hpl':(fs.mapM (m:=Sem) fun f=>do pure (f.offset,←sizeOf f.type)).run P w = .ok #[(0,1),(1,1),(2,1),(3,1)] w:=by
      rw[Array.mapM_eq_mapM_toList,Sem.run_map,hpl2]
      have:(fs.toList.map fun f=>(f.offset,P.cellsOf f.type)).toArray=fs.map fun f=>(f.offset,P.cellsOf f.type):=ycp
      simp only[Result.andThen_ok,this,hpl]
    have hfill:Instr.fill ((#[(0,1),(1,1),(2,1),(3,1)]:Array (Nat×Nat))[·]?) #[z0,z1,z2,z3] [(0,e y0),(1,e y1),(2,e y2),(3,e y3)]=some #[e y0,e y1,e y2,e y3]:=by
      simp[Instr.fill,h0,h1,h2,h3]
    have key:(Instr.build t #[(0,e y0),(1,e y1),(2,e y2),(3,e y3)]).run P w = .ok (.agg #[e y0,e y1,e y2,e y3]) w:=by
      simp only[Instr.build,Sem.run_bind,hz,Result.andThen_ok,run_underlying hu,hpl',Value.cells,hfill,Sem.run_pure]
    unfold execOp;rw[ho];simp[key,Sem.run_bind]
theorem g_ia_s {t e n lo len sz:Nat} {x y:Operand} {j:Int} {i:Nat} (ho:o.op = .indexAddr t x y) (hx:fr.ev x = .osub n sz lo len) (hy:fr.ev y = .val i64T j) (hj:j=(i:Int)) (hs:sliceB J.P t e sz=true) (hi:i<len):OpG J o fr hp (.eptr n (lo+i) sz 0):=by
  subst hj;refine .of_run (fun {_ _ _ w} s hr _=>?_) (fun h hn=>by have:=hn x yl;rw[hx] at this;exact this);have h:=hr x yl;have h':=hr y yl;rw[hx] at h;rw[hy] at h';obtain⟨g,L,cap,e1,hc,e2⟩:=h;rw[ur ya] at e2;obtain⟨hs1,hs2,_⟩:=za8 hs w;have e3:((⟨g,0,none⟩:Addr).add (lo*sz)).add (i*sz)=(⟨g,0,none⟩:Addr).add ((lo+i)*sz+0):=by
    rw[zbT,Nat.add_mul,Nat.add_zero]
  refine⟨.pointer (some (((⟨g,0,none⟩:Addr).add (lo*sz)).add (i*sz))),?_,g,L,cap,e1,by rw[e3]⟩;have e2:_=_:=e2;unfold execOp;rw[ho];have hlt:(i:Int)<(len:Int):=ya;simp[Instr.indexAt,asIntOf,Sem.run_bind,run_underlying hs1,e2,(zV.1 h').1,hlt,hs2,hi]
end
end Go.Ab
set_option maxRecDepth 100000
namespace Go.Proofs.YtjjlfapfjjkomaaGreat
open Go.Ab
noncomputable abbrev P:Program:=Go.Proofs.Tryz.prog
theorem ty_3:tyB P 3 1 false=true:=yv
theorem ui_3:P.underlying 3=some (.int .i64):=yv
theorem us_3:(P.underlying 3).isSome=true:=yv
theorem ze_3:za7 P 3 i64T 0:=zhf zda yv
theorem ty_4:tyB P 4 1 false=true:=yv
theorem ze_4:za7 P 4 zs false:=zhf zero_bool yv
theorem ty_5:tyB P 5 1 false=true:=yv
theorem ui_5:P.underlying 5=some (.int .u8):=yv
theorem us_5:(P.underlying 5).isSome=true:=yv
theorem ze_5:za7 P 5 u8T 0:=zhf zero_u8 yv
theorem st_9:P.underlying 9=some .string:=yv
theorem ty_22:tyB P 22 1 false=true:=yv
theorem zsu:rowB P 22 58 137 232=true:=yv
theorem zf6:sliceB P 22 58 137=true:=yv
theorem zpP:(match P.underlying 22 with|some (.slice _)=>true|_=>false)=true:=yv
theorem zhi:tyB P 23 1 false=true:=yv
theorem znG:rowB P 23 55 136 208=true:=yv
theorem zkr:sliceB P 23 55 136=true:=yv
theorem zdN:(match P.underlying 23 with|some (.slice _)=>true|_=>false)=true:=yv
theorem zbD:tyB P 25 3 true=true:=yv
theorem zdi:(match P.underlying 25 with|some (.struct fs)=>fs.all fun f=>(P.info? f.type).isSome|_=>false)=true:=yv
theorem zcQ:fieldB P 25 0 0 3=true:=yv
theorem zey:fieldB P 25 1 1 3=true:=yv
theorem zcC:fieldB P 25 2 2 23=true:=yv
theorem zdH:za7 P 25 zax zdI:=zau zpe yv
theorem zhK:tyB P 26 1 false=true:=yv
theorem zaE:rowB P 26 5 1 1=true:=yv
theorem zb4:sliceB P 26 5 1=true:=yv
theorem zed:(match P.underlying 26 with|some (.slice _)=>true|_=>false)=true:=yv
theorem ze_26:za7 P 26 (sl u8T) []:=zhf zeS yv
theorem zgA:tyB P 41 1 false=true:=yv
theorem zeQ:rowB P 41 3 1 8=true:=yv
theorem zba:sliceB P 41 3 1=true:=yv
theorem zdc:(match P.underlying 41 with|some (.slice _)=>true|_=>false)=true:=yv
theorem zab:tyB P 46 32 true=true:=yv
theorem zfj:arrB P 46 32 5 1=true:=yv
theorem ztN:za7 P 46 idT zId:=zau ziw yv
theorem za9:tyB P 47 1 false=true:=yv
theorem zlk:P.underlying 47=some (.int .u64):=yv
theorem zqs:(P.underlying 47).isSome=true:=yv
theorem zal:tyB P 49 4 true=true:=yv
theorem zbf:arrB P 49 4 47 1=true:=yv
theorem ziy:za7 P 49 z7 zaP:=zau znb yv
theorem zbp:tyB P 50 1 false=true:=yv
theorem ui_50:P.underlying 50=some (.int .u32):=yv
theorem znk:(P.underlying 50).isSome=true:=yv
theorem zaM:tyB P 52 135 true=true:=yv
theorem zpc:(match P.underlying 52 with|some (.struct fs)=>fs.all fun f=>(P.info? f.type).isSome|_=>false)=true:=yv
theorem zc9:fieldB P 52 0 0 3=true:=yv
theorem zfv:fieldB P 52 1 1 46=true:=yv
theorem zex:fieldB P 52 2 33 46=true:=yv
theorem zfu:fieldB P 52 3 65 46=true:=yv
theorem zft:fieldB P 52 4 97 46=true:=yv
theorem zg7:fieldB P 52 5 129 49=true:=yv
theorem zce:fieldB P 52 6 133 50=true:=yv
theorem zfs:fieldB P 52 7 134 47=true:=yv
theorem znd:za7 P 52 zbx zmp:=zau zix yv
theorem zcG:tyB P 53 1 false=true:=yv
theorem zeP:rowB P 53 46 32 32=true:=yv
theorem zek:sliceB P 53 46 32=true:=yv
theorem zhx:(match P.underlying 53 with|some (.slice _)=>true|_=>false)=true:=yv
theorem ziA:tyB P 55 136 true=true:=yv
theorem zrD:(match P.underlying 55 with|some (.struct fs)=>fs.all fun f=>(P.info? f.type).isSome|_=>false)=true:=yv
theorem zew:fieldB P 55 0 0 52=true:=yv
theorem zcP:fieldB P 55 1 135 53=true:=yv
theorem zlf:za7 P 55 zbL zPart:=zau zero_Part yv
theorem znn:tyB P 56 1 false=true:=yv
theorem zvi:rowB P 56 133 2 48=true:=yv
theorem zkq:sliceB P 56 133 2=true:=yv
theorem isl_56:(match P.underlying 56 with|some (.slice _)=>true|_=>false)=true:=yv
theorem zdJ:tyB P 58 137 true=true:=yv
theorem bd_58:(match P.underlying 58 with|some (.struct fs)=>fs.all fun f=>(P.info? f.type).isSome|_=>false)=true:=yv
theorem zaR:fieldB P 58 0 0 52=true:=yv
theorem zcO:fieldB P 58 1 135 53=true:=yv
theorem zgn:fieldB P 58 2 136 56=true:=yv
theorem znc:za7 P 58 zU zrV:=zau zle yv
theorem zmq:tyB P 62 1 false=true:=yv
theorem zgK:rowB P 62 164 37 72=true:=yv
theorem zfK:sliceB P 62 164 37=true:=yv
theorem zgS:(match P.underlying 62 with|some (.slice _)=>true|_=>false)=true:=yv
theorem zki:tyB P 63 1 false=true:=yv
theorem zgJ:rowB P 63 228 35 56=true:=yv
theorem zfo:sliceB P 63 228 35=true:=yv
theorem zod:(match P.underlying 63 with|some (.slice _)=>true|_=>false)=true:=yv
theorem zbt:tyB P 65 139 true=true:=yv
theorem zk4:(match P.underlying 65 with|some (.struct fs)=>fs.all fun f=>(P.info? f.type).isSome|_=>false)=true:=yv
theorem zfr:fieldB P 65 0 0 58=true:=yv
theorem zg6:fieldB P 65 1 137 62=true:=yv
theorem zlN:fieldB P 65 2 138 63=true:=yv
theorem zjA:za7 P 65 tipT zTip:=zau zuQ yv
theorem bd_82:(match P.underlying 82 with|some (.struct fs)=>fs.all fun f=>(P.info? f.type).isSome|_=>false)=true:=yv
theorem zun:fieldB P 82 0 0 22=true:=yv
theorem zoz:fieldB P 82 1 1 3=true:=yv
theorem zoy:fieldB P 82 2 2 3=true:=yv
theorem zlM:fieldB P 82 3 3 41=true:=yv
theorem zlL:fieldB P 82 4 4 41=true:=yv
theorem zr3:tyB P 84 1 false=true:=yv
theorem zp_84:(P.info? 84).bind (·.zero)=some (.pointer none):=yv
theorem bd_86:(match P.underlying 86 with|some (.struct fs)=>fs.all fun f=>(P.info? f.type).isSome|_=>false)=true:=yv
theorem zd5:fieldB P 86 0 0 25=true:=yv
theorem ze_86:za7 P 86 paperT zPaper:=zau zero_Paper yv
theorem zqt:tyB P 89 1 false=true:=yv
theorem ze6:rowB P 89 26 1 24=true:=yv
theorem zfJ:sliceB P 89 26 1=true:=yv
theorem isl_89:(match P.underlying 89 with|some (.slice _)=>true|_=>false)=true:=yv
theorem zno:tyB P 102 1 false=true:=yv
theorem zp_102:(P.info? 102).bind (·.zero)=some (.map none):=yv
theorem mp_102:P.underlying 102=some (.map 3 104):=yv
theorem zu_104:(P.info? 104).bind (·.zero)=some (.agg #[]):=yv
theorem su_104:P.underlying 104=some (.struct #[]):=yv
theorem zfz:tyB P 130 1 false=true:=yv
theorem row_130:rowB P 130 218 33 40=true:=yv
theorem ze5:sliceB P 130 218 33=true:=yv
theorem zgf:(match P.underlying 130 with|some (.slice _)=>true|_=>false)=true:=yv
theorem zeO:tyB P 131 1 false=true:=yv
theorem row_131:rowB P 131 221 2 16=true:=yv
theorem zf7:sliceB P 131 221 2=true:=yv
theorem ziP:(match P.underlying 131 with|some (.slice _)=>true|_=>false)=true:=yv
theorem zfy:tyB P 133 2 true=true:=yv
theorem bd_133:(match P.underlying 133 with|some (.struct fs)=>fs.all fun f=>(P.info? f.type).isSome|_=>false)=true:=yv
theorem zcy:fieldB P 133 0 0 130=true:=yv
theorem zcb:fieldB P 133 1 1 131=true:=yv
theorem zrU:za7 P 133 txT zTx:=zau zero_Tx yv
theorem zr2:P.underlying 135=some (.int .u64):=yv
theorem zuX:(P.underlying 135).isSome=true:=yv
theorem fd_141_0:fieldB P 141 0 0 41=true:=yv
theorem zrt:fieldB P 141 1 1 3=true:=yv
theorem zrs:fieldB P 141 2 2 3=true:=yv
theorem zwn:fieldB P 141 3 3 41=true:=yv
theorem zu_145:(P.info? 145).bind (·.zero)=some (.agg #[]):=yv
theorem su_145:P.underlying 145=some (.struct #[]):=yv
theorem zbq:tyB P 164 37 true=true:=yv
theorem zqe:(match P.underlying 164 with|some (.struct fs)=>fs.all fun f=>(P.info? f.type).isSome|_=>false)=true:=yv
theorem zdZ:fieldB P 164 0 0 46=true:=yv
theorem zic:fieldB P 164 1 32 49=true:=yv
theorem zde:fieldB P 164 2 36 3=true:=yv
theorem zlX:za7 P 164 zaC zuT:=zau zero_Total yv
theorem bd_173:(match P.underlying 173 with|some (.struct fs)=>fs.all fun f=>(P.info? f.type).isSome|_=>false)=true:=yv
theorem zm0:fieldB P 173 0 0 65=true:=yv
theorem zib:fieldB P 173 1 139 58=true:=yv
theorem zkT:fieldB P 173 2 276 52=true:=yv
theorem zwm:fieldB P 173 3 411 63=true:=yv
theorem ze_173:za7 P 173 ze3 zTrial:=zau zero_Trial yv
theorem ty_174:tyB P 174 1 false=true:=yv
theorem ty_175:tyB P 175 6 true=true:=yv
theorem ar_175:arrB P 175 6 174 1=true:=yv
theorem ze_175:za7 P 175 (arrT 6 yn fnoT) (List.replicate 6 none):=zau (zjc yn zero_fno) yv
theorem row_177:rowB P 177 174 1 8=true:=yv
theorem sl_177:sliceB P 177 174 1=true:=yv
theorem isl_177:(match P.underlying 177 with|some (.slice _)=>true|_=>false)=true:=yv
theorem bd_195:(match P.underlying 195 with|some (.struct fs)=>fs.all fun f=>(P.info? f.type).isSome|_=>false)=true:=yv
theorem zmZ:fieldB P 195 0 0 26=true:=yv
theorem ze_195:za7 P 195 zt3 zReader:=zau ztM yv
theorem zcc:tyB P 218 33 true=true:=yv
theorem bd_218:(match P.underlying 218 with|some (.struct fs)=>fs.all fun f=>(P.info? f.type).isSome|_=>false)=true:=yv
theorem zdd:fieldB P 218 0 0 46=true:=yv
theorem zb1:fieldB P 218 1 32 3=true:=yv
theorem ze_218:za7 P 218 inT zIn:=zau zero_In yv
theorem zf3:tyB P 221 2 true=true:=yv
theorem zcx:fieldB P 221 0 0 3=true:=yv
theorem zdz:fieldB P 221 1 1 3=true:=yv
theorem ze_221:za7 P 221 outT zOut:=zau zuR yv
theorem ze2:tyB P 228 35 true=true:=yv
theorem bd_228:(match P.underlying 228 with|some (.struct fs)=>fs.all fun f=>(P.info? f.type).isSome|_=>false)=true:=yv
theorem zbM:fieldB P 228 0 0 218=true:=yv
theorem zdY:fieldB P 228 1 33 221=true:=yv
theorem zrT:za7 P 228 zaz zCoin:=zau zero_Coin yv
theorem row_239:rowB P 239 41 1 24=true:=yv
theorem sl_239:sliceB P 239 41 1=true:=yv
theorem isl_239:(match P.underlying 239 with|some (.slice _)=>true|_=>false)=true:=yv
theorem zr4:tyB P 260 1 false=true:=yv
theorem zp_260:(P.info? 260).bind (·.zero)=some (.pointer none):=yv
theorem zu1:tyB P 262 8 true=true:=yv
theorem zej:arrB P 262 8 50 1=true:=yv
theorem ze_262:za7 P 262 (arrT 8 yn u32T) (List.replicate 8 0):=zau (zjc yn zql) yv
theorem ar_295:arrB P 295 2 46 32=true:=yv
theorem ze_295:za7 P 295 (arrT 2 yn idT) (List.replicate 2 zId):=zau (zjc yn ziw) yv
theorem ty_297:tyB P 297 64 true=true:=yv
theorem zla:arrB P 297 64 50 1=true:=yv
theorem zuS:za7 P 297 (arrT 64 yn u32T) (List.replicate 64 0):=zau (zjc yn zql) yv
theorem ziF:rowB P 322 50 1 4=true:=yv
theorem zbr:sliceB P 322 50 1=true:=yv
theorem row_332:rowB P 332 53 1 24=true:=yv
theorem sl_332:sliceB P 332 53 1=true:=yv
theorem isl_332:(match P.underlying 332 with|some (.slice _)=>true|_=>false)=true:=yv
theorem eqk_3 (d:Nat):EqOk P 3 i64T (d+1):=eq_int yv d
theorem ub_4:P.underlying 4=some .bool:=yv
theorem eqk_5 (d:Nat):EqOk P 5 u8T (d+1):=eq_u8 yv d
theorem zpY (d:Nat):EqOk P 46 idT (d+2):=eq_arr zfj ty_5 (eqk_5 d)
theorem zjH:EqTy P 46 idT:=⟨zpY 9998,rfl,by kernel_rfl⟩
theorem eqk_47 (d:Nat):EqOk P 47 u64T (d+1):=eq_u64 yv d
theorem eqk_49 (d:Nat):EqOk P 49 z7 (d+2):=eq_arr zbf za9 (eqk_47 d)
theorem zwo:EqTy P 49 z7:=⟨eqk_49 9998,rfl,by kernel_rfl⟩
theorem eqk_50 (d:Nat):EqOk P 50 u32T (d+1):=eq_u32 yv d
theorem eqk_52 (d:Nat):EqOk P 52 zbx (d+3):=zoB (n:=8) yv rfl (.cons zc9 zap ty_3 (eqk_3 (d+1)) (.cons zfv zb8 zab (zpY (d+0)) (.cons zex zbg zab (zpY (d+0)) (.cons zfu zcF zab (zpY (d+0)) (.cons zft zb9 zab (zpY (d+0)) (.cons zg7 zcT zal (eqk_49 (d+0)) (.cons zce zaq zbp (eqk_50 (d+1)) (.cons zfs zbK za9 (eqk_47 (d+1)) .nil)))))))) eqx_Head
theorem zpX:EqTy P 52 zbx:=⟨eqk_52 9997,rfl,by kernel_rfl⟩
theorem eqk_218 (d:Nat):EqOk P 218 inT (d+3):=zoB (n:=2) yv rfl (.cons zdd zeX zab (zpY (d+0)) (.cons zb1 zfn ty_3 (eqk_3 (d+1)) .nil)) eqx_In
theorem zoA:EqTy P 218 inT:=⟨eqk_218 9997,rfl,by kernel_rfl⟩
theorem eqk_221 (d:Nat):EqOk P 221 outT (d+2):=zoB (n:=2) yv rfl (.cons zcx zd7 ty_3 (eqk_3 (d+0)) (.cons zdz zeL ty_3 (eqk_3 (d+0)) .nil)) eqx_Out
theorem eqt_221:EqTy P 221 outT:=⟨eqk_221 9998,rfl,by kernel_rfl⟩
theorem fn_11:fnB P 11=true:=yv
theorem fn_12:fnB P 12=true:=yv
theorem fn_13:fnB P 13=true:=yv
theorem fn_14:fnB P 14=true:=yv
theorem fn_15:fnB P 15=true:=yv
theorem fn_16:fnB P 16=true:=yv
theorem fn_17:fnB P 17=true:=yv
theorem fn_18:fnB P 18=true:=yv
theorem fn_19:fnB P 19=true:=yv
theorem fn_20:fnB P 20=true:=yv
theorem fn_21:fnB P 21=true:=yv
theorem fn_22:fnB P 22=true:=yv
theorem fn_23:fnB P 23=true:=yv
theorem fn_24:fnB P 24=true:=yv
theorem fn_25:fnB P 25=true:=yv
theorem fn_26:fnB P 26=true:=yv
theorem fn_29:fnB P 29=true:=yv
theorem fn_30:fnB P 30=true:=yv
theorem fn_31:fnB P 31=true:=yv
theorem fn_32:fnB P 32=true:=yv
theorem fn_33:fnB P 33=true:=yv
theorem fn_34:fnB P 34=true:=yv
theorem fn_35:fnB P 35=true:=yv
theorem fn_36:fnB P 36=true:=yv
theorem fn_37:fnB P 37=true:=yv
theorem fn_38:fnB P 38=true:=yv
theorem fn_39:fnB P 39=true:=yv
theorem fn_40:fnB P 40=true:=yv
theorem fn_41:fnB P 41=true:=yv
theorem fn_42:fnB P 42=true:=yv
theorem fn_43:fnB P 43=true:=yv
theorem fn_44:fnB P 44=true:=yv
theorem fn_45:fnB P 45=true:=yv
theorem fn_46:fnB P 46=true:=yv
theorem fn_47:fnB P 47=true:=yv
theorem fn_48:fnB P 48=true:=yv
theorem fn_49:fnB P 49=true:=yv
theorem fn_50:fnB P 50=true:=yv
theorem fn_51:fnB P 51=true:=yv
theorem fn_52:fnB P 52=true:=yv
theorem fn_53:fnB P 53=true:=yv
theorem fn_54:fnB P 54=true:=yv
theorem fn_55:fnB P 55=true:=yv
theorem fn_56:fnB P 56=true:=yv
theorem fn_57:fnB P 57=true:=yv
theorem fn_58:fnB P 58=true:=yv
theorem fn_59:fnB P 59=true:=yv
theorem fn_60:fnB P 60=true:=yv
theorem fn_61:fnB P 61=true:=yv
theorem fn_62:fnB P 62=true:=yv
theorem fn_63:fnB P 63=true:=yv
theorem fn_64:fnB P 64=true:=yv
theorem fn_67:fnB P 67=true:=yv
theorem fn_71:fnB P 71=true:=yv
theorem fn_72:fnB P 72=true:=yv
theorem fn_73:fnB P 73=true:=yv
theorem fn_74:fnB P 74=true:=yv
theorem fn_75:fnB P 75=true:=yv
theorem fn_76:fnB P 76=true:=yv
theorem fn_77:fnB P 77=true:=yv
theorem fn_78:fnB P 78=true:=yv
theorem fn_79:fnB P 79=true:=yv
theorem fn_80:fnB P 80=true:=yv
theorem fn_81:fnB P 81=true:=yv
theorem fn_82:fnB P 82=true:=yv
theorem fn_83:fnB P 83=true:=yv
theorem fn_84:fnB P 84=true:=yv
theorem fn_85:fnB P 85=true:=yv
theorem fn_86:fnB P 86=true:=yv
theorem fn_87:fnB P 87=true:=yv
theorem fn_88:fnB P 88=true:=yv
theorem zgC:fnB P 89=true:=yv
theorem fn_90:fnB P 90=true:=yv
theorem fn_91:fnB P 91=true:=yv
theorem zuj:fnB P 92=true:=yv
theorem fn_93:fnB P 93=true:=yv
theorem fn_94:fnB P 94=true:=yv
theorem fn_95:fnB P 95=true:=yv
theorem fn_96:fnB P 96=true:=yv
theorem fn_97:fnB P 97=true:=yv
theorem fn_98:fnB P 98=true:=yv
theorem fn_99:fnB P 99=true:=yv
theorem fn_100:fnB P 100=true:=yv
theorem fn_101:fnB P 101=true:=yv
theorem fn_102:fnB P 102=true:=yv
theorem fn_103:fnB P 103=true:=yv
theorem fn_104:fnB P 104=true:=yv
theorem fn_105:fnB P 105=true:=yv
theorem fn_106:fnB P 106=true:=yv
theorem fn_107:fnB P 107=true:=yv
theorem fn_108:fnB P 108=true:=yv
theorem fn_109:fnB P 109=true:=yv
theorem fn_110:fnB P 110=true:=yv
theorem fn_111:fnB P 111=true:=yv
theorem fn_112:fnB P 112=true:=yv
theorem fn_113:fnB P 113=true:=yv
theorem fn_114:fnB P 114=true:=yv
theorem fn_115:fnB P 115=true:=yv
theorem fn_116:fnB P 116=true:=yv
theorem fn_117:fnB P 117=true:=yv
theorem fn_118:fnB P 118=true:=yv
theorem fn_119:fnB P 119=true:=yv
theorem fn_120:fnB P 120=true:=yv
theorem fn_121:fnB P 121=true:=yv
theorem fn_122:fnB P 122=true:=yv
theorem zwg:fnB P 123=true:=yv
theorem fn_125:fnB P 125=true:=yv
theorem fn_126:fnB P 126=true:=yv
theorem fn_127:fnB P 127=true:=yv
theorem fn_128:fnB P 128=true:=yv
theorem fn_129:fnB P 129=true:=yv
theorem fn_130:fnB P 130=true:=yv
theorem fn_131:fnB P 131=true:=yv
theorem fn_132:fnB P 132=true:=yv
theorem fn_133:fnB P 133=true:=yv
theorem fn_134:fnB P 134=true:=yv
theorem fn_135:fnB P 135=true:=yv
theorem fn_136:fnB P 136=true:=yv
theorem fn_137:fnB P 137=true:=yv
theorem fn_138:fnB P 138=true:=yv
theorem fn_139:fnB P 139=true:=yv
theorem zwf:fnB P 140=true:=yv
theorem fn_141:fnB P 141=true:=yv
theorem fn_142:fnB P 142=true:=yv
theorem zpV:fnB P 143=true:=yv
theorem zwe:fnB P 144=true:=yv
theorem fn_145:fnB P 145=true:=yv
theorem fn_146:fnB P 146=true:=yv
theorem fn_147:fnB P 147=true:=yv
theorem fn_148:fnB P 148=true:=yv
theorem ztb:fnB P 149=true:=yv
theorem fn_150:fnB P 150=true:=yv
theorem zta:fnB P 151=true:=yv
theorem fn_152:fnB P 152=true:=yv
theorem fn_153:fnB P 153=true:=yv
theorem fn_155:fnB P 155=true:=yv
theorem fn_156:fnB P 156=true:=yv
theorem fn_157:fnB P 157=true:=yv
theorem zwd:fnB P 158=true:=yv
theorem zwc:fnB P 159=true:=yv
theorem fn_160:fnB P 160=true:=yv
theorem fn_161:fnB P 161=true:=yv
theorem fn_162:fnB P 162=true:=yv
theorem zwb:fnB P 163=true:=yv
theorem fn_164:fnB P 164=true:=yv
theorem fn_165:fnB P 165=true:=yv
theorem fn_166:fnB P 166=true:=yv
theorem fn_167:fnB P 167=true:=yv
theorem fn_168:fnB P 168=true:=yv
theorem fn_169:fnB P 169=true:=yv
theorem fn_170:fnB P 170=true:=yv
theorem fn_171:fnB P 171=true:=yv
theorem fn_172:fnB P 172=true:=yv
theorem fn_173:fnB P 173=true:=yv
theorem zs9:fnB P 174=true:=yv
theorem fn_175:fnB P 175=true:=yv
theorem fn_177:fnB P 177=true:=yv
theorem fn_178:fnB P 178=true:=yv
theorem fn_179:fnB P 179=true:=yv
theorem fn_180:fnB P 180=true:=yv
theorem fn_181:fnB P 181=true:=yv
theorem fn_182:fnB P 182=true:=yv
theorem fn_183:fnB P 183=true:=yv
theorem fn_184:fnB P 184=true:=yv
theorem fn_185:fnB P 185=true:=yv
theorem fn_186:fnB P 186=true:=yv
theorem fn_187:fnB P 187=true:=yv
theorem fn_188:fnB P 188=true:=yv
theorem fn_189:fnB P 189=true:=yv
theorem fn_190:fnB P 190=true:=yv
theorem fn_191:fnB P 191=true:=yv
theorem fn_192:fnB P 192=true:=yv
theorem fn_193:fnB P 193=true:=yv
theorem fn_194:fnB P 194=true:=yv
theorem fn_195:fnB P 195=true:=yv
theorem fn_196:fnB P 196=true:=yv
theorem zpU:fnB P 197=true:=yv
theorem zwa:fnB P 198=true:=yv
theorem fn_199:fnB P 199=true:=yv
theorem zv9:fnB P 200=true:=yv
theorem fn_201:fnB P 201=true:=yv
theorem fn_202:fnB P 202=true:=yv
theorem fn_203:fnB P 203=true:=yv
theorem fn_204:fnB P 204=true:=yv
theorem zmh:fnB P 205=true:=yv
theorem fn_215:fnB P 215=true:=yv
theorem fn_216:fnB P 216=true:=yv
theorem fn_217:fnB P 217=true:=yv
theorem fn_218:fnB P 218=true:=yv
theorem fn_219:fnB P 219=true:=yv
theorem zv8:fnB P 220=true:=yv
theorem fn_221:fnB P 221=true:=yv
theorem fn_222:fnB P 222=true:=yv
theorem fn_223:fnB P 223=true:=yv
theorem fn_224:fnB P 224=true:=yv
theorem fn_225:fnB P 225=true:=yv
theorem fn_226:fnB P 226=true:=yv
theorem fn_227:fnB P 227=true:=yv
theorem fn_228:fnB P 228=true:=yv
theorem fn_229:fnB P 229=true:=yv
theorem fn_230:fnB P 230=true:=yv
theorem fn_231:fnB P 231=true:=yv
theorem fn_232:fnB P 232=true:=yv
theorem zmg:fnB P 233=true:=yv
theorem fn_234:fnB P 234=true:=yv
theorem fn_235:fnB P 235=true:=yv
theorem fn_236:fnB P 236=true:=yv
theorem fn_237:fnB P 237=true:=yv
theorem fn_238:fnB P 238=true:=yv
theorem fn_239:fnB P 239=true:=yv
theorem fn_241:fnB P 241=true:=yv
theorem zv7:fnB P 242=true:=yv
theorem fn_243:fnB P 243=true:=yv
theorem fn_244:fnB P 244=true:=yv
theorem fn_245:fnB P 245=true:=yv
theorem fn_246:fnB P 246=true:=yv
theorem fn_247:fnB P 247=true:=yv
theorem fn_248:fnB P 248=true:=yv
theorem fn_249:fnB P 249=true:=yv
theorem fn_250:fnB P 250=true:=yv
theorem fn_251:fnB P 251=true:=yv
theorem fn_252:fnB P 252=true:=yv
theorem fn_253:fnB P 253=true:=yv
theorem fn_254:fnB P 254=true:=yv
theorem zv6:fnB P 255=true:=yv
theorem fn_256:fnB P 256=true:=yv
theorem fn_257:fnB P 257=true:=yv
theorem zin:fnB P 258=true:=yv
theorem fn_259:fnB P 259=true:=yv
theorem zv5:fnB P 260=true:=yv
theorem fn_261:fnB P 261=true:=yv
theorem fn_262:fnB P 262=true:=yv
theorem fn_268:fnB P 268=true:=yv
theorem zv4:fnB P 269=true:=yv
theorem fn_270:fnB P 270=true:=yv
theorem fn_271:fnB P 271=true:=yv
theorem fn_272:fnB P 272=true:=yv
theorem fn_273:fnB P 273=true:=yv
theorem fn_274:fnB P 274=true:=yv
theorem fn_276:fnB P 276=true:=yv
theorem fn_277:fnB P 277=true:=yv
theorem fn_278:fnB P 278=true:=yv
theorem fn_279:fnB P 279=true:=yv
theorem zot:fnB P 280=true:=yv
theorem fn_281:fnB P 281=true:=yv
theorem fn_282:fnB P 282=true:=yv
theorem fn_283:fnB P 283=true:=yv
theorem fn_284:fnB P 284=true:=yv
theorem fn_285:fnB P 285=true:=yv
theorem fn_286:fnB P 286=true:=yv
theorem fn_287:fnB P 287=true:=yv
theorem fn_288:fnB P 288=true:=yv
theorem fn_289:fnB P 289=true:=yv
theorem fn_290:fnB P 290=true:=yv
theorem fn_291:fnB P 291=true:=yv
theorem fn_292:fnB P 292=true:=yv
theorem fn_293:fnB P 293=true:=yv
theorem fn_294:fnB P 294=true:=yv
theorem fn_295:fnB P 295=true:=yv
theorem fn_296:fnB P 296=true:=yv
theorem fn_297:fnB P 297=true:=yv
theorem fn_298:fnB P 298=true:=yv
theorem fn_299:fnB P 299=true:=yv
theorem fn_300:fnB P 300=true:=yv
theorem fn_301:fnB P 301=true:=yv
theorem fn_302:fnB P 302=true:=yv
theorem fn_303:fnB P 303=true:=yv
theorem fn_304:fnB P 304=true:=yv
theorem fn_305:fnB P 305=true:=yv
theorem fn_306:fnB P 306=true:=yv
theorem fn_308:fnB P 308=true:=yv
theorem fn_309:fnB P 309=true:=yv
theorem fn_310:fnB P 310=true:=yv
theorem fn_311:fnB P 311=true:=yv
theorem fn_312:fnB P 312=true:=yv
theorem fn_313:fnB P 313=true:=yv
theorem fn_314:fnB P 314=true:=yv
theorem fn_315:fnB P 315=true:=yv
theorem fn_316:fnB P 316=true:=yv
theorem fn_317:fnB P 317=true:=yv
theorem fn_318:fnB P 318=true:=yv
theorem fn_319:fnB P 319=true:=yv
theorem fn_320:fnB P 320=true:=yv
theorem fn_322:fnB P 322=true:=yv
theorem fn_323:fnB P 323=true:=yv
theorem fn_324:fnB P 324=true:=yv
theorem fn_325:fnB P 325=true:=yv
theorem zjG:fnB P 326=true:=yv
theorem fn_329:fnB P 329=true:=yv
theorem zv3:fnB P 339=true:=yv
theorem fn_340:fnB P 340=true:=yv
theorem mixed:P.follows .mixedOrders=true:=yv
structure Hid (C:Prop):Prop where
  out:C
section
variable {A C:Prop}
theorem qaa (h:C) (t:Hid C→A:=by intro h;refine A0 yah ?_;refine A0 ybR ?_;exact h.1):A:=t ⟨h⟩
theorem qab (h:C) (t:Hid C→A:=by intro h;refine A2 ?_;refine A2 ?_;refine A2 ?_;exact h.1):A:=t ⟨h⟩
theorem qac (h:C) (t:Hid C→A:=by intro h;refine A0 aV ?_;refine CN ?_;exact h.1):A:=t ⟨h⟩
theorem qad (h:C) (t:Hid C→A:=by intro h;refine A0 mV ?_;refine A0 mV ?_;exact h.1):A:=t ⟨h⟩
theorem qae (h:C) (t:Hid C→A:=by intro h;refine CQR ?_;refine xb ?_;exact h.1):A:=t ⟨h⟩
theorem qaf (h:C) (t:Hid C→A:=by intro h;refine A0 oK ?_;refine A0 mV ?_;exact h.1):A:=t ⟨h⟩
theorem qag (h:C) (t:Hid C→A:=by intro h;refine zg rfl rfl rfl rfl rfl (Lens.self _) zal rfl ?_;exact h.1):A:=t ⟨h⟩
theorem qah (h:C) (t:Hid C→A:=by intro h;refine A0 aV ?_;refine CNQR ?_;exact h.1):A:=t ⟨h⟩
theorem qai (h:C) (t:Hid C→A:=by intro h;refine A0 ya7 ?_;refine qah ?_;refine A0 mP ?_;refine A0 mP ?_;refine xc ?_;refine A0 (oFp zmZ) ?_;refine A0 (oLb zjy zhK) ?_;refine A0 mV ?_;refine A0 (ziT rfl rfl rfl zb4 yg) ?_;refine xc ?_;refine A0 (oFp zmZ) ?_;refine zg rfl rfl rfl rfl rfl zjy zhK rfl ?_;exact h.1):A:=t ⟨h⟩
theorem qaj (h:C) (t:Hid C→A:=by intro h;refine A0 aV ?_;refine CNQQR ?_;refine A0 mV ?_;exact h.1):A:=t ⟨h⟩
theorem qak (h:C) (t:Hid C→A:=by intro h;refine A0 mV ?_;refine A0 zcn ?_;refine qac ?_;exact h.1):A:=t ⟨h⟩
theorem qal (h:C) (t:Hid C→A:=by intro h;refine G2 ?_;refine G2 ?_;refine G2 ?_;refine G2 ?_;refine G2 ?_;refine G2 ?_;exact h.1):A:=t ⟨h⟩
theorem qam (h:C) (t:Hid C→A:=by intro h;refine zg rfl rfl rfl rfl rfl (Lens.self _) zbD rfl ?_;exact h.1):A:=t ⟨h⟩
theorem qan (h:C) (t:Hid C→A:=by intro h;refine A0 zcn ?_;refine A0 mV ?_;refine CN ?_;exact h.1):A:=t ⟨h⟩
theorem qao (h:C) (t:Hid C→A:=by intro h;refine A0 oK ?_;refine CN ?_;exact h.1):A:=t ⟨h⟩
theorem qap (h:C) (t:Hid C→A:=by intro h;refine CQR ?_;refine A0 aL ?_;exact h.1):A:=t ⟨h⟩
theorem qaq (h:C) (t:Hid C→A:=by intro h;refine zg rfl rfl rfl rfl rfl (Lens.self _) zab rfl ?_;refine CN ?_;exact h.1):A:=t ⟨h⟩
theorem qar (h:C) (t:Hid C→A:=by intro h;refine CQR ?_;refine A0 zbb ?_;refine CNQ ?_;exact h.1):A:=t ⟨h⟩
theorem qas (h:C) (t:Hid C→A:=by intro h;refine qaf ?_;refine qab ?_;refine A2 ?_;exact h.1):A:=t ⟨h⟩
theorem qat (h:C) (t:Hid C→A:=by intro h;refine zg rfl rfl rfl rfl rfl (Lens.self _) zbt rfl ?_;exact h.1):A:=t ⟨h⟩
theorem qau (h:C) (t:Hid C→A:=by intro h;refine A0 mV ?_;exact h.1):A:=t ⟨h⟩
theorem qav (h:C) (t:Hid C→A:=by intro h;refine A0 zbb ?_;refine CN ?_;exact h.1):A:=t ⟨h⟩
theorem qaw (h:C) (t:Hid C→A:=by intro h;refine CNQQR ?_;refine A0 aV ?_;refine CNB ?_;exact h.1):A:=t ⟨h⟩
theorem qax (h:C) (t:Hid C→A:=by intro h;refine qap ?_;refine CNQR ?_;refine A0 mP ?_;refine xc ?_;refine A0 (oFp zmZ) ?_;refine A0 (oLb zjy zhK) ?_;refine qau ?_;refine qai ?_;refine CNQR ?_;refine qau ?_;refine qac ?_;refine zeG rfl ?_;exact h.1):A:=t ⟨h⟩
theorem qay (h:C) (t:Hid C→A:=by intro h;refine CQR ?_;refine qac ?_;exact h.1):A:=t ⟨h⟩
theorem qaz (h:C) (t:Hid C→A:=by intro h;refine z8 ziy rfl rfl rfl rfl ?_;exact h.1):A:=t ⟨h⟩
theorem qa0 (h:C) (t:Hid C→A:=by intro h;refine CE ?_;refine CQR ?_;refine A0 mO ?_;refine A0 aO ?_;refine CN ?_;exact h.1):A:=t ⟨h⟩
theorem qa1 (h:C) (t:Hid C→A:=by intro h;refine A0 (zG (i:=0) rfl rfl rfl yi zbf ya) ?_;refine A0 (zy rfl rfl rfl (Lens.elem (i:=0) ya u64T) za9) ?_;refine xd ?_;refine A0 (zG (i:=0) rfl rfl rfl yi zbf ya) ?_;refine zg rfl rfl rfl rfl rfl (Lens.elem (i:=0) ya u64T) za9 rfl ?_;exact h.1):A:=t ⟨h⟩
theorem qa2 (h:C) (t:Hid C→A:=by intro h;refine G0 (zcw rfl rfl rfl rfl yh (Lens.self _) zbp) ?_;exact h.1):A:=t ⟨h⟩
theorem qa3 (h:C) (t:Hid C→A:=by intro h;refine qae ?_;refine xb ?_;exact h.1):A:=t ⟨h⟩
theorem qa4 (h:C) (t:Hid C→A:=by intro h;refine A0 (oLs rfl rfl rfl zal) ?_;exact h.1):A:=t ⟨h⟩
theorem qa5 (h:C) (t:Hid C→A:=by intro h;refine A0 (zag (T:=u8T) (xs:=[_]) rfl zb4 zaE yx rfl rfl) ?_;exact h.1):A:=t ⟨h⟩
theorem qa6 (h:C) (t:Hid C→A:=by intro h;refine A0 mX ?_;refine qaa ?_;exact h.1):A:=t ⟨h⟩
theorem qa7 (h:C) (t:Hid C→A:=by intro h;refine CQR ?_;refine qau ?_;exact h.1):A:=t ⟨h⟩
theorem qa8 (h:C) (t:Hid C→A:=by intro h;refine CS ?_;refine CQ ?_;refine CB ?_;exact h.1):A:=t ⟨h⟩
theorem qa9 (h:C) (t:Hid C→A:=by intro h;refine A0 (oFp zcy) ?_;refine A0 (oLb zcS zfz) ?_;refine A0 (zat rfl rfl zgf) ?_;exact h.1):A:=t ⟨h⟩
theorem qaA (h:C) (t:Hid C→A:=by intro h;refine qah ?_;refine qau ?_;exact h.1):A:=t ⟨h⟩
theorem qaB (h:C) (t:Hid C→A:=by intro h;refine z8 ztN rfl rfl rfl rfl ?_;exact h.1):A:=t ⟨h⟩
theorem qaC (h:C) (t:Hid C→A:=by intro h;refine A0 (zag (T:=i64T) (xs:=[_]) rfl zba zeQ yx rfl rfl) ?_;exact h.1):A:=t ⟨h⟩
theorem qaD (h:C) (t:Hid C→A:=by intro h;refine A0 aX ?_;refine A0 aX ?_;refine CNQQR ?_;refine A0 mX ?_;refine A0 zgB ?_;refine CN ?_;exact h.1):A:=t ⟨h⟩
theorem qaE (h:C) (t:Hid C→A:=by intro h;refine A2 ?_;refine A2 ?_;refine qaf ?_;refine A2 ?_;refine A2 ?_;exact h.1):A:=t ⟨h⟩
theorem qaF (h:C) (t:Hid C→A:=by intro h;refine CQQR ?_;refine qau ?_;exact h.1):A:=t ⟨h⟩
theorem qaG (h:C) (t:Hid C→A:=by intro h;refine CQ ?_;refine CD mixed ?_;exact h.1):A:=t ⟨h⟩
theorem qaH (h:C) (t:Hid C→A:=by intro h;refine zg rfl rfl rfl rfl rfl (Lens.self _) zaM rfl ?_;exact h.1):A:=t ⟨h⟩
theorem qaI (h:C) (t:Hid C→A:=by intro h;refine A0 aV ?_;refine qac ?_;exact h.1):A:=t ⟨h⟩
theorem qaJ (h:C) (t:Hid C→A:=by intro h;refine A0 oN ?_;refine CN ?_;exact h.1):A:=t ⟨h⟩
theorem qaK (h:C) (t:Hid C→A:=by intro h;refine CNIR ?_;refine qak ?_;exact h.1):A:=t ⟨h⟩
theorem qaL (h:C) (t:Hid C→A:=by intro h;refine CQ ?_;refine qaG ?_;refine G0 yau ?_;refine G0 (zbV rfl rfl rfl isl_89) ?_;refine G0 (oLs rfl rfl rfl zhK) ?_;refine G0 (zr (i:=0) rfl rfl rfl ya zb4 yh) ?_;refine G0 (zh rfl rfl ty_5) ?_;refine G0 (zhy rfl (ui_3) (us_5) rfl yaI) ?_;exact h.1):A:=t ⟨h⟩
theorem qaM (h:C) (t:Hid C→A:=by intro h;refine CQR ?_;refine xe ?_;refine qag ?_;exact h.1):A:=t ⟨h⟩
theorem qaN (h:C) (t:Hid C→A:=by intro h;refine CSQBQR ?_;refine A0 (zbH rfl rfl rfl sl_177 yh) ?_;refine A0 (zh rfl rfl ty_174) ?_;refine A0 aX ?_;refine CNQR ?_;refine A0 mX ?_;exact h.1):A:=t ⟨h⟩
theorem qaO (h:C) (t:Hid C→A:=by intro h;refine A0 zgB ?_;refine CN ?_;exact h.1):A:=t ⟨h⟩
theorem qaP (h:C) (t:Hid C→A:=by intro h;refine qau ?_;refine CNB ?_;exact h.1):A:=t ⟨h⟩
theorem qaQ (h:C) (t:Hid C→A:=by intro h;refine A0 (zhy rfl (ui_3) (us_5) rfl yaI) ?_;refine A0 zcn ?_;refine qac ?_;exact h.1):A:=t ⟨h⟩
theorem qaR (h:C) (t:Hid C→A:=by intro h;refine A0 (zh rfl rfl ty_3) ?_;exact h.1):A:=t ⟨h⟩
theorem qaS (h:C) (t:Hid C→A:=by intro h;refine A0 oK ?_;refine qac ?_;exact h.1):A:=t ⟨h⟩
theorem qaT (h:C) (t:Hid C→A:=by intro h;refine qap ?_;refine qac ?_;exact h.1):A:=t ⟨h⟩
theorem qaU (h:C) (t:Hid C→A:=by intro h;refine A0 (oFp zcb) ?_;refine A0 (oLb zbJ zeO) ?_;refine A0 (zat rfl rfl ziP) ?_;exact h.1):A:=t ⟨h⟩
theorem qaV (h:C) (t:Hid C→A:=by intro h;refine G0 aV ?_;refine GK.nil ?_;exact h.1):A:=t ⟨h⟩
theorem qaW (h:C) (t:Hid C→A:=by intro h;refine CQQR ?_;refine qad ?_;exact h.1):A:=t ⟨h⟩
theorem qaX (h:C) (t:Hid C→A:=by intro h;refine XK.nil' ?_;refine CI ?_;refine CR ?_;exact h.1):A:=t ⟨h⟩
theorem qaY (h:C) (t:Hid C→A:=by intro h;refine A0 aV ?_;refine CNQ ?_;exact h.1):A:=t ⟨h⟩
theorem qaZ (h:C) (t:Hid C→A:=by intro h;refine qax ?_;refine qau ?_;refine A0 (oCl (zty _ _ _) rfl fn_204 ⟨yb,yj,yj,trivial⟩) ?_;refine qa6 ?_;refine A0 aV ?_;refine qaA ?_;refine qac ?_;refine zeG rfl ?_;exact h.1):A:=t ⟨h⟩
theorem qba (h:C) (t:Hid C→A:=by intro h;refine CQR ?_;refine xf ?_;refine qat ?_;refine qac ?_;exact h.1):A:=t ⟨h⟩
theorem qbb (h:C) (t:Hid C→A:=by intro h;refine zg rfl rfl rfl rfl rfl (Lens.self _) zbq rfl ?_;exact h.1):A:=t ⟨h⟩
theorem qbc (h:C) (t:Hid C→A:=by intro h;refine qab ?_;refine qab ?_;exact h.1):A:=t ⟨h⟩
theorem qbd (h:C) (t:Hid C→A:=by intro h;refine A0 (zr (i:=0) rfl rfl rfl ya zkq yh) ?_;refine A0 (zh rfl rfl zfy) ?_;exact h.1):A:=t ⟨h⟩
theorem qbe (h:C) (t:Hid C→A:=by intro h;refine CNQQR ?_;refine qau ?_;exact h.1):A:=t ⟨h⟩
theorem qbf (h:C) (t:Hid C→A:=by intro h;refine A0 (zag (T:=idT) (xs:=[_]) rfl zek zeP yx rfl rfl) ?_;refine zo rfl rfl rfl rfl rfl rfl rfl zeP yy ?_;exact h.1):A:=t ⟨h⟩
theorem qbg (h:C) (t:Hid C→A:=by intro h;refine A0 aX ?_;refine CN ?_;exact h.1):A:=t ⟨h⟩
theorem qbh (h:C) (t:Hid C→A:=by intro h;refine CSQBQR ?_;refine qau ?_;exact h.1):A:=t ⟨h⟩
theorem qbi (h:C) (t:Hid C→A:=by intro h;refine X0 (zcw rfl rfl rfl rfl yh (Lens.self _) zbp) ?_;exact h.1):A:=t ⟨h⟩
theorem qbj (h:C) (t:Hid C→A:=by intro h;refine A1 mV ?_;refine A1 (zr (i:=0) rfl rfl rfl ya zkq yh) ?_;refine A1 (oFr zcy zcS) ?_;refine A1 (zh rfl rfl zfz) ?_;refine A1 (by first|exact zat rfl rfl zgf|exact zbV rfl rfl rfl zgf|exact zdO rfl rfl zgf) ?_;exact h.1):A:=t ⟨h⟩
theorem qbk (h:C) (t:Hid C→A:=by intro h;refine A0 mP ?_;refine xc ?_;refine A0 (oFp zlL) ?_;refine A0 (zae rfl rfl rfl rfl rfl zgA) ?_;exact h.1):A:=t ⟨h⟩
theorem qbl (h:C) (t:Hid C→A:=by intro h;refine X0 mP ?_;refine xg ?_;refine X0 (oFp zun) ?_;refine X0 (zae rfl rfl rfl rfl rfl ty_22) ?_;exact h.1):A:=t ⟨h⟩
theorem qbm (h:C) (t:Hid C→A:=by intro h;refine ap_inl ?_;refine ap_inl ?_;refine ap_fine (n:=5) zgU rfl rfl rfl ty_4 ?_;refine qaJ ?_;exact h.1):A:=t ⟨h⟩
theorem qbn (h:C) (t:Hid C→A:=by intro h;refine A0 (g_rem rfl rfl rfl ycb (by first|decide|omega) rfl) ?_;exact h.1):A:=t ⟨h⟩
theorem qbo (h:C) (t:Hid C→A:=by intro h;refine A1 (oFp zcb) ?_;refine A1 (oLb zbJ zeO) ?_;refine A1 (zat rfl rfl ziP) ?_;exact h.1):A:=t ⟨h⟩
theorem qbp (h:C) (t:Hid C→A:=by intro h;refine G0 mO ?_;refine G0 (zaQ (i:=4) rfl rfl rfl rfl yi zbr yg) ?_;refine qa2 ?_;exact h.1):A:=t ⟨h⟩
theorem qbq (h:C) (t:Hid C→A:=by intro h;refine G0 mO ?_;refine G0 (zaQ (i:=0) rfl rfl rfl rfl yi zbr yg) ?_;refine qa2 ?_;exact h.1):A:=t ⟨h⟩
theorem qbr (h:C) (t:Hid C→A:=by intro h;refine qah ?_;refine qad ?_;exact h.1):A:=t ⟨h⟩
theorem qbs (h:C) (t:Hid C→A:=by intro h;refine zg rfl rfl rfl rfl rfl (Lens.self _) ziA rfl ?_;exact h.1):A:=t ⟨h⟩
theorem qbt (h:C) (t:Hid C→A:=by intro h;refine A0 (zat rfl rfl zdc) ?_;exact h.1):A:=t ⟨h⟩
theorem qbu (h:C) (t:Hid C→A:=by intro h;refine qas ?_;refine qao ?_;exact h.1):A:=t ⟨h⟩
theorem qbv (h:C) (t:Hid C→A:=by intro h;refine G0 mV ?_;refine G0 mV ?_;exact h.1):A:=t ⟨h⟩
theorem qbw (h:C) (t:Hid C→A:=by intro h;refine CSQR ?_;refine qau ?_;exact h.1):A:=t ⟨h⟩
theorem qbx (h:C) (t:Hid C→A:=by intro h;refine zbc 1 0 2 rfl rfl rfl rfl rfl rfl ?_;exact h.1):A:=t ⟨h⟩
theorem qby (h:C) (t:Hid C→A:=by intro h;refine A0 aO ?_;refine CNQR ?_;refine A0 mO ?_;exact h.1):A:=t ⟨h⟩
theorem qbz (h:C) (t:Hid C→A:=by intro h;refine A0 (zbH rfl rfl rfl zkq yh) ?_;refine A0 (zh rfl rfl zfy) ?_;refine z8 zrU rfl rfl rfl rfl ?_;exact h.1):A:=t ⟨h⟩
theorem qb0 (h:C) (t:Hid C→A:=by intro h;refine qap ?_;refine CNQR ?_;exact h.1):A:=t ⟨h⟩
theorem qb1 (h:C) (t:Hid C→A:=by intro h;refine qa6 ?_;refine A0 aV ?_;refine qaj ?_;exact h.1):A:=t ⟨h⟩
theorem qb2 (h:C) (t:Hid C→A:=by intro h;refine X0 (zh rfl rfl ty_5) ?_;refine X0 (g_cv32 rfl (ui_50) (us_5) rfl) ?_;exact h.1):A:=t ⟨h⟩
theorem qb3 (h:C) (t:Hid C→A:=by intro h;refine A0 (zat rfl rfl zhx) ?_;exact h.1):A:=t ⟨h⟩
theorem qb4 (h:C) (t:Hid C→A:=by intro h;refine A0 (oLs rfl rfl rfl zab) ?_;exact h.1):A:=t ⟨h⟩
theorem qb5 (h:C) (t:Hid C→A:=by intro h;refine qaR ?_;refine qaC ?_;refine zo rfl rfl rfl rfl rfl rfl rfl zeQ yS ?_;refine A0 aO ?_;exact h.1):A:=t ⟨h⟩
theorem qb6 (h:C) (t:Hid C→A:=by intro h;refine z8 zdH rfl rfl rfl rfl ?_;exact h.1):A:=t ⟨h⟩
theorem qb7 (h:C) (t:Hid C→A:=by intro h;refine CQR ?_;refine qa4 ?_;refine qag ?_;refine CN ?_;exact h.1):A:=t ⟨h⟩
theorem qb8 (h:C) (t:Hid C→A:=by intro h;refine A0 (g_quo rfl rfl rfl ycb (by first|decide|omega) rfl) ?_;exact h.1):A:=t ⟨h⟩
theorem qb9 (h:C) (t:Hid C→A:=by intro h;refine A0 zer ?_;refine CN ?_;exact h.1):A:=t ⟨h⟩
theorem qbA (h:C) (t:Hid C→A:=by intro h;refine qaf ?_;refine A1 mV ?_;exact h.1):A:=t ⟨h⟩
theorem qbB (h:C) (t:Hid C→A:=by intro h;refine A2 ?_;refine A2 ?_;exact h.1):A:=t ⟨h⟩
theorem qbC (h:C) (t:Hid C→A:=by intro h;refine A0 (oLs rfl rfl rfl zbD) ?_;exact h.1):A:=t ⟨h⟩
theorem qbD (h:C) (t:Hid C→A:=by intro h;refine CQR ?_;refine qaB ?_;refine CNQR ?_;exact h.1):A:=t ⟨h⟩
theorem qbE (h:C) (t:Hid C→A:=by intro h;refine CR ?_;refine A0 mO ?_;exact h.1):A:=t ⟨h⟩
theorem qbF (h:C) (t:Hid C→A:=by intro h;refine A0 (oLs rfl rfl rfl zfy) ?_;exact h.1):A:=t ⟨h⟩
theorem qbG (h:C) (t:Hid C→A:=by intro h;refine X0 mV ?_;refine X0 mV ?_;exact h.1):A:=t ⟨h⟩
theorem qbH (h:C) (t:Hid C→A:=by intro h;refine A0 (zol rfl rfl zfj rfl rfl) ?_;exact h.1):A:=t ⟨h⟩
theorem qbI (h:C) (t:Hid C→A:=by intro h;refine G0 mV ?_;refine G0 (oCl (zvm _ _) rfl fn_272 ye) ?_;exact h.1):A:=t ⟨h⟩
theorem qbJ (h:C) (t:Hid C→A:=by intro h;refine A0 aO ?_;refine CN ?_;exact h.1):A:=t ⟨h⟩
theorem qbK (h:C) (t:Hid C→A:=by intro h;refine CNIR ?_;refine qan ?_;exact h.1):A:=t ⟨h⟩
theorem qbL (h:C) (t:Hid C→A:=by intro h;refine A0 (oFp zc9) ?_;refine A0 (oLb zap ty_3) ?_;exact h.1):A:=t ⟨h⟩
theorem qbM (h:C) (t:Hid C→A:=by intro h;refine zg rfl rfl rfl rfl rfl (Lens.self _) zdJ rfl ?_;exact h.1):A:=t ⟨h⟩
theorem qbN (h:C) (t:Hid C→A:=by intro h;refine CSIR ?_;refine qak ?_;exact h.1):A:=t ⟨h⟩
theorem qbO (h:C) (t:Hid C→A:=by intro h;refine A0 (by first|exact zat rfl rfl zed|exact zbV rfl rfl rfl zed|exact zdO rfl rfl zed) ?_;exact h.1):A:=t ⟨h⟩
theorem qbP (h:C) (t:Hid C→A:=by intro h;refine CSQQR ?_;refine qau ?_;exact h.1):A:=t ⟨h⟩
theorem qbQ (h:C) (t:Hid C→A:=by intro h;refine A0 aV ?_;refine CNB ?_;exact h.1):A:=t ⟨h⟩
theorem qbR (h:C) (t:Hid C→A:=by intro h;refine qau ?_;refine A1 mV ?_;exact h.1):A:=t ⟨h⟩
theorem qbS (h:C) (t:Hid C→A:=by intro h;refine qau ?_;refine A0 za5 ?_;exact h.1):A:=t ⟨h⟩
theorem qbT (h:C) (t:Hid C→A:=by intro h;refine A0 zjC ?_;refine CN ?_;exact h.1):A:=t ⟨h⟩
theorem qbU (h:C) (t:Hid C→A:=by intro h;refine A0 (zh6 rfl (ui_5) (zqs) rfl) ?_;exact h.1):A:=t ⟨h⟩
theorem qbV (h:C) (t:Hid C→A:=by intro h;refine qaB ?_;refine zg rfl rfl rfl rfl rfl (Lens.self _) zab rfl ?_;exact h.1):A:=t ⟨h⟩
theorem qbW (h:C) (t:Hid C→A:=by intro h;refine A0 (zag (T:=zaz) (xs:=[_]) rfl zfo zgJ yx rfl rfl) ?_;exact h.1):A:=t ⟨h⟩
theorem qbX (h:C) (t:Hid C→A:=by intro h;refine A0 aV ?_;refine CNR ?_;exact h.1):A:=t ⟨h⟩
theorem qbY (h:C) (t:Hid C→A:=by intro h;refine qaa ?_;refine A0 e32 ?_;refine A0 aO ?_;refine A0 aX ?_;refine qbg ?_;exact h.1):A:=t ⟨h⟩
theorem qbZ (h:C) (t:Hid C→A:=by intro h;refine A0 (zat rfl rfl isl_56) ?_;exact h.1):A:=t ⟨h⟩
theorem qca (h:C) (t:Hid C→A:=by intro h;refine qae ?_;refine A0 aL ?_;exact h.1):A:=t ⟨h⟩
theorem qcb (h:C) (t:Hid C→A:=by intro h;refine CQR ?_;refine A0 mO ?_;exact h.1):A:=t ⟨h⟩
theorem qcc (h:C) (t:Hid C→A:=by intro h;refine A0 aV ?_;refine qaw ?_;exact h.1):A:=t ⟨h⟩
theorem qcd (h:C) (t:Hid C→A:=by intro h;refine A0 (zag (T:=(bsl u8T)) (xs:=[_,_]) rfl zfJ ze6 yaD rfl rfl) ?_;exact h.1):A:=t ⟨h⟩
theorem qce (h:C) (t:Hid C→A:=by intro h;refine z8 zlX rfl rfl rfl rfl ?_;exact h.1):A:=t ⟨h⟩
theorem qcf (h:C) (t:Hid C→A:=by intro h;refine A0 aX ?_;refine CNQR ?_;refine A0 mX ?_;exact h.1):A:=t ⟨h⟩
theorem qcg (h:C) (t:Hid C→A:=by intro h;refine G0 oK ?_;refine GK.nil ?_;exact h.1):A:=t ⟨h⟩
theorem qch (h:C) (t:Hid C→A:=by intro h;refine X0 (oFp zfr) ?_;refine X0 (oFp zaR) ?_;exact h.1):A:=t ⟨h⟩
theorem qci (h:C) (t:Hid C→A:=by intro h;refine A3 ?_;refine A3 ?_;refine A3 ?_;refine A3 ?_;refine A3 ?_;exact h.1):A:=t ⟨h⟩
theorem qcj (h:C) (t:Hid C→A:=by intro h;refine qaC ?_;refine zo rfl rfl rfl rfl rfl rfl rfl zeQ yy ?_;exact h.1):A:=t ⟨h⟩
theorem qck (h:C) (t:Hid C→A:=by intro h;refine A0 (zkR rfl rfl yb) ?_;refine CN ?_;exact h.1):A:=t ⟨h⟩
theorem qcl (h:C) (t:Hid C→A:=by intro h;refine A0 aO ?_;refine qac ?_;exact h.1):A:=t ⟨h⟩
theorem qcm (h:C) (t:Hid C→A:=by intro h;refine z8 znd rfl rfl rfl rfl ?_;exact h.1):A:=t ⟨h⟩
theorem qcn (h:C) (t:Hid C→A:=by intro h;refine z8 zjA rfl rfl rfl rfl ?_;exact h.1):A:=t ⟨h⟩
theorem qco (h:C) (t:Hid C→A:=by intro h;refine A0 yah ?_;exact h.1):A:=t ⟨h⟩
theorem qcp (h:C) (t:Hid C→A:=by intro h;refine CSIR ?_;refine qan ?_;exact h.1):A:=t ⟨h⟩
theorem qcq (h:C) (t:Hid C→A:=by intro h;refine A0 (oLs rfl rfl rfl zaM) ?_;exact h.1):A:=t ⟨h⟩
theorem qcr (h:C) (t:Hid C→A:=by intro h;refine A0 (zat rfl rfl zed) ?_;exact h.1):A:=t ⟨h⟩
theorem qcs (h:C) (t:Hid C→A:=by intro h;refine zbc 2 1 3 rfl rfl rfl rfl rfl rfl ?_;exact h.1):A:=t ⟨h⟩
theorem qct (h:C) (t:Hid C→A:=by intro h;refine A0 mX ?_;refine qam ?_;refine qbg ?_;exact h.1):A:=t ⟨h⟩
theorem qcu (h:C) (t:Hid C→A:=by intro h;refine CE ?_;refine qa7 ?_;exact h.1):A:=t ⟨h⟩
theorem qcv (h:C) (t:Hid C→A:=by intro h;refine xc ?_;refine A0 (oFp zlL) ?_;refine zaG rfl rfl rfl rfl rfl rfl rfl rfl rfl rfl zgA ?_;exact h.1):A:=t ⟨h⟩
theorem qcw (h:C) (t:Hid C→A:=by intro h;refine qam ?_;refine qac ?_;exact h.1):A:=t ⟨h⟩
theorem qcx (h:C) (t:Hid C→A:=by intro h;refine G0 mX ?_;refine G0 yah ?_;refine G0 ybR ?_;refine G0 aV ?_;refine qaV ?_;exact h.1):A:=t ⟨h⟩
theorem qcy (h:C) (t:Hid C→A:=by intro h;refine G0 (zok rfl rfl rfl) ?_;exact h.1):A:=t ⟨h⟩
theorem qcz (h:C) (t:Hid C→A:=by intro h;refine CSQR ?_;refine qad ?_;exact h.1):A:=t ⟨h⟩
theorem qc0 (h:C) (t:Hid C→A:=by intro h;refine qaf ?_;refine qbc ?_;refine qao ?_;exact h.1):A:=t ⟨h⟩
theorem qc1 (h:C) (t:Hid C→A:=by intro h;refine X0 (zag (T:=(bsl u8T)) (xs:=[_,_,_]) rfl zfJ ze6 ⟨rfl,rfl,rfl,rfl,rfl,rfl,trivial⟩ rfl rfl) ?_;exact h.1):A:=t ⟨h⟩
theorem qc2 (h:C) (t:Hid C→A:=by intro h;refine qau ?_;refine A0 zcn ?_;exact h.1):A:=t ⟨h⟩
theorem qc3 (h:C) (t:Hid C→A:=by intro h;refine A0 (zh rfl rfl zab) ?_;refine qaq ?_;refine zk9 rfl rfl rfl zab ?_;exact h.1):A:=t ⟨h⟩
theorem qc4 (h:C) (t:Hid C→A:=by intro h;refine A0 yb1 ?_;exact h.1):A:=t ⟨h⟩
theorem qc5 (h:C) (t:Hid C→A:=by intro h;refine A0 ybR ?_;exact h.1):A:=t ⟨h⟩
theorem qc6 (h:C) (t:Hid C→A:=by intro h;refine CQR ?_;refine qaY ?_;refine qaG ?_;refine G0 mR ?_;refine G0 (zfb rfl rfl) ?_;refine G0 (oFr zib zgv) ?_;refine G0 (oFr zaR zY) ?_;exact h.1):A:=t ⟨h⟩
theorem qc7 (h:C) (t:Hid C→A:=by intro h;refine A0 (zag (T:=zbL) (xs:=[_]) rfl zkr znG yx rfl rfl) ?_;refine zo rfl rfl rfl rfl rfl rfl rfl znG yy ?_;exact h.1):A:=t ⟨h⟩
theorem qc8 (h:C) (t:Hid C→A:=by intro h;refine A0 aV ?_;refine CNQQR ?_;exact h.1):A:=t ⟨h⟩
theorem qc9 (h:C) (t:Hid C→A:=by intro h;refine A0 (oFp zcC) ?_;refine A0 (oLb zgx zhi) ?_;exact h.1):A:=t ⟨h⟩
theorem qcA (h:C) (t:Hid C→A:=by intro h;refine A0 (zat rfl rfl isl_89) ?_;exact h.1):A:=t ⟨h⟩
theorem qcB (h:C) (t:Hid C→A:=by intro h;refine xh ?_;refine zbm (T:=u8T) (xs:=[_]) rfl rfl rfl rfl zb4 zaE yx rfl rfl ?_;refine A0 aO ?_;exact h.1):A:=t ⟨h⟩
theorem qcC (h:C) (t:Hid C→A:=by intro h;refine A0 (zat rfl rfl zpP) ?_;exact h.1):A:=t ⟨h⟩
theorem qcD (h:C) (t:Hid C→A:=by intro h;refine qa6 ?_;refine qaz ?_;refine qag ?_;exact h.1):A:=t ⟨h⟩
theorem qcE (h:C) (t:Hid C→A:=by intro h;refine X0 (oLs rfl rfl rfl zal) ?_;exact h.1):A:=t ⟨h⟩
theorem qcF (h:C) (t:Hid C→A:=by intro h;refine G2 ?_;refine G2 ?_;refine G2 ?_;exact h.1):A:=t ⟨h⟩
theorem qcG (h:C) (t:Hid C→A:=by intro h;refine X0 (zeV rfl rfl rfl) ?_;exact h.1):A:=t ⟨h⟩
theorem qcH (h:C) (t:Hid C→A:=by intro h;refine A0 aO ?_;refine qaK ?_;exact h.1):A:=t ⟨h⟩
theorem qcI (h:C) (t:Hid C→A:=by intro h;refine X0 ya6 ?_;exact h.1):A:=t ⟨h⟩
theorem qcJ (h:C) (t:Hid C→A:=by intro h;refine X0 (zmf (T:=sl u8T) (S:=bsl u8T) (zdC (zC (zk3 _ 4 yn)) rfl zwe ye rfl)) ?_;exact h.1):A:=t ⟨h⟩
theorem qcK (h:C) (t:Hid C→A:=by intro h;refine A0 (zh rfl rfl zf3) ?_;refine z8 ze_221 rfl rfl rfl rfl ?_;refine zg rfl rfl rfl rfl rfl (Lens.self _) zf3 rfl ?_;exact h.1):A:=t ⟨h⟩
theorem qcL (h:C) (t:Hid C→A:=by intro h;refine qaf ?_;refine qab ?_;exact h.1):A:=t ⟨h⟩
theorem qcM (h:C) (t:Hid C→A:=by intro h;refine A0 (zh rfl rfl zhK) ?_;exact h.1):A:=t ⟨h⟩
theorem qcN (h:C) (t:Hid C→A:=by intro h;refine X0 (zol rfl rfl zfj rfl rfl) ?_;exact h.1):A:=t ⟨h⟩
theorem qcO (h:C) (t:Hid C→A:=by intro h;refine zg rfl rfl rfl rfl rfl (Lens.self _) zfy rfl ?_;exact h.1):A:=t ⟨h⟩
theorem qcP (h:C) (t:Hid C→A:=by intro h;refine X0 mV ?_;refine X0 (oCl (zvm _ _) rfl fn_272 ye) ?_;exact h.1):A:=t ⟨h⟩
theorem qcQ (h:C) (t:Hid C→A:=by intro h;refine A1 (zh rfl rfl ty_3) ?_;exact h.1):A:=t ⟨h⟩
theorem qcR (h:C) (t:Hid C→A:=by intro h;refine X0 mO ?_;refine X0 mV ?_;exact h.1):A:=t ⟨h⟩
theorem qcS (h:C) (t:Hid C→A:=by intro h;refine A0 (zbH rfl rfl rfl ze5 yh) ?_;refine A0 (zh rfl rfl zcc) ?_;refine z8 ze_218 rfl rfl rfl rfl ?_;exact h.1):A:=t ⟨h⟩
theorem qcT (h:C) (t:Hid C→A:=by intro h;refine CE ?_;refine qay ?_;exact h.1):A:=t ⟨h⟩
theorem qcU (h:C) (t:Hid C→A:=by intro h;refine qaY ?_;refine CD mixed ?_;exact h.1):A:=t ⟨h⟩
theorem qcV (h:C) (t:Hid C→A:=by intro h;refine A0 (zag (T:=(bsl u8T)) (xs:=[_]) rfl zfJ ze6 yx rfl rfl) ?_;exact h.1):A:=t ⟨h⟩
theorem qcW (h:C) (t:Hid C→A:=by intro h;refine A0 (oFp zcy) ?_;refine A0 (oLb zcS zfz) ?_;exact h.1):A:=t ⟨h⟩
theorem qcX (h:C) (t:Hid C→A:=by intro h;refine CNQ ?_;refine zeF (d:=1) rfl rfl (Lens.self _) ?_;exact h.1):A:=t ⟨h⟩
theorem qcY (h:C) (t:Hid C→A:=by intro h;refine A0 (oFp zic) ?_;refine A0 (oLb zgw zal) ?_;exact h.1):A:=t ⟨h⟩
theorem qcZ (h:C) (t:Hid C→A:=by intro h;refine CNQR ?_;refine qau ?_;exact h.1):A:=t ⟨h⟩
theorem qda (h:C) (t:Hid C→A:=by intro h;refine A0 (oFp zgn) ?_;refine A0 (oLb zdU znn) ?_;exact h.1):A:=t ⟨h⟩
theorem qdb (h:C) (t:Hid C→A:=by intro h;refine G0 mP ?_;refine G0 (g_nc rfl rfl) ?_;exact h.1):A:=t ⟨h⟩
theorem qdc (h:C) (t:Hid C→A:=by intro h;refine A1 (oFp zcC) ?_;refine A1 (oLb zgx zhi) ?_;exact h.1):A:=t ⟨h⟩
theorem qdd (h:C) (t:Hid C→A:=by intro h;refine A0 (zh rfl rfl zdJ) ?_;refine z8 znc rfl rfl rfl rfl ?_;refine qbM ?_;exact h.1):A:=t ⟨h⟩
theorem qde (h:C) (t:Hid C→A:=by intro h;refine A1 (oFp zey) ?_;refine A1 (oLb zgy ty_3) ?_;exact h.1):A:=t ⟨h⟩
theorem qdf (h:C) (t:Hid C→A:=by intro h;refine qab ?_;refine A2 ?_;exact h.1):A:=t ⟨h⟩
theorem qdg (h:C) (t:Hid C→A:=by intro h;refine X0 (zag (T:=zbL) (xs:=[_]) rfl zkr znG yx rfl rfl) ?_;exact h.1):A:=t ⟨h⟩
theorem qdh (h:C) (t:Hid C→A:=by intro h;refine qc2 ?_;refine qau ?_;refine A0 (zhy rfl (ui_3) (zqs) rfl yaI) ?_;refine A0 zcn ?_;exact h.1):A:=t ⟨h⟩
theorem qdi (h:C) (t:Hid C→A:=by intro h;refine qa8 ?_;refine qaG ?_;exact h.1):A:=t ⟨h⟩
theorem qdj (h:C) (t:Hid C→A:=by intro h;refine CQR ?_;refine A0 mC ?_;exact h.1):A:=t ⟨h⟩
theorem qdk (h:C) (t:Hid C→A:=by intro h;refine G0 mO ?_;refine G0 mV ?_;refine G0 za5 ?_;exact h.1):A:=t ⟨h⟩
theorem qdl (h:C) (t:Hid C→A:=by intro h;refine CE ?_;refine CQR ?_;exact h.1):A:=t ⟨h⟩
theorem qdm (h:C) (t:Hid C→A:=by intro h;refine CSQBQR ?_;refine qad ?_;exact h.1):A:=t ⟨h⟩
theorem qdn (h:C) (t:Hid C→A:=by intro h;refine A0 (zat rfl rfl zod) ?_;exact h.1):A:=t ⟨h⟩
theorem qdo (h:C) (t:Hid C→A:=by intro h;refine A1 zjC ?_;exact h.1):A:=t ⟨h⟩
theorem qdp (h:C) (t:Hid C→A:=by intro h;refine X0 (zmf (T:=sl u8T) (S:=bsl u8T) (zag (T:=u8T) (xs:=[_]) rfl zb4 zaE yx rfl rfl)) ?_;exact h.1):A:=t ⟨h⟩
theorem qdq (h:C) (t:Hid C→A:=by intro h;refine A0 (zfc rfl (zlk) (us_3) rfl) ?_;exact h.1):A:=t ⟨h⟩
theorem qdr (h:C) (t:Hid C→A:=by intro h;refine A0 (g_mkf (caps:=[_]) rfl rfl) ?_;exact h.1):A:=t ⟨h⟩
theorem qds (h:C) (t:Hid C→A:=by intro h;refine A0 mP ?_;refine xc ?_;refine A0 (oFp zwn) ?_;refine A0 (zae rfl rfl rfl rfl rfl zgA) ?_;exact h.1):A:=t ⟨h⟩
theorem qdt (h:C) (t:Hid C→A:=by intro h;refine CQR ?_;refine qaA ?_;exact h.1):A:=t ⟨h⟩
theorem qdu (h:C) (t:Hid C→A:=by intro h;refine CS ?_;refine CB ?_;refine CQR ?_;refine qad ?_;refine A0 zcn ?_;refine A0 (zfc rfl (zr2) (us_3) rfl) ?_;exact h.1):A:=t ⟨h⟩
theorem qdv (h:C) (t:Hid C→A:=by intro h;refine qaa ?_;refine A0 aO ?_;refine qbg ?_;exact h.1):A:=t ⟨h⟩
theorem qdw (h:C) (t:Hid C→A:=by intro h;refine qa4 ?_;refine qa4 ?_;exact h.1):A:=t ⟨h⟩
end
set_option maxRecDepth 20000
theorem zrf (x:Int):Tells P 132 [.val i64T x] (.val zs false):=by
 refine zc Tryz.func132 rfl rfl rfl (fun ext w hext=>?_);refine ze (d:=0) rfl zu (fun hin0=>?_);refine CQR ?_;refine qbr ?_;refine A0 zgB ?_;refine qac ?_;exact zd rfl rfl (zdn (by simp[Fr.set]))
def zi5 (x y:Int):Int:=if x<y then -1 else if y<x then 1 else 0
theorem cmpInt_ok (x y:Int):Tells P 315 [.val i64T x,.val i64T y] (.val i64T (zi5 x y)):=by
 refine zc Tryz.func315 rfl rfl rfl (fun ext w hext=>?_);refine ze (d:=0) rfl zu (fun hin0=>?_);refine ze (d:=1) rfl zu (fun hin1=>?_);refine qdt ?_;refine A0 (oCl (zrf _) rfl fn_132 yc) ?_;refine qaA ?_;refine A0 (oCl (zrf _) rfl fn_132 yc) ?_;refine qaj ?_;refine CN ?_;refine Cg ?_;refine qbP ?_;refine CN ?_;refine Cg ?_;refine CSQQR ?_;refine qad ?_;refine qav ?_;refine zq (p:=x<y) rfl (rfl) (fun ht16=>?_) (fun ht16=>?_)
 ·
  refine qay ?_;exact zd rfl rfl (za rfl yaf)
 refine CSQQR ?_;refine qad ?_;refine qbT ?_;refine zq (p:=y<x) rfl (rfl) (fun ht19=>?_) (fun ht19=>?_)
 ·
  refine qay ?_;exact zd rfl rfl (za rfl yaf)
 refine CSQR ?_;refine qac ?_;exact zd rfl rfl (za rfl yaf)
def idx {α:Type} (p:α→Bool):List α→Int
  | []=>-1
  | x::l=>if p x then 0 else if idx p l<0 then -1 else idx p l+1
def shift (k:Nat) (n:Int):Int:=if n<0 then -1 else n+k
theorem zof {α:Type} (p:α→Bool):∀l,-1≤idx p l
  | []=>by simp[idx]
  | x::l=>by have:=zof p l;unfold idx;split<;>first|omega|(split<;>omega)
theorem zoe {α:Type} {p:α→Bool} {l:List α} {k:Nat} {x:α} (h:l[k]?=some x) (hp:p x=true):shift k (idx p (l.drop k))=k:=by
  obtain⟨hk,rfl⟩:=ul.1 h;rw[List.drop_eq_getElem_cons hk];simp[idx,hp,shift]
theorem zs0 {α:Type} {p:α→Bool} {l:List α} {k:Nat} {x:α} (h:l[k]?=some x) (hp:¬p x=true):shift k (idx p (l.drop k))=shift (k+1) (idx p (l.drop (k+1))):=by
  obtain⟨hk,rfl⟩:=ul.1 h;rw[List.drop_eq_getElem_cons hk];have h2:=zof p (l.drop (k+1));simp only[idx,ur hp];generalize idx p (l.drop (k+1))=n at *;unfold shift;by_cases c:n<0
  · rw[ut c,ut c];rfl
  rw[ur c,ur c,ur ya];omega
theorem zjh {α:Type} (p:α→Bool) (l:List α):idx p l=shift 0 (idx p (l.drop 0)):=by
  have:=zof p l
  unfold shift;simp only[List.drop_zero]
  split<;>omega
theorem zog {α:Type} {p:α→Bool} {l:List α} {k:Nat} (h:l.length≤k):shift k (idx p (l.drop k)) = -1:=by
  rw[List.drop_of_length_le h];simp[idx,shift]
theorem zoh {α:Type} (p:α→Bool):∀l,decide (0≤idx p l)=l.any p
  | []=>by simp[idx]
  | x::l=>by
    have ih:=zoh p l
    have:=zof p l
    rw[List.any_cons,←ih];by_cases c:p x=true
    · simp[idx,c]
    simp only[idx,ur c,Bool.not_eq_true] at *;rw[c,Bool.false_or,uo]
    split<;>omega
theorem zb3 {α:Type} [DecidableEq α] {l m:List α} {k:Nat} {x y:α} (hx:l[k]?=some x) (hy:m[k]?=some y) (h:l.take k=m.take k) (e:x=y):l.take (k+1)=m.take (k+1):=by
  rw[un,un,h,hx,hy,e]
theorem zes {α:Type} {l m:List α} {k:Nat} {x y:α} (hx:l[k]?=some x) (hy:m[k]?=some y) (e:¬x=y):¬l=m:=fun h=>e (by rw[h,hy] at hx;injection hx with hx;exact hx.symm)
theorem zrg (l:List Coin) (p:Coin→Bool):Tells P 320 [.val (bsl zaz) l,.fn1 P zaz zs p] (.val i64T (idx p l)):=by
 refine zc Tryz.func320 rfl rfl rfl (fun ext w hext=>?_);refine ze (d:=0) rfl zi (fun hsl0=>?_);refine CQR ?_;refine qaj ?_;refine qdn ?_;refine qaP ?_;refine Lp (ι:=Nat) 0 (fun (k:Nat)=>(((((Fr.none).set 0 (.val (bsl zaz) l)).set 1 (.fn1 P zaz zs p)).set 6 (.val (bsl zaz) l)).set 7 (.val i64T (l.length:Int))).set 8 (.val i64T (k:Int))) (fun (k:Nat)=>Hp.none) (fun (k:Nat)=>k≤l.length∧idx p l=shift k (idx p (l.drop k))) (fun (k:Nat)=>l.length-k) (0) (⟨uf _,zjh p l⟩) ?_;intro k hinv;refine qar ?_;refine Cf (p:=k<l.length) (fun ht9=>?_) (fun ht9=>?_)
 ·
  obtain⟨x,hx⟩:∃x,l[k]?=some x:=ybF;refine qbh ?_;refine qah ?_;refine A0 mF ?_;refine qad ?_;refine A0 (zbH rfl rfl rfl zfo yh) ?_;refine A0 (zh rfl rfl ze2) ?_;refine qck ?_;refine zq (p:=p x=true) rfl yw (fun ht16=>?_) (fun ht16=>?_)
  ·
   refine qa7 ?_;refine qac ?_;exact zd rfl rfl (za rfl (hinv.2.trans (zoe hx ht16)).symm)
  refine qcp ?_;exact Nx (k+1) (⟨by omega,hinv.2.trans (zs0 hx ht16)⟩) ya
 refine qcT ?_;exact zd rfl rfl (za rfl (hinv.2.trans (zog ya)).symm)
theorem zmx (l:List Coin) (p:Coin→Bool):Tells P 286 [.val (bsl zaz) l,.fn1 P zaz zs p] (.val zs (l.any p)):=by
 refine zc Tryz.func286 rfl rfl rfl (fun ext w hext=>?_);refine ze (d:=0) rfl zi (fun hsl0=>?_);refine qdt ?_;refine A0 mF ?_;refine A0 (oCl (zrg _ _) rfl fn_320 ⟨yj,(zaa rfl rfl),trivial⟩) ?_;refine A0 zer ?_;refine qac ?_;exact zd rfl rfl (za rfl (zoh p l))
theorem zsX (l:List Out) (p:Out→Bool):Tells P 319 [.val (bsl outT) l,.fn1 P outT zs p] (.val i64T (idx p l)):=by
 refine zc Tryz.func319 rfl rfl rfl (fun ext w hext=>?_);refine ze (d:=0) rfl zi (fun hsl0=>?_);refine CQR ?_;refine qaj ?_;refine A0 (zat rfl rfl ziP) ?_;refine qaP ?_;refine Lp (ι:=Nat) 0 (fun (k:Nat)=>(((((Fr.none).set 0 (.val (bsl outT) l)).set 1 (.fn1 P outT zs p)).set 6 (.val (bsl outT) l)).set 7 (.val i64T (l.length:Int))).set 8 (.val i64T (k:Int))) (fun (k:Nat)=>Hp.none) (fun (k:Nat)=>k≤l.length∧idx p l=shift k (idx p (l.drop k))) (fun (k:Nat)=>l.length-k) (0) (⟨uf _,zjh p l⟩) ?_;intro k hinv;refine qar ?_;refine Cf (p:=k<l.length) (fun ht9=>?_) (fun ht9=>?_)
 ·
  obtain⟨x,hx⟩:∃x,l[k]?=some x:=ybF;refine qbh ?_;refine qah ?_;refine A0 mF ?_;refine qad ?_;refine A0 (zbH rfl rfl rfl zf7 yh) ?_;refine A0 (zh rfl rfl zf3) ?_;refine qck ?_;refine zq (p:=p x=true) rfl yw (fun ht16=>?_) (fun ht16=>?_)
  ·
   refine qa7 ?_;refine qac ?_;exact zd rfl rfl (za rfl (hinv.2.trans (zoe hx ht16)).symm)
  refine qcp ?_;exact Nx (k+1) (⟨by omega,hinv.2.trans (zs0 hx ht16)⟩) ya
 refine qcT ?_;exact zd rfl rfl (za rfl (hinv.2.trans (zog ya)).symm)
theorem zoF (l:List Out) (p:Out→Bool):Tells P 285 [.val (bsl outT) l,.fn1 P outT zs p] (.val zs (l.any p)):=by
 refine zc Tryz.func285 rfl rfl rfl (fun ext w hext=>?_);refine ze (d:=0) rfl zi (fun hsl0=>?_);refine qdt ?_;refine A0 mF ?_;refine A0 (oCl (zsX _ _) rfl fn_319 ⟨yj,(zaa rfl rfl),trivial⟩) ?_;refine A0 zer ?_;refine qac ?_;exact zd rfl rfl (za rfl (zoh p l))
theorem zi6 (l:List Coin) (hl:l.length*56≤140737488355328∧l.length≤9223372036854775807):Tells P 174 [.val (bsl zaz) l] (.fresh 228 zaz l):=by
 refine zc Tryz.func174 rfl rfl rfl (fun ext w hext=>?_);refine ze (d:=0) rfl zi (fun hsl0=>?_);refine qap ?_;refine qbe ?_;refine zii rfl rfl rfl rfl rfl zod (fun c4 hc4=>?_);refine CN ?_;refine zq (p:=c4=true) rfl yw (fun ht4=>?_) (fun ht4=>?_)
 ·
  obtain rfl:=hc4 ht4;refine qap ?_;refine CN ?_;exact zd rfl rfl (zm rfl)
 refine CSQR ?_;refine zbm (T:=zaz) (xs:=[]) rfl rfl rfl rfl zfo zgJ trivial rfl rfl ?_;refine qau ?_;refine zo rfl rfl rfl rfl rfl rfl rfl zgJ ya1 ?_;refine qbJ ?_;exact zd rfl rfl (zf rfl rfl yw)
end Go.Proofs.YtjjlfapfjjkomaaGreat
