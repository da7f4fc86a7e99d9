/- Parts of the proof: the layer that reads Go values as data, and what the functions of the program tell. -/
import Derived.RangeFuncRecord
import Derived.Shelf.SlSortCmp.NoneTotal
import Derived.WideKeyArgs
import Derived.ChangeOld
import Derived.Handed
import Derived.JoinedOf
import Derived.Carry
import Derived.RowKit
import Derived.MapKept
import Derived.Maps.RangeRun
import Derived.WideKeyRuns
import Derived.Test.YtgoebfjaaklopaaGreatProg
import Derived.KernelRfl
import Derived.Test.YtgoebfjaaklopaaGreatK2
set_option linter.unusedVariables false
set_option linter.unusedSimpArgs false
namespace Go.Ab
open Go.RowKit
section
variable {J:Job} {nx:Nat} {ρ:Nat→Value} {fr:Fr} {hp:Hp} {a:Act} {w w':World} {k:List It} {ops:Array Oper} {rest:List Oper} {o:Oper}
variable {α β γ:Type} {T:GoT α}
theorem zbn {n ty:Nat} {x:α} (hn:hp n = .box ty T x):zfL J hp (.ptr n 0) (.rptr T x):=zjT rfl hn (Lens.self T)
theorem zi8 {n ty:Nat} {X:AV} {x:α} (h:X = .ptr n 0) (hn:hp n = .box ty T x):zfL J hp X (.rptr T x):=h▸zbn hn
theorem run_clo {x : Operand} {f : FuncId} {caps : List Nat} {xs : Array Operand} {ts : Array TypeId} {As Cs : List AV} {X : AV} (hc : Tells J.P f (As ++ Cs) X) (ho : o.op = .call { callee := .value x, args := xs, argTypes := ts }) (hx : fr.ev x = .clo f caps) (hf : fnB J.P f = true) (ha : zhV J fr hp xs.toList As)
    (hb:∀n∈caps,∃ty,∃(γ:Type) (T:GoT γ) (x:γ),hp n = .box ty T x) (hcs:zkm J hp caps Cs) (s:SimR J nx ρ fr hp a w) :
    (execOp a.eval o).run J.P w = .ok (.enter f (xs.map a.eval++(caps.map ρ).toArray)) w∧Calls J.P f (xs.map a.eval++(caps.map ρ).toArray) w (zkX (Uu J ρ hp) w X):=by
  obtain⟨fn,h1,h2,h3⟩:=zcp hf;have hv:=zas s x;rw[hx] at hv;have hv:a.eval x=_:=hv;refine⟨zgO ho hv h1 h2 h3,?_⟩;have hargs:=zhG (s:=s.toSimH) (a:=a) (fun y _=>zas s y) ha;have hcaps:=zi4 s.toSimH hcs fun n hn=>by
    obtain⟨ty,γ,T,x,e⟩:=hb n hn
    have:=s.hrel n
    rw[e] at this;obtain⟨g,_,e,_⟩:=this;exact⟨g,e⟩
  have e:(xs.toList.map a.eval++caps.map ρ).toArray=xs.map a.eval++(caps.map ρ).toArray:=ybN
  have:=hc (Uu J ρ hp) w _ (fun b hb=>s.uu_lt hb) (zb6.append hargs hcaps)
  rw[e] at this;exact this
theorem zek {x : Operand} {f : FuncId} {caps : List Nat} {xs : Array Operand} {ts : Array TypeId} {As Cs : List AV} {d e : Nat} {l : List α} {X : AV} (hc : Tells J.P f (As ++ Cs) (.tup2 (.fresh e T l) X)) (ho : o.op = .call { callee := .value x, args := xs, argTypes := ts }) (hx : fr.ev x = .clo f caps) (hf : fnB J.P f = true) (ha : zhV J fr hp xs.toList As)
    (hb:∀n∈caps,∃ty,∃(γ:Type) (T:GoT γ) (x:γ),hp n = .box ty T x) (hcs:zkm J hp caps Cs) (hX:Flat X)
    (hd:o.dst=some d) (hg:o.guard=none) (hlt:Nat.blt d J.nt=true) (H:AW J (nx+1) (fr.set d (.tup2 (.own nx) X)) (hp.set nx (.row e T l)) (.ops ops rest::k)):AW J nx fr hp (.ops ops (o::rest)::k):=by
  intro a w ⟨ρ,s⟩;refine zZ hg yv fun K hK=>?_
  obtain⟨hr,hcall⟩:=run_clo hc ho hx hf ha hb hcs s;unfold Oper.wp;rw[hr,Oper.upon_enter];refine Calls.mono hcall fun en w' he=>?_
  cases en with
  | returned v =>
    obtain⟨hb,x,y,rfl,hx,hy⟩:=he;rw[hd];exact hK _ _ (H _ _ ⟨_,(zjP s hb hx).put yL ⟨x,y,rfl,yY,hX.2 _ _ _ _ _ _ _ _ _ _ _ hy⟩ ⟨Nat.lt_succ_self nx,AV.under_mono (uf _) (AV.under0_spec hX.1)⟩⟩)
  | panicked c=>exact he.elim
  | outgrown=>exact he.elim
theorem zfe {x : Operand} {f : FuncId} {caps : List Nat} {xs : Array Operand} {ts : Array TypeId} {As Cs : List AV} {d e : Nat} {l : List α} {X Y : AV} (hc : Tells J.P f (As ++ Cs) (.tup3 (.fresh e T l) X Y)) (ho : o.op = .call { callee := .value x, args := xs, argTypes := ts }) (hx : fr.ev x = .clo f caps) (hf : fnB J.P f = true) (ha : zhV J fr hp xs.toList As)
    (hb:∀n∈caps,∃ty,∃(γ:Type) (T:GoT γ) (x:γ),hp n = .box ty T x) (hcs:zkm J hp caps Cs) (hX:Flat X) (hY:Flat Y)
    (hd:o.dst=some d) (hg:o.guard=none) (hlt:Nat.blt d J.nt=true) (H:AW J (nx+1) (fr.set d (.tup3 (.own nx) X Y)) (hp.set nx (.row e T l)) (.ops ops rest::k)):AW J nx fr hp (.ops ops (o::rest)::k):=by
  intro a w ⟨ρ,s⟩;refine zZ hg yv fun K hK=>?_
  obtain⟨hr,hcall⟩:=run_clo hc ho hx hf ha hb hcs s;unfold Oper.wp;rw[hr,Oper.upon_enter];refine Calls.mono hcall fun en w' he=>?_
  cases en with
  | returned v =>
    obtain⟨hb,x,y,z,rfl,hx,hy,hz⟩:=he;rw[hd];exact hK _ _ (H _ _ ⟨_,(zjP s hb hx).put yL ⟨x,y,z,rfl,yY,hX.2 _ _ _ _ _ _ _ _ _ _ _ hy,hY.2 _ _ _ _ _ _ _ _ _ _ _ hz⟩ ⟨Nat.lt_succ_self nx,AV.under_mono (uf _) (AV.under0_spec hX.1),AV.under_mono (uf _) (AV.under0_spec hY.1)⟩⟩)
  | panicked c=>exact he.elim
  | outgrown=>exact he.elim
end
end Go.Ab
namespace Go.Ab
open Go.RowKit
def fnoT:GoT (Option Nat):=scT (fun f=>match f with|none=>.nilFunc|some f=>.func (.func f) #[] #[]) (fun _=>True) (fun x=>by cases x<;>rfl)
instance:Strict fnoT:=zeQ _ _ _
theorem zero_fno:Zero fnoT none [.nilFunc]:=fun _ _ _=>⟨rfl,trivial⟩
def FnOp (y:Operand) (x:Option Nat):Prop:=∃f,y = .func f∧x=some f
section
variable {J:Job} {nx:Nat} {fr:Fr} {hp:Hp} {k:List It} {ops:Array Oper} {rest:List Oper} {o:Oper}
theorem zsr {fr:Fr} {ρ:Nat→Value} {B U N:Nat→Prop} {w:World} {y:Operand} {x:Option Nat} {v:Value} (h:FnOp y x) (hv:(fr.ev y).rel ρ B U N w v):fnoT.val U N w x v:=by
  obtain⟨f,rfl,rfl⟩:=h;have hv:v = .func (.func f) #[] #[]:=hv;exact zk2.2 ⟨hv,trivial⟩
theorem g_bslF {t e n:Nat} {ps:List (Nat×Operand)} {xs:List (Option Nat)} (ho:o.op = .buildSlice t n ps.toArray) (hs:sliceB J.P t e fnoT.size=true) {bytes:Nat} (hrow:rowB J.P t e fnoT.size bytes=true) (hv:zoX FnOp 0 ps xs) (hn:n=xs.length) (hb:Nat.ble (n*fnoT.size) 16777216=true):OpG J o fr hp (.val (sl fnoT) xs) :=
  zpV (R:=FnOp) ho hs hrow hv zsr hn hb
theorem g_buildF {t e m:Nat} {hm:0<m} {ps:List (Nat×Operand)} {xs x0:List (Option Nat)} (ho:o.op = .build t ps.toArray) (ha:arrB J.P t m e fnoT.size=true) (hz:zbf J.P t (arrT m hm fnoT) x0) (hv:zoX FnOp 0 ps xs) (hl:Nat.beq ps.length m=true):OpG J o fr hp (.val (arrT m hm fnoT) xs) :=
  zsp (R:=FnOp) ho ha hz hv zsr hl
theorem zhE {d f:Nat} (hd:fr d = .val fnoT (some f)) (H:AW J nx (fr.set d (.clo f [])) hp k):AW J nx fr hp k:=fun a w ⟨ρ,s⟩=>by
  have h:=s.frel d;rw[hd] at h;refine H a w ⟨ρ,{ s.toSimH with size:=s.size,defers:=s.defers,frel:=fun t=>?_,fnx:=fun t=>?_,brel:=s.brel }⟩
  · rw[zag]
    by_cases c:t=d
    · rw[ut c,c];exact(zk2.1 h).1
    rw[ur c];exact s.frel t
  rw[zag];by_cases c:t=d
  · rw[ut c];intro c hc;cases hc
  rw[ur c];exact s.fnx t
theorem zke {α:Type} {T:GoT α} {x:Operand} {y:α} (ho:o.op = .nilCheck x) (hx:fr.ev x = .rptr T y):OpG J o fr hp (.rptr T y):=by
  refine .of_run (fun {_ _ _ w} s hr _=>?_) (fun h hn=>trivial);have h:=hr x yk;rw[hx] at h;refine⟨_,?_,h⟩;obtain⟨g,e1,e2⟩:=h;unfold execOp;rw[ho];simp[e1]
theorem aw_calluv {x : Operand} {f : FuncId} {n : Nat} {xs : Array Operand} {ts : Array TypeId} {As : List AV} {X : AV} {h0 h' : HE} {d : Nat} (hc : zfz J.P f h0 As X h') (ho : o.op = .call { callee := .value x, args := xs, argTypes := ts }) (hx : fr.ev x = .clo f []) (hf : fnB J.P f = true) (hn : hp n = h0) (hl : h0.live) (hl' : h'.live) (hX : X.under0 = true)
    (ha:zio J fr hp n xs.toList As) (hd:o.dst=some d) (hg:o.guard=none) (hlt:Nat.blt d J.nt=true) (H:AW J nx (fr.set d X) (hp.set n h') (.ops ops rest::k)) (hu0:h0.under 0:=by exact trivial) (hu1:h'.under 0:=by exact trivial):AW J nx fr hp (.ops ops (o::rest)::k):=by
  intro a w ⟨ρ,s⟩;refine zZ hg yv fun K hK=>?_
  obtain⟨fn,h1,h2,h3⟩:=zcp hf;have hxv:=zas s x;rw[hx] at hxv;have hxv:a.eval x = .func (.func f) #[] #[]:=hxv;unfold Oper.wp;rw[zgO ho hxv h1 h2 h3,Oper.upon_enter,Array.append_empty];have hlive:(hp n).live:=ybT;have e:=zlT s.toSimH hlive;refine Calls.mono (ziB (fn:=fn) (ts:=ts) hc hf hn hl ha s hu0) fun en w' he=>?_
  have hbU:bU (fun b=>Uu J ρ hp b∧¬gN (ρ n) b) (ρ n) h'=Uu J ρ hp:=by
    refine Eq.trans ?_ e;funext b;unfold bU gU;exact propext ⟨fun h=>h.imp id (fun h=>h.2),fun h=>h.imp id (fun h=>⟨hl',h⟩)⟩
  cases en with
  | returned v =>
    obtain⟨hb,hr,hv⟩:=he;rw[hbU] at hr hv;rw[hd];have s':=s.given hlive hl' hb (HE.rel_B hu1 (HE.rel_ren (ρ:=ρ0) (nx:=0) (fun n hn=>by omega) hu1 hr)) (HE.under_mono (uf _) hu1);have hu:=AV.under0_spec hX;refine hK _ _ (H _ _ ⟨ρ,s'.put yL ?_ (AV.under_mono (uf _) hu)⟩);have hle:∀b,Uu J ρ (hp.set n h') b→Uu J ρ hp b:=fun b hb=>hb.imp id fun ⟨m,h1,h2⟩=>by
      rw[zj] at h1;by_cases c:m=n
      · exact⟨n,hlive,by rw[←c];exact h2⟩
      rw[ur c] at h1;exact⟨m,h1,h2⟩
    exact AV.rel_mono (nx:=0) ⟨fun _ h=>h,ug _,fun _ _ _=>rfl,fun b _ h=>hle b h,fun b _ h=>hle b (.inr h)⟩ hu (AV.rel_ren (ρ:=ρ0) (ρ':=ρ) (fun n hn=>by omega) hu (AV.rel_B (B':=J.B) hu hv))
  | panicked c=>exact he.elim
  | outgrown=>exact he.elim
end
end Go.Ab
namespace Go.Ab
open Go.RowKit
def Job.withDs (J:Job) (ds:List Deferred):Job:={ J with ds:=ds }
theorem zh9 (J:Job) (ds:List Deferred):∀k,Kont (J.withDs ds) k=Kont J k
  | []=>rfl
  | .code c::k=>by show Exit.then _ _=Exit.then _ _;rw[zh9 J ds k];rfl
  | .ops ops l::k=>by show Exit.then _ _=Exit.then _ _;rw[zh9 J ds k];rfl
  | .inBlock id::k=>by show Exit.inBlock id _=Exit.inBlock id _;rw[zh9 J ds k]
  | .again T::k=>by show Exit.then _ _=Exit.then _ _;rw[zh9 J ds k]
  | .inScope l T::k=>by show Exit.jump l _ _=Exit.jump l _ _;rw[zh9 J ds k]
structure JobEq (J' J:Job):Prop where
  w0:J'.w0=J.w0
  ext:J'.ext=J.ext
  gr:J'.gr=J.gr
  kg:J'.kg=J.kg
  ρg:J'.ρg=J.ρg
section
variable {J J':Job} {nx:Nat} {ρ:Nat→Value} {fr fr':Fr} {hp:Hp} {a a':Act} {w w':World} {k:List It} {ops:Array Oper} {rest:List Oper} {o:Oper}
theorem JobEq.B (e:JobEq J' J):J'.B=J.B:=by funext b;unfold Job.B;rw[e.w0,e.gr]
theorem JobEq.Uu (e:JobEq J' J):Uu J' ρ hp=Uu J ρ hp:=by funext b;unfold Ab.Uu;rw[e.ext]
theorem SimH.job (s:SimH J nx ρ hp w) (e:JobEq J' J) (hb:J'.bn≤nx):SimH J' nx ρ hp w where
  kle:=by rw[e.kg];exact s.kle
  ble:=hb
  named n hn:=by rw[e.ρg];exact s.named n (by rw[←e.kg];exact hn)
  below:=by rw[e.gr,e.w0];exact s.below
  hrel n:=by rw[e.B,e.Uu];exact s.hrel n
  hun:=s.hun
  hnx:=s.hnx
  new n b hl hb:=by rw[e.gr,e.w0];exact s.new n b hl hb
  inj:=s.inj
theorem SimR.job (s:SimH J nx ρ hp w) (e:JobEq J' J) (hb:J'.bn≤nx) (hsz:a'.tmps.size=J'.nt) (hds:a'.defers=J'.ds)
    (hfr:∀t,(fr' t).rel ρ J.B (Uu J ρ hp) (Nn ρ hp) w (a'.tmps.getD t undef)) (hfx:∀t,(fr' t).under nx) (hbg:∀p∈J'.bg,∀t,(p.1 t).rel ρ J.B (Uu J ρ hp) (Nn ρ hp) w (p.2.tmps.getD t undef)):SimR J' nx ρ fr' hp a' w :=
  { s.job e hb with
    size:=hsz
    defers:=hds
    frel:=fun t=>by rw[e.B,e.Uu];exact hfr t
    fnx:=hfx
    brel:=fun p hp t=>by rw[e.B,e.Uu];exact hbg p hp t }
def HE.isBox:HE→Bool
  | .box .. | .parts ..=>true
  | _=>false
theorem SimH.ptr_of_box (s:SimH J nx ρ hp w) {n:Nat} (h:(hp n).isBox=true):(∃g,ρ n = .pointer (some ⟨g,0,none⟩))∧n<nx:=by
  refine⟨?_,Nat.lt_of_not_le fun hle=>by rw[s.hnx n hle] at h;cases h⟩;have hr:=s.hrel n;revert hr h;generalize hp n=x;cases x with
  | box ty T x=>intro _ ⟨g,_,e,_⟩;exact⟨g,e⟩
  | parts ty xs=>intro _ ⟨g,_,e,_⟩;exact⟨g,e⟩
  | none_=>intro h;cases h
  | row=>intro h;cases h
  | objAt=>intro h;cases h
theorem SimR.putObj (s:SimR J nx ρ fr hp a w) {n b:Nat} {o o':Obj} (hn:hp n = .objAt b o):w.heap[b]?=some o∧SimR J nx ρ fr (hp.set n (.objAt b o')) a (w.putObj b o'):=by
  have hh:=s.hrel n;rw[hn] at hh;obtain⟨e,hb⟩:=hh;refine⟨hb,s.modify hn trivial trivial yx rfl rfl rfl (fun c hc=>World.putObj_heap_other (fun e'=>hc (by rw[e,e'];rfl))) fun _=>⟨e,World.putObj_heap_same (Array.getElem?_eq_some_iff.1 hb).1⟩⟩
theorem SimR.getObj (s:SimR J nx ρ fr hp a w) {n b:Nat} {o:Obj} (hn:hp n = .objAt b o):w.heap[b]?=some o:=by
  have hh:=s.hrel n;rw[hn] at hh;exact hh.2
theorem zi9 {nD D:Nat} (hds:J.ds=[{ target:=.collected D,args:=#[] }]) (hrd:J.rd=none) (hD:hp nD = .objAt D (.deferred (some []))) (H:AR (J.withDs []) nx fr (hp.set nD (.objAt D (.deferred none)))):AR J nx fr hp:=by
  intro a w ⟨ρ,s⟩;obtain⟨h1,h2⟩:=s.putObj (o':=.deferred none) hD;refine J.mark hrd a w _ D (s.defers.trans hds) (run_takeDeferred h1) (H { a with defers:=[] } _ ⟨ρ,?_⟩);exact SimR.job h2.toSimH yan h2.ble h2.size rfl h2.frel h2.fnx h2.brel
structure LoopOk (J:Job) (nx:Nat) (fr:Fr) (a:Act):Prop where
  hsz:a.tmps.size=J.nt
  had:a.defers=[]
  hrd:J.rd=none
  hfr:∀t,(fr t).under nx
  hbn:J.bn≤nx
structure LoopC where
  J:Job
  nx:Nat
  fr:Fr
  a:Act
  k:List It
  fid:FuncId
  ps:Array Tmp
  asg:Code
  body:Code
  l:Nat
  D:Nat
  ok:LoopOk J nx fr a
def LoopC.mark (C:LoopC):List Deferred:=[{ target:=.collected C.D,args:=#[] }]
def LoopC.act (C:LoopC):Act:={ C.a with defers:=C.mark }
def LoopC.record (C:LoopC) (st:LoopState) (pe:Option Code):Loop:={ state:=st,pending:=pe,fn:=C.fid,tmps:=C.a.tmps,params:=C.ps,assign:=C.asg,body:=C.body,defers:=C.D }
def LoopC.rc (C:LoopC) (st:LoopState) (pe:Option Code):Obj:=.loop (C.record st pe)
def LoopC.R (C:LoopC) (e:Ending) (w:World):Prop:=(∃v,e = .returned v)∧rangePost Fence.wide 0 C.J.P C.l (Kont C.J C.k) C.act e w
def LoopC.iter (C:LoopC) (fni:Func):Job :=
  { C.J with
    fn:=fni,nt:=fni.ntmps,R:=C.R,rd:=none,ds:=[],bg:=(C.fr,C.a)::C.J.bg,bn:=C.nx
    bgb:=fun p hp t=>by
      rcases List.mem_cons.1 hp with e|hp
      · rw[e];exact C.ok.hfr t
      exact AV.under_mono C.ok.hbn (C.J.bgb p hp t)
    post:=bodyPostM Fence.wide 0 C.J.P fni C.R
    nrm:=fun _ _ _ h=>h
    fin:=fun _ _ _ _ h1 h2 _ h3=>zei h1 h2 h3
    mark:=fun _ _ _ _ _ h1 h2 h3=>zhB h1 h2 h3 }
theorem LoopC.eq (C:LoopC) (fni:Func):JobEq (C.iter fni) C.J:=yan
theorem J_wide (h:J.rd=none):J.F=Fence.wide:=by unfold Job.F;rw[h];rfl
theorem zoN {g:Operand} {ps:Array Tmp} {asg body:Code} {f:FuncId} {caps:List Nat} {fni:Func} {c:Code}
    (hrd:J.rd=none) (hds:J.ds=[]) (hg:fr.ev g = .clo f caps) (hf:J.P.funcs[f]?=some fni) (hfb:fnB J.P f=true) (hb:fni.body=some c) (hn:Nat.ble (caps.length+1) fni.ntmps=true) (hcb:∀n∈caps,(hp n).isBox=true)
    (H:∀(fid:FuncId) (a:Act) (l D:Nat) (ok:LoopOk J nx fr a) (rc:LoopState→Option Code→Obj) (hrc:rc=LoopC.rc ⟨J,nx,fr,a,k,fid,ps,asg,body,l,D,ok⟩),
      AW (LoopC.iter ⟨J,nx,fr,a,k,fid,ps,asg,body,l,D,ok⟩ fni) (nx+2) (Fr.args 0 (.lit (.func (.yield l) #[] #[])::caps.map fun n=>.ptr n 0) Fr.none)
        ((hp.set nx (.objAt D (.deferred (some [])))).set (nx+1) (.objAt l (rc .ready none))) [.code c]) :
    AW J nx fr hp (.code (.rangeFunc g ps asg body)::k):=by
  intro a w ⟨ρ,s⟩;have hv:a.eval g = .func (.func f) #[] (caps.map ρ).toArray:=by
    have:=zas s g
    rw[hg] at this;exact this
  have had:a.defers=[]:=s.defers.trans hds;have hn:caps.length+1≤fni.ntmps:=ybP;show(Code.rangeFunc g ps asg body).wpIn J.F 0 J.P (Kont J k) a w;rw[J_wide hrd];refine wpIn_rangeFunc ?_;intro fid hfid;obtain⟨C,hC⟩:∃C:LoopC,C=⟨J,nx,fr,a,k,fid,ps,asg,body,w.heap.size+1,w.heap.size,⟨s.size,had,hrd,s.fnx,s.ble⟩⟩:=⟨_,rfl⟩;have H:=H fid a (w.heap.size+1) w.heap.size ⟨s.size,had,hrd,s.fnx,s.ble⟩ _ rfl;rw[←hC] at H;have hrec:C.record .ready none = { state:=.ready,pending:=none,fn:=fid,tmps:=a.tmps,params:=ps,assign:=asg,body:=body,defers:=w.heap.size }:=by rw[hC];rfl
  obtain⟨W1,hW1⟩:∃W1,(w.alloc (.deferred (some []))).alloc (.loop (C.record .ready none))=W1:=⟨_,rfl⟩
  refine⟨w.heap.size+1,[{ target:=.collected w.heap.size,args:=#[] }],W1,{ target:=.fn (.func f) (caps.map ρ).toArray,args:=#[.func (.yield (w.heap.size+1)) #[] #[]] },W1,f,
    #[.func (.yield (w.heap.size+1)) #[] #[]]++(caps.map ρ).toArray,W1,?_,?_,fun _ _=>trivial,?_,(fun h=>by cases h),?_⟩
  · rw[←hW1,hrec];exact run_enterLoop_outer _ _ _ _ _
  · simp only[resolve,hv]
    simp[go_sem]
  · obtain⟨fn',h1,h2,h3⟩:=zcp hfb
    have hne : fn'.name ≠ "runtime.NumGoroutine" := by simpa using h3
    have hbn:fn'.body≠none:=by intro e;rw[e] at h2;cases h2
    simp[invoke,callFunc,h1,hne,hbn,Sem.run_bind]
  have h1:=s.bind (p:=.pointer (some ⟨w.heap.size,0,none⟩)) (x:=.objAt w.heap.size (.deferred (some []))) (zb5 w _) (fun b e=>by simp only[zaN,Option.some.injEq] at e;subst e;exact⟨ug _,by simp⟩) fun _=>⟨rfl,heap_alloc_new w _⟩
  have h2:=h1.bind (p:=.pointer (some ⟨(w.alloc (.deferred (some []))).heap.size,0,none⟩)) (x:=.objAt (w.heap.size+1) (C.rc .ready none)) (zb5 _ (.loop (C.record .ready none))) (fun b e=>by simp only[zaN,Option.some.injEq] at e;subst e;exact⟨ug _,by simp⟩)
    fun _=>⟨by rw[World.size_alloc],by have:=heap_alloc_new (w.alloc (.deferred (some []))) (.loop (C.record .ready none));rwa [World.size_alloc] at this⟩
  rw[hW1] at h2;generalize hρ2:ren (ren ρ nx _) (nx+1) _=ρ2 at h2;have hren:∀n,n<nx→ρ2 n=ρ n:=fun n hn=>by rw[←hρ2];unfold ren;rw[ur ya,ur ya]
  have hcap:∀n∈caps,(∃g,ρ2 n = .pointer (some ⟨g,0,none⟩))∧n<nx:=fun n hm=>by
    obtain⟨⟨g,e⟩,hlt⟩:=s.toSimH.ptr_of_box (hcb n hm);exact⟨⟨g,by rw[hren n hlt,e]⟩,hlt⟩
  have hmap:caps.map ρ=caps.map ρ2:=List.map_congr_left fun n hm=>(hren n (hcap n hm).2).symm
  refine CallsIn.mono (R:=C.R) (callsIn_of_wp_marks hf hb trivial ?_) (fun e w' h=>by have h:=h.2;rw[hC] at h;simpa [LoopC.act,LoopC.mark,had] using h);generalize hp2:(hp.set nx _).set (nx+1) _=hp2' at h2 H
  have hfr:=zeT (P:=fun _ A v=>A.rel ρ2 C.J.B (Uu C.J ρ2 hp2') (Nn ρ2 hp2') W1 v∧A.under (nx+2)) (fun _ _=>⟨trivial,trivial⟩) (i:=0) (f:=Fr.none) (g:=fun _=>undef)
    (As:=.lit (.func (.yield (w.heap.size+1)) #[] #[])::caps.map fun n=>.ptr n 0) (vs:=.func (.yield (w.heap.size+1)) #[] #[]::caps.map ρ2) yx
    (fun j A v e1 e2 _=>by
      cases j with
      | zero=>simp at e1 e2;subst e1;subst e2;exact⟨rfl,trivial⟩
      | succ j =>
        simp only[List.getElem?_cons_succ,List.getElem?_map,Option.map_eq_some_iff] at e1 e2;obtain⟨n,hn1,rfl⟩:=e1;obtain⟨m,hm1,rfl⟩:=e2;obtain rfl:n=m:=ybV;obtain⟨⟨g,e⟩,hlt⟩:=hcap n (ud hn1);exact⟨⟨g,e,e⟩,Nat.lt_of_lt_of_le hlt (Nat.le_add_right _ _)⟩) (fun t=>⟨trivial,trivial⟩) (fun _ _=>rfl)
  have hJ:C.J=J:=by rw[hC]
  have harr:#[Value.func (.yield (w.heap.size+1)) #[] #[]]++(caps.map ρ).toArray=(Value.func (.yield (w.heap.size+1)) #[] #[]::caps.map ρ2).toArray:=by rw[hmap];simp
  rw[harr,show J.P=C.J.P by rw[hJ]];show Kont (C.iter fni) [.code c] .normal _ W1;refine H { tmps:=(Value.func (.yield (w.heap.size+1)) #[] #[]::caps.map ρ2).toArray++Array.replicate (fni.ntmps-(Value.func (.yield (w.heap.size+1)) #[] #[]::caps.map ρ2).toArray.size) undef,defers:=[] } W1 ⟨ρ2,SimR.job (J:=C.J) (hJ▸h2.toSimH) (C.eq fni) (by show C.nx≤nx+2;rw[hC];exact Nat.le_add_right _ _) ?_ rfl (fun t=>?_) (fun t=>(hfr t).2) (fun p hp t=>?_)⟩
  · show((_:List Value).toArray++_).size=fni.ntmps
    simp;omega
  · have e : ((Value.func (.yield (w.heap.size + 1)) #[] #[] :: caps.map ρ2).toArray ++ Array.replicate (fni.ntmps - (Value.func (.yield (w.heap.size + 1)) #[] #[] :: caps.map ρ2).toArray.size) undef).getD t undef = ((Value.func (.yield (w.heap.size + 1)) #[] #[] :: caps.map ρ2)[t]?).getD undef := by
      generalize (Value.func (.yield (w.heap.size+1)) #[] #[]::caps.map ρ2)=vs;rw[Array.getD_eq_getD_getElem?,Array.getElem?_append];by_cases c:t<vs.toArray.size
      · rw[ut c];simp
      rw[ur c];have hv:vs[t]?=none:=by simpa using c
      rw[hv,Array.getElem?_replicate]
      split<;>rfl
    rw[e];have h1:=(hfr t).1;rw[ur (Nat.not_lt_zero t),Nat.sub_zero] at h1;exact h1
  have hp:p=(C.fr,C.a)∨p∈C.J.bg:=List.mem_cons.1 hp;rw[hC] at hp ⊢;rcases hp with e|hp
  · rw[e];exact h2.frel t
  exact h2.brel p hp t
theorem sim_back {C:LoopC} {fni:Func} {ds:List Deferred} (s:SimR (C.iter fni) nx ρ fr hp a w) (hds:ds=C.mark):SimR (C.J.withDs ds) nx ρ C.fr hp C.act w :=
  SimR.job s.toSimH yan (Nat.le_trans C.ok.hbn s.ble) C.ok.hsz hds.symm (s.brel (C.fr,C.a) (List.mem_cons_self ..)) (fun t=>AV.under_mono s.ble (C.ok.hfr t)) fun p hp t=>s.brel p (List.mem_cons_of_mem _ hp) t
theorem zsj {C:LoopC} {fni:Func} {nL:Nat} {st:LoopState} {pe:Option Code} (hres:fni.results = #[]) {rc:LoopState→Option Code→Obj} (hrc:rc=C.rc) (hL:hp nL = .objAt C.l (rc st pe)) (hst:st≠.busy)
    (H:AW (C.J.withDs C.mark) nx C.fr (hp.set nL .none_) (match pe with|none=>C.k|some c=>.code c::C.k)) (s:SimR (C.iter fni) nx ρ fr hp a w):bodyPostM Fence.wide 0 C.J.P fni C.R .ret a w:=by
  subst hrc;obtain⟨h1,h2⟩:=s.putObj (o':=.loop (C.record .exhausted pe)) hL;refine zei s.defers (results_none hres _ _ _) ⟨⟨_,rfl⟩,pe,_,run_endLoop h1 hst,?_⟩;have s2:=sim_back (h2.drop nL) (rfl:C.mark=C.mark);have e:(hp.set nL (.objAt C.l (.loop (C.record .exhausted pe)))).set nL .none_=hp.set nL .none_:=by
    funext t
    rw[zj,zj,zj];by_cases c:t=nL
    · rw[ut c,ut c]
    rw[ur c,ur c,ur c]
  rw[e] at s2
  have:=H _ _ ⟨ρ,s2⟩
  cases pe with
  | none=>rw[zh9] at this;exact this
  | some c =>
    have hk:Kont (C.J.withDs C.mark) (.code c::C.k)=Kont C.J (.code c::C.k):=zh9 _ _ _;rw[hk] at this;have h3:c.wpIn C.J.F 0 C.J.P (Kont C.J C.k) C.act _:=this;rw[J_wide C.ok.hrd] at h3;exact h3
theorem zrj {C:LoopC} {fni:Func} {nL:Nat} {st:LoopState} {pe:Option Code} (hres:fni.results = #[]) {rc:LoopState→Option Code→Obj} (hrc:rc=C.rc) (hL:hp nL = .objAt C.l (rc st pe)) (hst:st≠.busy)
    (H:AW (C.J.withDs C.mark) nx C.fr (hp.set nL .none_) (match pe with|none=>C.k|some c=>.code c::C.k)):AW (C.iter fni) nx fr hp (.code .ret::k) :=
  zcb fun a w ⟨ρ,s⟩=>zsj hres hrc hL hst H s
theorem zhd {C:LoopC} {fni:Func} {nL:Nat} {st:LoopState} {pe:Option Code} (hres:fni.results = #[]) {rc:LoopState→Option Code→Obj} (hrc:rc=C.rc) (hL:hp nL = .objAt C.l (rc st pe)) (hst:st≠.busy)
    (H:AW (C.J.withDs C.mark) nx C.fr (hp.set nL .none_) (match pe with|none=>C.k|some c=>.code c::C.k)):AW (C.iter fni) nx fr hp [] :=
  fun _ _ ⟨_,s⟩=>zsj hres hrc hL hst H s
structure YieldOk (C:LoopC) (fni:Func) (nx:Nat) (fr:Fr) (a:Act) (d:Nat):Prop where
  hsz:a.tmps.size=fni.ntmps
  had:a.defers=[]
  hlt:d<fni.ntmps
  hfr:∀t,(fr t).under nx
  hbn:C.nx≤nx
structure YieldC where
  C:LoopC
  fni:Func
  nx:Nat
  fr:Fr
  a:Act
  d:Nat
  k:List It
  ok:YieldOk C fni nx fr a d
def YieldC.next (Y:YieldC) (v:Value) (w:World):Prop:=Kont (Y.C.iter Y.fni) Y.k .normal (Y.a.put (some Y.d) v) w
def YieldC.R (Y:YieldC):Ending→World→Prop
  | .returned v,w=>Y.next v w
  | _,_=>False
def YieldC.round (Y:YieldC):Job :=
  { Y.C.J with
    rd:=some Y.C.l,ds:=[],bg:=(Y.fr,Y.a)::(Y.C.fr,Y.C.a)::Y.C.J.bg,bn:=Y.nx
    bgb:=fun p hp t=>by
      rcases List.mem_cons.1 hp with e|hp
      · rw[e];exact Y.ok.hfr t
      rcases List.mem_cons.1 hp with e|hp
      · rw[e];exact AV.under_mono Y.ok.hbn (Y.C.ok.hfr t)
      exact AV.under_mono (Nat.le_trans Y.C.ok.hbn Y.ok.hbn) (Y.C.J.bgb p hp t)
    post:=roundPost Y.C.J.P Y.C.l Y.R
    nrm:=fun h=>by cases h
    fin:=fun h=>by cases h
    mark:=fun h=>by cases h }
def YieldC.asg (Y:YieldC):Job :=
  { Y.round with
    post:=fun e a w=>match e with
      | .normal=>∃w2,(Instr.beginRound Y.C.l).run Y.C.J.P w = .ok () w2∧Kont Y.round [.code Y.C.body] .normal a w2
      | _=>False
    nrm:=fun h=>by cases h
    fin:=fun h=>by cases h
    mark:=fun h=>by cases h }
def Fr.setL:Fr→List Tmp→List AV→Fr
  | f,t::ts,x::xs=>Fr.setL (f.set t x) ts xs
  | f,_,_=>f
theorem zrL {P:AV→Value→Prop} (nt:Nat):∀{ps:List Tmp} {xs:List AV} {vs:List Value} {f:Fr} {tm:Array Value},tm.size=nt→(∀p∈ps,p<nt)→(∀(j:Nat) x v,xs[j]?=some x→vs[j]?=some v→P x v)→xs.length=vs.length→(∀t,P (f t) (tm.getD t undef))→
    ∀t,P (Fr.setL f ps xs t) (((ps.zip vs).foldl (fun tm (p:Tmp×Value)=>tm.setIfInBounds p.1 p.2) tm).getD t undef)
  | [],xs,vs,f,tm,_,_,_,_,hf,t=>hf t
  | p::ps,[],[],f,tm,_,_,_,_,hf,t=>hf t
  | p::ps,x::xs,[],f,tm,_,_,_,hl,_,_=>by simp at hl
  | p::ps,[],v::vs,f,tm,_,_,_,hl,_,_=>by simp at hl
  | p::ps,x::xs,v::vs,f,tm,hsz,hps,hx,hl,hf,t=>by
    refine zrL nt (ps:=ps) (xs:=xs) (vs:=vs) (f:=f.set p x) (tm:=tm.setIfInBounds p v) (by simpa using hsz) (fun q hq=>hps q (by simp[hq])) (fun j y u h1 h2=>hx (j+1) y u (by simpa using h1) (by simpa using h2)) yaC (fun t=>?_) t;rw[zag];by_cases e:t=p
    · subst e
      have hp:t<tm.size:=by rw[hsz];exact hps t yx
      rw[ut rfl]
      have:(tm.setIfInBounds t v).getD t undef=v:=by simp[Array.getD,hp]
      rw[this];exact hx 0 x v rfl rfl
    rw[ur e];have hne:p≠t:=fun h=>e h.symm
    have:(tm.setIfInBounds p v).getD t undef=tm.getD t undef:=by simp[Array.getD_eq_getD_getElem?,Array.getElem?_setIfInBounds,hne]
    rw[this];exact hf t
theorem setL_size {ps:List Tmp}:∀{vs:List Value} {tm:Array Value},((ps.zip vs).foldl (fun tm (p:Tmp×Value)=>tm.setIfInBounds p.1 p.2) tm).size=tm.size:=by
  induction ps with
  | nil=>intro vs tm;rfl
  | cons p ps ih =>
    intro vs tm;cases vs with
    | nil=>rfl
    | cons v vs=>rw[List.zip_cons_cons,List.foldl_cons,ih];simp
theorem zm1 {nx:Nat}:∀{ps:List Tmp} {xs:List AV} {f:Fr},(∀t,(f t).under nx)→(∀x∈xs,x.under nx)→∀t,(Fr.setL f ps xs t).under nx
  | [],_,_,hf,_,t=>hf t
  | _::_,[],_,hf,_,t=>hf t
  | p::ps,x::xs,f,hf,hx,t=>zm1 (ps:=ps) (xs:=xs) (f:=f.set p x) (fun t=>by
    rw[zag];by_cases e:t=p
    · rw[ut e];exact hx x yx
    rw[ur e];exact hf t) (fun y hy=>hx y ybi) t
theorem zmC {x : Operand} {xs : Array Operand} {ts : Array TypeId} {P : Program} {l : Nat} {r : Loop} (ho : o.op = .call { callee := .value x, args := xs, argTypes := ts }) (hx : a.eval x = .func (.yield l) #[] #[]) (h : w.heap[l]? = some (.loop r)) (hs : xs.size = r.params.size) :
    (execOp a.eval o).run P w = .ok (.round l r.fn ((r.params.zip (xs.map a.eval)).foldl (fun tmps (t,a)=>tmps.setIfInBounds t a) r.tmps) r.assign r.body) w:=by
  have:=run_yield (P:=P) (args:=xs.map a.eval) h (by simpa using hs)
  unfold execOp;rw[ho];simp only[resolve,hx,Deferred.ofValue,Sem.run_bind,Sem.run_pure,Result.andThen_ok,invoke,Array.empty_append,Array.append_empty];simpa using this
theorem zmE {P:Program} {l:Nat} {R R':Ending→World→Prop} (h:∀v w,R (.returned v) w→R' (.returned v) w):∀{e:Exit} {a:Act} {w:World},roundPost P l R e a w→roundPost P l R' e a w
  | .normal,_,_,⟨v,w',h1,h2⟩=>⟨v,w',h1,h _ _ h2⟩
  | .ret,_,_,⟨v,w',h1,h2⟩=>⟨v,w',h1,h _ _ h2⟩
  | .exit _,_,_,⟨v,w',h1,h2⟩=>⟨v,w',h1,h _ _ h2⟩
  | .goto _,_,_,⟨v,w',h1,h2⟩=>⟨v,w',h1,h _ _ h2⟩
  | .panic _,_,_,h'=>h'.elim
  | .outgrown,_,_,h'=>h'.elim
theorem zoK {C : LoopC} {fni : Func} {x : Operand} {xs : Array Operand} {ts : Array TypeId} {d nL : Nat} (ho : o.op = .call { callee := .value x, args := xs, argTypes := ts }) (hd : o.dst = some d) (hg : o.guard = none) (hlt : Nat.blt d fni.ntmps = true) (hx : fr.ev x = .lit (.func (.yield C.l) #[] #[]))
    {rc:LoopState→Option Code→Obj} (hrc:rc=C.rc) (hL:hp nL = .objAt C.l (rc .ready none)) (hps:xs.size=C.ps.size) (hpl:C.ps.toList.all (fun p=>Nat.blt p C.J.nt)=true)
    (H:∀(a:Act) (ok:YieldOk C fni nx fr a d),
      AW (YieldC.asg ⟨C,fni,nx,fr,a,d,.ops ops rest::k,ok⟩) nx (Fr.setL C.fr C.ps.toList (xs.toList.map fr.ev)) hp [.code C.asg]) :
    AW (C.iter fni) nx fr hp (.ops ops (o::rest)::k):=by
  subst hrc;intro a w ⟨ρ,s⟩;have hlt:d<fni.ntmps:=yL;refine wpListIn_plain hg fun K hK=>?_
  have hxv:=zas s x;rw[hx] at hxv;have hxv:a.eval x=_:=hxv;have hl:=s.getObj hL;have hry:=zmC (P:=C.J.P) ho hxv hl hps;have H:=H a ⟨s.size,s.defers,hlt,s.fnx,s.ble⟩;generalize hY:YieldC.mk C fni nx fr a d (.ops ops rest::k) ⟨s.size,s.defers,hlt,s.fnx,s.ble⟩=Y at H;have hYC:Y.C=C:=by rw[←hY]
  refine⟨fun _ _=>trivial,?_⟩;show o.uponIn Fence.wide 0 C.J.P a K _ ((o.semAt none a.eval).run C.J.P w);rw[Oper.semAt_none,hry,Oper.uponIn_round];refine⟨(fun h=>by cases h),?_⟩
  have key:=H { tmps:=(C.ps.toList.zip (xs.toList.map a.eval)).foldl (fun tm (p:Tmp×Value)=>tm.setIfInBounds p.1 p.2) C.a.tmps,defers:=[] } w ⟨ρ,SimR.job s.toSimH (by subst hY;exact yan) (by subst hY;exact ug _)
    (by rw[setL_size];subst hY;exact C.ok.hsz) (by subst hY;rfl)
    (fun t=>zrL (P:=fun A v=>A.rel ρ (C.iter fni).B (Uu (C.iter fni) ρ hp) (Nn ρ hp) w v) C.J.nt C.ok.hsz (fun p hp=>by have:=List.all_eq_true.1 hpl p hp;simpa using this) (fun j A v h1 h2=>by
      rw[List.getElem?_map,Option.map_eq_some_iff] at h1 h2;obtain⟨y,hy,rfl⟩:=h1;obtain⟨z,hz,rfl⟩:=h2;obtain rfl:y=z:=by rw[hy] at hz;exact Option.some.inj hz
      exact zas s y) yx (fun t=>s.brel (C.fr,C.a) (List.mem_cons_self ..) t) t)
    (zm1 (fun t=>AV.under_mono s.ble (C.ok.hfr t)) (fun A hA=>by
      obtain⟨y,_,rfl⟩:=List.mem_map.1 hA;exact zca s.fnx y))
    (fun p hp t=>by
      have hp:p∈(fr,a)::(C.fr,C.a)::C.J.bg:=by subst hY;exact hp
      rcases List.mem_cons.1 hp with e|hp
      · rw[e];exact s.frel t
      exact s.brel p hp t)⟩
  have hrt:(C.ps.toList.zip (xs.toList.map a.eval)).foldl (fun tm (p:Tmp×Value)=>tm.setIfInBounds p.1 p.2) C.a.tmps=((C.record .ready none).params.zip (xs.map a.eval)).foldl (fun tmps (t,a)=>tmps.setIfInBounds t a) (C.record .ready none).tmps:=by
    show _=(C.ps.zip (xs.map a.eval)).foldl _ C.a.tmps;rw[←Array.foldl_toList,Array.toList_zip,Array.toList_map]
  rw[hrt] at key;have hgo:∀ar,Kont Y.asg [.code C.asg] .normal ar w→C.asg.wpIn (Fence.wide.inRound C.l) 0 C.J.P (Kont Y.asg []) ar w:=fun ar hk=>by subst hY;exact hk
  refine roundIn_of_wpIn trivial (wpIn_mono (Q:=Kont Y.asg []) (hgo _ key) ?_);intro e a1 w1 hq;cases e with
  | normal =>
    obtain⟨w2,h1,h2⟩:=hq;refine⟨w2,by rw[←hYC];exact h1,?_⟩;have h3:C.body.wpIn (Fence.wide.inRound C.l) 0 C.J.P (roundPost C.J.P C.l Y.R) a1 w2:=by subst hY;exact h2
    refine wpIn_mono h3 fun e a w h=>zmE (fun v w h=>hK _ _ ?_) h
    rw[hd];subst hY;exact h
  | _=>exact hq.elim
theorem zoQ {Y:YieldC} {nL:Nat} {rc:LoopState→Option Code→Obj} (hrc:rc=Y.C.rc) (hL:hp nL = .objAt Y.C.l (rc .ready none)) (H:AW Y.round nx fr (hp.set nL (.objAt Y.C.l (rc .busy none))) [.code Y.C.body]):AW Y.asg nx fr hp []:=by
  subst hrc;intro a w ⟨ρ,s⟩;obtain⟨h1,h2⟩:=s.putObj (o':=.loop (Y.C.record .busy none)) hL;refine⟨_,run_beginRound h1 rfl,H _ _ ⟨ρ,?_⟩⟩;exact SimR.job h2.toSimH yan h2.ble h2.size h2.defers h2.frel h2.fnx h2.brel
theorem sim_iter {Y:YieldC} {v:Value} {b:Bool} (s:SimR Y.round nx ρ fr hp a w) (hv:v = .bool b):SimR (Y.C.iter Y.fni) nx ρ (Y.fr.set Y.d (.val zu b)) hp (Y.a.put (some Y.d) v) w :=
  (SimR.job (J':=Y.C.iter Y.fni) s.toSimH yan (Nat.le_trans Y.ok.hbn s.ble) Y.ok.hsz Y.ok.had (s.brel (Y.fr,Y.a) (List.mem_cons_self ..)) (fun t=>AV.under_mono s.ble (Y.ok.hfr t)) fun p hp t=>s.brel p (List.mem_cons_of_mem _ hp) t).put Y.ok.hlt (zck.2 hv) trivial
theorem zpp {Y:YieldC} {nL:Nat} (j:Option Code) {rc:LoopState→Option Code→Obj} (hrc:rc=Y.C.rc) (hL:hp nL = .objAt Y.C.l (rc .busy none))
    (H:AW (Y.C.iter Y.fni) nx (Y.fr.set Y.d (.val zu j.isNone)) (hp.set nL (.objAt Y.C.l (rc (if j.isNone then .ready else .done) j))) Y.k) (s:SimR Y.round nx ρ fr hp a w):∃v w',(Instr.endRound Y.C.l j).run Y.C.J.P w = .ok v w'∧Y.R (.returned v) w':=by
  subst hrc;obtain⟨h1,h2⟩:=s.putObj (o':=.loop (Y.C.record (if j.isNone then .ready else .done) j)) hL;exact⟨_,_,run_endRound j h1,H _ _ ⟨ρ,sim_iter h2 rfl⟩⟩
theorem zhc {Y:YieldC} {nL:Nat} {rc:LoopState→Option Code→Obj} (hrc:rc=Y.C.rc) (hL:hp nL = .objAt Y.C.l (rc .busy none))
    (H:AW (Y.C.iter Y.fni) nx (Y.fr.set Y.d (.val zu true)) (hp.set nL (.objAt Y.C.l (rc .ready none))) Y.k):AW Y.round nx fr hp [] :=
  fun _ _ ⟨_,s⟩=>zpp none hrc hL H s
theorem zqo {Y:YieldC} {nL:Nat} {rc:LoopState→Option Code→Obj} (hrc:rc=Y.C.rc) (hL:hp nL = .objAt Y.C.l (rc .busy none))
    (H:AW (Y.C.iter Y.fni) nx (Y.fr.set Y.d (.val zu false)) (hp.set nL (.objAt Y.C.l (rc .done (some .ret)))) Y.k):AW Y.round nx fr hp (.code .ret::k) :=
  zcb fun _ _ ⟨_,s⟩=>zpp (some .ret) hrc hL H s
theorem Kont.out (J:Job) {id:Nat}:∀{k:List It} {a:Act} {w:World},zn2 id k=none→J.post (.exit id) a w→Kont J k (.exit id) a w
  | [],_,_,_,h'=>h'
  | .code _::k,_,_,h,h'=>Kont.out J (k:=k) h h'
  | .ops ..::k,_,_,h,h'=>Kont.out J (k:=k) h h'
  | .again _::k,_,_,h,h'=>Kont.out J (k:=k) h h'
  | .inScope ..::k,_,_,h,h'=>Kont.out J (k:=k) h h'
  | .inBlock i::k,a,w,h,h'=>by
    simp only[zn2] at h;show(if id=i then Kont J k .normal a w else Kont J k (.exit id) a w);by_cases e:id=i
    · have:Nat.beq i id=true:=by rw[e];simp
      rw[this] at h;simp at h
    rw[ur e]
    have:Nat.beq i id=false:=by
      cases e':Nat.beq i id
      · rfl
      exact absurd (Nat.eq_of_beq_eq_true e').symm e
    rw[this] at h;exact Kont.out J (k:=k) h h'
structure CallOk (J:Job) (nx:Nat) (fr:Fr) (a:Act) (d:Nat):Prop where
  hsz:a.tmps.size=J.nt
  had:a.defers=J.ds
  hlt:d<J.nt
  hfr:∀t,(fr t).under nx
  hbn:J.bn≤nx
structure CallC where
  J:Job
  nx:Nat
  fr:Fr
  a:Act
  d:Nat
  k:List It
  ok:CallOk J nx fr a d
def CallC.R (C:CallC):Ending→World→Prop
  | .returned v,w=>Kont C.J C.k .normal (C.a.put (some C.d) v) w
  | .panicked ch,w=>Kont C.J C.k (.panic ch) C.a w
  | _,_=>False
def CallC.job (C:CallC) (fni:Func):Job :=
  { C.J with
    fn:=fni,nt:=fni.ntmps,R:=C.R,rd:=none,ds:=[],bg:=(C.fr,C.a)::C.J.bg,bn:=C.nx
    bgb:=fun p hp t=>by
      rcases List.mem_cons.1 hp with e|hp
      · rw[e];exact C.ok.hfr t
      exact AV.under_mono C.ok.hbn (C.J.bgb p hp t)
    post:=bodyPostM Fence.wide 0 C.J.P fni C.R
    nrm:=fun _ _ _ h=>h
    fin:=fun _ _ _ _ h1 h2 _ h3=>zei h1 h2 h3
    mark:=fun _ _ _ _ _ h1 h2 h3=>zhB h1 h2 h3 }
theorem zqw {vs:List Value} {n t:Nat}:(vs.toArray++Array.replicate (n-vs.toArray.size) undef).getD t undef=(vs[t]?).getD undef:=by
  rw[Array.getD_eq_getD_getElem?,Array.getElem?_append];by_cases c:t<vs.toArray.size
  · rw[ut c];simp
  rw[ur c];have hv:vs[t]?=none:=by simpa using c
  rw[hv,Array.getElem?_replicate]
  split<;>rfl
theorem zdJ {f : FuncId} {fni : Func} {c : Code} {xs : Array Operand} {ts : Array TypeId} {d : Nat} (ho : o.op = .call { callee := .value (.func f), args := xs, argTypes := ts }) (hd : o.dst = some d) (hg : o.guard = none) (hlt : Nat.blt d J.nt = true)
    (hf:J.P.funcs[f]?=some fni) (hfb:fnB J.P f=true) (hb:fni.body=some c) (hn:Nat.ble xs.size fni.ntmps=true)
    (H:∀(a:Act) (ok:CallOk J nx fr a d),
      AW (CallC.job ⟨J,nx,fr,a,d,.ops ops rest::k,ok⟩ fni) nx (Fr.args 0 (xs.toList.map fr.ev) Fr.none) hp [.code c]) :
    AW J nx fr hp (.ops ops (o::rest)::k):=by
  intro a w ⟨ρ,s⟩;have hlt:d<J.nt:=yL;have hn:xs.size≤fni.ntmps:=ybP;refine zZ hg yv fun K hK=>?_
  obtain⟨fn',h1,h2,h3⟩:=zcp hfb;unfold Oper.wp;rw[zge ho h1 h2 h3,Oper.upon_enter];have H:=H a ⟨s.size,s.defers,hlt,s.fnx,s.ble⟩;generalize hC:CallC.mk J nx fr a d (.ops ops rest::k) ⟨s.size,s.defers,hlt,s.fnx,s.ble⟩=C at H
  have hfr:=zeT (P:=fun _ A v=>A.rel ρ J.B (Uu J ρ hp) (Nn ρ hp) w v∧A.under nx) (fun _ _=>⟨trivial,trivial⟩) (i:=0) (f:=Fr.none) (g:=fun _=>undef)
    (As:=xs.toList.map fr.ev) (vs:=xs.toList.map a.eval) yx
    (fun j A v e1 e2 _=>by
      simp only[List.getElem?_map,Option.map_eq_some_iff] at e1 e2;obtain⟨n,hn1,rfl⟩:=e1;obtain⟨m,hm1,rfl⟩:=e2;obtain rfl:n=m:=ybV;exact⟨zas s n,zca s.fnx n⟩) (fun t=>⟨trivial,trivial⟩) (fun _ _=>rfl)
  have key:Calls J.P f (xs.toList.map a.eval).toArray w C.R:=by
    refine zfw hf hb ?_;have h4:=H { tmps:=(xs.toList.map a.eval).toArray++Array.replicate (fni.ntmps-(xs.toList.map a.eval).toArray.size) undef,defers:=[] } w ⟨ρ,SimR.job s.toSimH (by subst hC;exact yan) (by subst hC;exact ug _) (by
      have e:(C.job fni).nt=fni.ntmps:=by subst hC;rfl
      rw[e];simp;omega) (by subst hC;rfl) (fun t=>by
        rw[zqw];have h1:=(hfr t).1;rw[ur (Nat.not_lt_zero t),Nat.sub_zero] at h1;exact h1) (fun t=>(hfr t).2) (fun p hp t=>by
        have hp:p∈(fr,a)::J.bg:=by subst hC;exact hp
        rcases List.mem_cons.1 hp with e|hp
        · rw[e];exact s.frel t
        exact s.brel p hp t)⟩
    subst hC;exact h4
  have e:(xs.toList.map a.eval).toArray=xs.map a.eval:=ybN;rw[e] at key;refine Calls.mono key fun en w' he=>?_
  cases en with
  | returned v =>
    rw[hd];subst hC;exact hK _ _ he
  | panicked c=>subst hC;exact he
  | outgrown=>exact he.elim
theorem zjo {C:CallC} {fni:Func} (s:SimR (C.job fni) nx ρ fr hp a w):SimR C.J nx ρ C.fr hp C.a w :=
  SimR.job s.toSimH yan (Nat.le_trans C.ok.hbn s.ble) C.ok.hsz C.ok.had (s.brel (C.fr,C.a) (List.mem_cons_self ..)) (fun t=>AV.under_mono s.ble (C.ok.hfr t)) fun p hp t=>s.brel p (List.mem_cons_of_mem _ hp) t
theorem zaM {C:CallC} {fni:Func} {t:Tmp} (hres:fni.results = #[.tmp t]) (H:AW C.J nx (C.fr.set C.d (fr t)) hp C.k):AW (C.job fni) nx fr hp (.code .ret::k) :=
  zcb fun _ _ ⟨ρ,s⟩=>zei s.defers (results_tmp hres _ _ _) (H _ _ ⟨ρ,(zjo s).put C.ok.hlt (s.frel t) (s.fnx t)⟩)
end
end Go.Ab
namespace Go.Ab
open Go.RowKit
def zj5:Nat→List AV→Option AV
  | _,[]=>none
  | off,x::xs=>bif Nat.beq off 0 then some x else bif Nat.ble x.cells off then zj5 (off-x.cells) xs else none
def zgc:Nat→AV→List AV→List AV
  | _,_,[]=>[]
  | off,y,x::xs=>bif Nat.beq off 0 then y::xs else bif Nat.ble x.cells off then x::zgc (off-x.cells) y xs else x::xs
abbrev flatV (vs:List Value):List Value:=vs.flatMap fun v=>v.cells.toList
def AV.isOne (hp:Hp):AV→Bool
  | .lit v=>v.oneCell'&&Nat.beq v.cells.size 1
  | .ptr .. | .eptr .. | .rptr .. | .clo .. | .bnd .. | .fn1 .. | .fn2 .. | .vw .. | .osub ..=>true
  | .own n=>match hp n with
    | .none_=>false
    | _=>true
  | .val T _=>!T.agg
  | _=>false
section
variable {J:Job} {nx:Nat} {ρ:Nat→Value} {fr:Fr} {hp:Hp} {a:Act} {w w':World} {k:List It} {ops:Array Oper} {rest:List Oper} {o:Oper}
variable {α β:Type} {T:GoT α} {S:GoT β} {get:α→β} {set:α→β→α} {B U N:Nat→Prop}
theorem zjB (p:Option Addr):(Value.pointer p).oneCell'=true∧(Value.pointer p).cells.size=1:=⟨rfl,rfl⟩
theorem zlw (p:Option Addr) (l c:Nat):(Value.slice p l c).oneCell'=true∧(Value.slice p l c).cells.size=1:=⟨rfl,rfl⟩
theorem zn7 (f:Fn) (b c:Array Value):(Value.func f b c).oneCell'=true∧(Value.func f b c).cells.size=1:=⟨rfl,rfl⟩
theorem zha {v:Value} (h:v.oneCell'=true) (hs:v.cells.size=1):v.cells.toList=[v]:=ybK
theorem zmB.one {v:Value} {C:World→(Nat→Prop)→FuncId→Array Value→Prop} (h:zmB U N w v C):v.oneCell'=true∧v.cells.size=1:=by
  obtain⟨_,_,_,_,e,_⟩:=h;rw[e];exact zn7 _ _ _
theorem one_of (s:SimH J nx ρ hp w):∀{x:AV} {v:Value},x.isOne hp=true→x.rel ρ J.B (Uu J ρ hp) (Nn ρ hp) w v→v.oneCell'=true∧v.cells.size=1
  | .lit v,_,h,(e:_=_)=>by
    rw[e];unfold AV.isOne at h;simpa using h
  | .ptr ..,_,_,⟨_,_,e⟩=>by rw[e];exact zjB _
  | .eptr ..,_,_,⟨_,_,_,_,e⟩=>by rw[e];exact zjB _
  | .rptr ..,_,_,⟨_,e,_⟩=>by rw[e];exact zjB _
  | .clo ..,_,_,(e:_=_)=>by rw[e];exact zn7 _ _ _
  | .bnd ..,_,_,⟨_,_,e⟩=>by rw[e];exact zn7 _ _ _
  | .fn1 ..,_,_,h=>zmB.one h
  | .fn2 ..,_,_,h=>zmB.one h
  | .vw ..,_,_,⟨_,_,_,e,_⟩=>by rw[e];exact zlw _ _ _
  | .osub ..,_,_,⟨_,_,_,_,_,e⟩=>by rw[e];exact zlw _ _ _
  | .val T x,v,h,hv=>by
    have hag:T.agg=false:=by unfold AV.isOne at h;simpa using h
    have hr:=GoT.val_cells hv;have h1:=T.len hr;rw[T.sc hag] at h1;obtain⟨cs,_,h2|h2⟩:=hv
    · rw[hag] at h2;exact absurd h2.1 yp
    have:=T.one yj v (by rw[h2.2];simp)
    exact⟨this,by simpa using h1⟩
  | .own n,v,h,(e:_=_)=>by
    have hr:=s.hrel n;have h':(match hp n with | .none_=>false|_=>true)=true:=h;rw[e];generalize hp n=x at hr h';cases x with
    | none_=>cases h'
    | box ty T x=>obtain⟨g,_,e,_⟩:=hr;rw[e];exact zjB _
    | parts ty xs=>obtain⟨g,_,e,_⟩:=hr;rw[e];exact zjB _
    | objAt b o=>obtain⟨e,_⟩:=hr;rw[e];exact zjB _
    | row e T l =>
      obtain⟨xs,ho,_⟩:=hr;rcases ho.2 with ⟨h,_⟩|⟨g,cap,cur,h,_⟩<;>(rw[h];exact zlw _ _ _)
theorem relL_at:∀{xs:List AV} {vs:List Value} {off:Nat} {X:AV},AV.relL ρ B U N w xs vs→zj5 off xs=some X→
    ∃pre v post,vs=pre++v::post∧X.rel ρ B U N w v∧(flatV pre).length=off∧v.cells.size=X.cells∧(∀u∈v.cells.toList,u.oneCell'=true)∧
      ∀(Y:AV) (v':Value),Y.rel ρ B U N w v'→v'.cells.size=Y.cells→(∀u∈v'.cells.toList,u.oneCell'=true)→AV.relL ρ B U N w (zgc off Y xs) (pre++v'::post)
  | [],_,_,_,_,h=>by cases h
  | x::xs,vs,off,X,⟨v,us,e,h1,h2,h3,h4⟩,h=>by
    unfold zj5 at h;cases c:Nat.beq off 0 with
    | true =>
      rw[c] at h;simp only[cond_true,Option.some.injEq] at h;subst h;obtain rfl:off=0:=Nat.eq_of_beq_eq_true c;exact⟨[],v,us,e,h1,rfl,h2,h3,fun Y v' g1 g2 g3=>⟨v',us,rfl,g1,g2,g3,h4⟩⟩
    | false =>
      rw[c] at h;simp only[cond_false] at h;cases c2:Nat.ble x.cells off with
      | false=>rw[c2] at h;cases h
      | true =>
        rw[c2] at h;simp only[cond_true] at h;obtain⟨pre,u,post,e1,g1,g2,g3,g4,g5⟩:=relL_at h4 h;have hle:=Nat.le_of_ble_eq_true c2;refine⟨v::pre,u,post,by rw[e,e1];rfl,g1,?_,g3,g4,fun Y v' a1 a2 a3=>?_⟩
        · rw[flatV,List.flatMap_cons,ue]
          have:v.cells.toList.length=x.cells:=by simpa using h2
          rw[this,g2];omega
        unfold zgc;rw[c,c2];exact⟨v,_,rfl,h1,h2,h3,g5 Y v' a1 a2 a3⟩
theorem ziz:∀{xs:List AV} {off:Nat} {Y:AV},(∀x∈xs,x.under nx)→Y.under nx→∀x∈zgc off Y xs,x.under nx
  | [],_,_,_,_,x,hx=>by cases hx
  | z::xs,off,Y,hx,hY,x,hm=>by
    unfold zgc at hm;cases c:Nat.beq off 0 with
    | true =>
      rw[c] at hm;rcases List.mem_cons.1 hm with e|hm
      · rw[e];exact hY
      exact hx x (by simp[hm])
    | false =>
      rw[c] at hm;cases c2:Nat.ble z.cells off with
      | false =>
        rw[c2] at hm;exact hx x hm
      | true =>
        rw[c2] at hm;rcases List.mem_cons.1 hm with e|hm
        · rw[e];exact hx z yx
        exact ziz (fun y hy=>hx y ybi) hY x hm
theorem zng:∀{xs:List AV} {off:Nat} {X:AV},zj5 off xs=some X→X∈xs
  | [],_,_,h=>by cases h
  | x::xs,off,X,h=>by
    unfold zj5 at h;cases c:Nat.beq off 0 with
    | true=>rw[c] at h;simp at h;simp[h]
    | false =>
      rw[c] at h;cases c2:Nat.ble x.cells off with
      | false=>rw[c2] at h;cases h
      | true=>rw[c2] at h;exact List.mem_cons_of_mem _ (zng h)
theorem aw_alloc_p {ty d:Nat} {v:Value} (hz:(J.P.info? ty).bind (·.zero)=some v) (h1:v.oneCell'=true) (h2:v.cells.size=1) (ho:o.op = .alloc ty) (hd:o.dst=some d) (hg:o.guard=none) (hlt:Nat.blt d J.nt=true)
    (H:AW J (nx+1) (fr.set d (.ptr nx 0)) (hp.set nx (.parts ty [.lit v])) (.ops ops rest::k)):AW J nx fr hp (.ops ops (o::rest)::k):=by
  intro a w ⟨ρ,s⟩;refine zZ hg yv fun K hK=>?_
  obtain⟨i,h3,h4⟩:=Option.bind_eq_some_iff.1 hz;have hrun:(execOp a.eval o).run J.P w = .ok (.value (.pointer (some ⟨w.heap.size,0,none⟩))) (w.alloc (.cells v.cells ty)):=by
    unfold execOp;rw[ho];simp[Instr.alloc,zeroValue,typeInfo,Sem.run_bind,h3,h4,newVar,newRow,newObj,Sem.run]
  unfold Oper.wp;rw[hrun,Oper.upon_value,hd];have hcs:v.cells=(flatV [v]).toArray:=yx
  refine hK _ _ (H _ _ ⟨_,(s.bind (p:=.pointer (some ⟨w.heap.size,0,none⟩)) (x:=.parts ty [.lit v]) (zb5 _ _) (fun b e=>by simp only[zaN,Option.some.injEq] at e;subst e;exact⟨ug _,by simp⟩)
    (fun kp=>⟨w.heap.size,[v],rfl,by rw[←hcs];exact heap_alloc_new w _,v,[],rfl,rfl,h2,(fun u hu=>by rw[zha h1 h2] at hu;simp at hu;rw[hu];exact h1),rfl⟩)
    (fun x hx=>by simp only[List.mem_singleton] at hx;subst hx;trivial)).put yL ⟨w.heap.size,by unfold ren;simp,rfl⟩ (Nat.lt_succ_self nx)⟩)
theorem part_at (s:SimH J nx ρ hp w) {n off ty:Nat} {xs:List AV} {X:AV} {v:Value} (hn:hp n = .parts ty xs) (hX:zj5 off xs=some X) (hv:(AV.ptr n off).rel ρ J.B (Uu J ρ hp) (Nn ρ hp) w v) :
    ∃g pre u post,ρ n = .pointer (some ⟨g,0,none⟩)∧v = .pointer (some ((⟨g,0,none⟩:Addr).add off))∧w.heap[g]?=some (.cells (flatV (pre++u::post)).toArray ty (0,0))∧(flatV pre).length=off∧X.rel ρ J.B (Uu J ρ hp) (Nn ρ hp) w u∧u.cells.size=X.cells∧(∀z∈u.cells.toList,z.oneCell'=true)∧
      (∀(Y:AV) (v':Value),Y.rel ρ J.B (Uu J ρ hp) (Nn ρ hp) w v'→v'.cells.size=Y.cells→(∀u∈v'.cells.toList,u.oneCell'=true)→AV.relL ρ J.B (Uu J ρ hp) (Nn ρ hp) w (zgc off Y xs) (pre++v'::post))∧
      ∀(j:Nat) z,u.cells[j]?=some z→w.cell? (((⟨g,0,none⟩:Addr).add off).add j)=some z:=by
  obtain⟨g,e1,e2⟩:=hv;have hh:=s.hrel n;rw[hn] at hh;obtain⟨g',vs,e3,hg,hr⟩:=hh;obtain rfl:g=g':=ybL;obtain⟨pre,u,post,e4,h1,h2,h3,h4,h5⟩:=relL_at hr hX;refine⟨g,pre,u,post,e1,e2,by rw[←e4];exact hg,h2,h1,h3,h4,h5,fun j z hz=>?_⟩;rw[zbs,zfB,cell_of_row w g _ _ ty (0,0) hg,e4]
  have:flatV (pre++u::post)=flatV pre++(u.cells.toList++flatV post):=by simp[flatV]
  simp only[this,List.getElem?_toArray];have hj:=(Array.getElem?_eq_some_iff.1 hz).1;rw[List.getElem?_append_right (by rw[h2];exact Nat.le_add_right _ _),h2,Nat.add_sub_cancel_left,List.getElem?_append_left (by simpa using hj)];simpa using hz
theorem zbW {t ty n off:Nat} {x:Operand} {xs:List AV} {X:AV} (ho:o.op = .load t x) (hx:fr.ev x = .ptr n off) (hn:hp n = .parts ty xs) (hX:zj5 off xs=some X) (h1:X.isOne hp=true) (ht:tyB J.P t 1 false=true):OpG J o fr hp X where
  run {nx ρ a w} s hr hu K Q hK:=by
    have h:=hr x yk;rw[hx] at h;obtain⟨g,pre,u,post,e1,e2,hg,h2,h3,h4,h5,_,h6⟩:=part_at s hn hX h;obtain⟨g1,g2⟩:=one_of s h1 h3;have hc:=h6 0 u (by have:=zha g1 g2;rw[←Array.getElem?_toList,this];rfl);rw[add_zero] at hc;obtain⟨_,t1,t2⟩:=zeE ht w;have hrun:(execOp a.eval o).run J.P w = .ok (.value u) w:=by
      unfold execOp;rw[ho];simp[Instr.loadAt,Instr.sureAddr,Sem.run_bind,e2,loadVar,t1,load,Sem.run,hc]
    unfold Oper.wp;rw[hrun];exact hK u w (Below.refl _ _) h3
  und {nx} hb _:=by
    have:=(hb n).2
    rw[hn] at this;exact this X (zng hX)
  nd c hc:=ybO
theorem zcW {t ty:TypeId} {x y:Operand} {n off:Nat} {xs:List AV} {X Y:AV} {ag:Bool} (ho:o.op = .store t x y) (hd:o.dst=none) (hg:o.guard=none) (hx:fr.ev x = .ptr n off) (hn:hp n = .parts ty xs) (hX:zj5 off xs=some X)
    (hy:fr.ev y=Y) (h1:Y.isOne hp=true) (hc:Y.cells=1) (hcX:X.cells=1) (ht:tyB J.P t 1 ag=true) (H:AW J nx fr (hp.set n (.parts ty (zgc off Y xs))) (.ops ops rest::k)):AW J nx fr hp (.ops ops (o::rest)::k):=by
  intro a w ⟨ρ,s⟩;refine zZ hg yv fun K hK=>?_
  have h:=zas s x;have h':=zas s y;have hu:=zca s.fnx y;rw[hx] at h;rw[hy] at h' hu;obtain⟨g1,g2⟩:=one_of s.toSimH h1 h';obtain⟨g,pre,u,post,e1,e2,hgc,h2,h3,h4,h5,h6,_⟩:=part_at s.toSimH hn hX h;have hu1:u.cells.size=1:=h4.trans hcX;have hrun:=zdd (w:=w) (P:=J.P) (off:=off) (v:=a.eval y) ht g2 (fun z hz=>by rw[zha g1 g2] at hz;simp at hz;rw[hz];exact g1) hgc (by
    have:(flatV (pre++u::post)).length=(flatV pre).length+(u.cells.size+(flatV post).length):=by simp only[flatV,List.flatMap_append,List.flatMap_cons,ue,Array.length_toList]
    rw[List.size_toArray,this,h2,hu1];omega)
  have hnew:(flatV (pre++u::post)).toArray.toList.take off++(a.eval y).cells.toList++(flatV (pre++u::post)).toArray.toList.drop (off+1)=flatV (pre++a.eval y::post):=by
    have e3:flatV (pre++u::post)=flatV pre++(u.cells.toList++flatV post):=ybW;have e4:flatV (pre++a.eval y::post)=flatV pre++((a.eval y).cells.toList++flatV post):=ybW;rw[List.toList_toArray,e3,e4,←h2,List.take_left' rfl,←List.drop_drop,List.drop_left' rfl,List.drop_left' (by simpa using hu1),List.append_assoc]
  rw[hnew] at hrun;have hex:(execOp a.eval o).run J.P w = .ok .skip (w.setRow g (flatV (pre++a.eval y::post)).toArray):=by
    unfold execOp;rw[ho];simp only[e2,Instr.storeAt,Instr.sureAddr,Sem.run_bind,Sem.run_pure,Result.andThen_ok,hrun]
  unfold Oper.wp;rw[hex,Oper.upon_skip,hd];refine hK _ _ ?_;have hux:∀x∈zgc off Y xs,x.under nx:=ziz (by have:=s.hun n;rw[hn] at this;exact this) hu
  exact H _ _ ⟨ρ,s.modify (x:=.parts ty (zgc off Y xs)) hn trivial trivial yx rfl rfl rfl (fun b hb=>setRow_other w g b _ (fun e=>hb yaz))
    (fun kp=>⟨g,pre++a.eval y::post,e1,setRow_heap w g _ _ ty (0,0) hgc,AV.relL_mono kp hux (h6 Y _ h' (g2.trans hc.symm) (fun z hz=>by rw[zha g1 g2] at hz;simp at hz;rw[hz];exact g1))⟩) (ug _) hux⟩
end
theorem hpB {x y:HE} {ty:TypeId} {α:Type} {T:GoT α} {v:α} (h1:x = .box ty T v) (h2:y = .box ty T v):x=y:=h1.trans h2.symm
end Go.Ab
namespace Go.Ab
open Go.RowKit
section
variable {J:Job} {nx:Nat} {fr:Fr} {hp:Hp} {k:List It} {ops:Array Oper} {rest:List Oper} {o oj:Oper} {id:Nat} {l:List Oper} {c y z:Code}
theorem CN (h:AW J nx fr hp (k)):AW J nx fr hp (.ops ops []::k):=zp h
theorem CQ (h:AW J nx fr hp (.code c :: .code y::k)):AW J nx fr hp (.code (c.seq y)::k):=zfd h
theorem CR (h:AW J nx fr hp (.ops l.toArray l::k)):AW J nx fr hp (.code (.region id l.toArray false)::k):=zcv h
theorem CS (h:AW J nx fr hp (k)):AW J nx fr hp (.code .skip::k):=zjQ h
theorem CB (h:AW J nx fr hp (.code c :: .inBlock id::k)):AW J nx fr hp (.code (.block id c)::k):=zoP h
theorem CI (h:AW J nx fr hp (k)):AW J nx fr hp (.inBlock id::k):=zhD h
theorem CQR (h:AW J nx fr hp (.ops l.toArray l :: .code y::k)):AW J nx fr hp (.code ((Code.region id l.toArray false).seq y)::k):=zfd (zcv h)
theorem CNQ (h:AW J nx fr hp (.code c :: .code y::k)):AW J nx fr hp (.ops ops [] :: .code (c.seq y)::k):=zp (zfd h)
theorem CNR (h:AW J nx fr hp (.ops l.toArray l::k)):AW J nx fr hp (.ops ops [] :: .code (.region id l.toArray false)::k):=zp (zcv h)
theorem CNQR (h:AW J nx fr hp (.ops l.toArray l :: .code y::k)):AW J nx fr hp (.ops ops [] :: .code ((Code.region id l.toArray false).seq y)::k):=zp (zfd (zcv h))
theorem CQQR (h:AW J nx fr hp (.ops l.toArray l :: .code z :: .code y::k)):AW J nx fr hp (.code (((Code.region id l.toArray false).seq z).seq y)::k):=zfd (zfd (zcv h))
theorem CNQQR (h:AW J nx fr hp (.ops l.toArray l :: .code z :: .code y::k)):AW J nx fr hp (.ops ops [] :: .code (((Code.region id l.toArray false).seq z).seq y)::k):=zp (zfd (zfd (zcv h)))
theorem CSQR (h:AW J nx fr hp (.ops l.toArray l :: .code y::k)):AW J nx fr hp (.code .skip :: .code ((Code.region id l.toArray false).seq y)::k):=zjQ (zfd (zcv h))
theorem CSQQR (h:AW J nx fr hp (.ops l.toArray l :: .code z :: .code y::k)):AW J nx fr hp (.code .skip :: .code (((Code.region id l.toArray false).seq z).seq y)::k):=zjQ (zfd (zfd (zcv h)))
theorem CNB (h:AW J nx fr hp (.code c :: .inBlock id::k)):AW J nx fr hp (.ops ops [] :: .code (.block id c)::k):=zp (zoP h)
theorem CSQBQR {i:Nat} (h:AW J nx fr hp (.ops l.toArray l :: .code z :: .inBlock i :: .code y::k)):AW J nx fr hp (.code .skip :: .code ((Code.block i ((Code.region id l.toArray false).seq z)).seq y)::k):=zjQ (zfd (zoP (zfd (zcv h))))
theorem CNIR {i:Nat} (h:AW J nx fr hp (.ops l.toArray l::k)):AW J nx fr hp (.ops ops [] :: .inBlock i :: .code (.region id l.toArray false)::k):=zp (zhD (zcv h))
theorem CSIR {i:Nat} (h:AW J nx fr hp (.ops l.toArray l::k)):AW J nx fr hp (.code .skip :: .inBlock i :: .code (.region id l.toArray false)::k):=zjQ (zhD (zcv h))
theorem CNIQR {i:Nat} (h:AW J nx fr hp (.ops l.toArray l :: .code y::k)):AW J nx fr hp (.ops ops [] :: .inBlock i :: .code ((Code.region id l.toArray false).seq y)::k):=zp (zhD (zfd (zcv h)))
theorem CE {k':List It} (h:AW J nx fr hp k') (e:zn2 id k=some k':=by exact rfl):AW J nx fr hp (.code (.exit id)::k):=aw_exit e h
theorem CD (hm:J.P.follows .mixedOrders=true) (h:GK J nx hp l.toArray k l fr) (hB:Region.lexB .any l.toArray=true:=by decide +kernel):AW J nx fr hp (.code (.region id l.toArray true)::k):=aw_draw hm hB h
variable {x:AV} {d j t:Nat} {b want:Bool}
theorem A0 (h:OpG J o fr hp x) (H:AW J nx (fr.set d x) hp (.ops ops rest::k)) (hd:o.dst=some d:=by exact rfl) (hg:o.guard=none:=by exact rfl) (hl:Nat.blt d J.nt=true:=by exact rfl):AW J nx fr hp (.ops ops (o::rest)::k):=aw_g h hd hg hl H
theorem A1 (h:OpG J o fr hp x) (H:AW J nx (fr.set d x) hp (.ops ops rest::k)) (hd:o.dst=some d:=by exact rfl) (hg:o.guard=some (j,want):=by exact rfl) (ho:ops[j]?=some oj:=by exact rfl) (hj:oj.dst=some t:=by exact rfl) (hv:fr t = .val zu b:=by exact rfl) (ht:Nat.blt t J.nt=true:=by exact rfl) (hw:b=want:=by exact rfl) (hl:Nat.blt d J.nt=true:=by exact rfl):AW J nx fr hp (.ops ops (o::rest)::k):=aw_gi h hd hg ho hj hv ht hw hl H
theorem A2 (H:AW J nx (fr.set d (.lit undef)) hp (.ops ops rest::k)) (hd:o.dst=some d:=by exact rfl) (hg:o.guard=some (j,want):=by exact rfl) (ho:ops[j]?=some oj:=by exact rfl) (hj:oj.dst=some t:=by exact rfl) (hv:fr t = .val zu b:=by exact rfl) (ht:Nat.blt t J.nt=true:=by exact rfl) (hw:(b==want)=false:=by exact rfl) (hl:Nat.blt d J.nt=true:=by exact rfl):AW J nx fr hp (.ops ops (o::rest)::k):=aw_gn hd hg ho hj hv ht hw hl H
theorem A3 (H:AW J nx (fr.set d (.lit undef)) hp (.ops ops rest::k)) (hd:o.dst=some d:=by exact rfl) (hg:o.guard=some (j,want):=by exact rfl) (ho:ops[j]?=some oj:=by exact rfl) (hj:oj.dst=some t:=by exact rfl) (hv:fr t = .lit undef:=by exact rfl) (ht:Nat.blt t J.nt=true:=by exact rfl) (hl:Nat.blt d J.nt=true:=by exact rfl):AW J nx fr hp (.ops ops (o::rest)::k):=aw_gu hd hg ho hj hv ht hl H
theorem G0 (h:OpG J o fr hp x) (H:GK J nx hp ops k rest (fr.set d x)) (hd:o.dst=some d:=by exact rfl) (hg:o.guard=none:=by exact rfl) (hl:Nat.blt d J.nt=true:=by exact rfl):GK J nx hp ops k (o::rest) fr:=GK.g h hd hg hl H
theorem G1 (h:OpG J o fr hp x) (H:GK J nx hp ops k rest (fr.set d x)) (hd:o.dst=some d:=by exact rfl) (hg:o.guard=some (j,want):=by exact rfl) (ho:ops[j]?=some oj:=by exact rfl) (hj:oj.dst=some t:=by exact rfl) (hv:fr t = .val zu b:=by exact rfl) (ht:Nat.blt t J.nt=true:=by exact rfl) (hw:b=want:=by exact rfl) (hl:Nat.blt d J.nt=true:=by exact rfl):GK J nx hp ops k (o::rest) fr:=GK.gi h hd hg ho hj hv ht hw hl H
theorem G2 (H:GK J nx hp ops k rest (fr.set d (.lit undef))) (hd:o.dst=some d:=by exact rfl) (hg:o.guard=some (j,want):=by exact rfl) (ho:ops[j]?=some oj:=by exact rfl) (hj:oj.dst=some t:=by exact rfl) (hv:fr t = .val zu b:=by exact rfl) (ht:Nat.blt t J.nt=true:=by exact rfl) (hw:(b==want)=false:=by exact rfl) (hl:Nat.blt d J.nt=true:=by exact rfl):GK J nx hp ops k (o::rest) fr:=GK.gn hd hg ho hj hv ht hw hl H
theorem G3 (H:GK J nx hp ops k rest (fr.set d (.lit undef))) (hd:o.dst=some d:=by exact rfl) (hg:o.guard=some (j,want):=by exact rfl) (ho:ops[j]?=some oj:=by exact rfl) (hj:oj.dst=some t:=by exact rfl) (hv:fr t = .lit undef:=by exact rfl) (ht:Nat.blt t J.nt=true:=by exact rfl) (hl:Nat.blt d J.nt=true:=by exact rfl):GK J nx hp ops k (o::rest) fr:=GK.gu hd hg ho hj hv ht hl H
theorem X0 {info:List (Option Nat)} {s:XS} {S:List XS} {pd:List (Nat×HE×Nat)} (h:OpG J o fr s.hp x) (H:XK J ops k info rest (s::S) (fr.set d x) pd) (hd:o.dst=some d:=by exact rfl) (hg:o.guard=none:=by exact rfl) (hl:Nat.blt d J.nt=true:=by exact rfl):XK J ops k (some 1::info) (o::rest) (s::S) fr pd:=XK.g h hd hg hl H
theorem mV {y:Operand} {α:Type} {T:GoT α} {x:α} (ho:o.op = .move y:=by exact rfl) (hx:fr.ev y = .val T x:=by exact rfl):OpG J o fr hp (.val T x):=g_mv (.inl ho) hx
theorem aV {y:Operand} {α:Type} {T:GoT α} {x:α} (ho:o.op = .assign y:=by exact rfl) (hx:fr.ev y = .val T x:=by exact rfl):OpG J o fr hp (.val T x):=g_mv (.inr ho) hx
theorem mP {y:Operand} {n off:Nat} (ho:o.op = .move y:=by exact rfl) (hx:fr.ev y = .ptr n off:=by exact rfl):OpG J o fr hp (.ptr n off):=g_mp (.inl ho) hx
theorem aP {y:Operand} {n off:Nat} (ho:o.op = .assign y:=by exact rfl) (hx:fr.ev y = .ptr n off:=by exact rfl):OpG J o fr hp (.ptr n off):=g_mp (.inr ho) hx
theorem mO {y:Operand} {n:Nat} (ho:o.op = .move y:=by exact rfl) (hx:fr.ev y = .own n:=by exact rfl):OpG J o fr hp (.own n):=g_mo (.inl ho) hx
theorem aO {y:Operand} {n:Nat} (ho:o.op = .assign y:=by exact rfl) (hx:fr.ev y = .own n:=by exact rfl):OpG J o fr hp (.own n):=g_mo (.inr ho) hx
theorem mL {y:Operand} {v:Value} (ho:o.op = .move y:=by exact rfl) (hx:fr.ev y = .lit v:=by exact rfl):OpG J o fr hp (.lit v):=g_ml (.inl ho) hx
theorem aL {y:Operand} {v:Value} (ho:o.op = .assign y:=by exact rfl) (hx:fr.ev y = .lit v:=by exact rfl):OpG J o fr hp (.lit v):=g_ml (.inr ho) hx
theorem mC {y:Operand} {f:FuncId} {l:List Nat} (ho:o.op = .move y:=by exact rfl) (hx:fr.ev y = .clo f l:=by exact rfl):OpG J o fr hp (.clo f l):=g_mc (.inl ho) hx
theorem aC {y:Operand} {f:FuncId} {l:List Nat} (ho:o.op = .assign y:=by exact rfl) (hx:fr.ev y = .clo f l:=by exact rfl):OpG J o fr hp (.clo f l):=g_mc (.inr ho) hx
theorem mR {y:Operand} {α:Type} {T:GoT α} {x:α} (ho:o.op = .move y:=by exact rfl) (hx:fr.ev y = .rptr T x:=by exact rfl):OpG J o fr hp (.rptr T x):=g_mr (.inl ho) hx
theorem mS {y:Operand} {n sz lo len:Nat} (ho:o.op = .move y:=by exact rfl) (hx:fr.ev y = .osub n sz lo len:=by exact rfl):OpG J o fr hp (.osub n sz lo len):=g_ms (.inl ho) hx
theorem aS {y:Operand} {n sz lo len:Nat} (ho:o.op = .assign y:=by exact rfl) (hx:fr.ev y = .osub n sz lo len:=by exact rfl):OpG J o fr hp (.osub n sz lo len):=g_ms (.inr ho) hx
theorem mF {y:Operand} {P:Program} {α β:Type} {A:GoT α} {B:GoT β} {f:α→β} (ho:o.op = .move y:=by exact rfl) (hx:fr.ev y = .fn1 P A B f:=by exact rfl):OpG J o fr hp (.fn1 P A B f):=zie (.inl ho) hx
theorem mH {y:Operand} {P:Program} {α β γ:Type} {A:GoT α} {A':GoT β} {B:GoT γ} {f:α→β→γ} (ho:o.op = .move y:=by exact rfl) (hx:fr.ev y = .fn2 P A A' B f:=by exact rfl):OpG J o fr hp (.fn2 P A A' B f):=zid (.inl ho) hx
theorem mX {y:Operand} {x:AV} (ho:o.op = .move y:=by exact rfl) (h:(o.op = .move y∨o.op = .assign y)→OpG J o fr hp x:=by intro k;first|exact g_mv k rfl|exact g_mp k rfl|exact g_mo k rfl|exact g_ml k rfl|exact g_mr k rfl|exact zgp k rfl|exact g_mc k rfl|exact g_me k rfl|exact g_ms k rfl|exact zgo k rfl|exact zie k rfl|exact zid k rfl|exact g_mw k rfl|exact g_mi k rfl):OpG J o fr hp x:=h (.inl ho)
theorem aX {y:Operand} {x:AV} (ho:o.op = .assign y:=by exact rfl) (h:(o.op = .move y∨o.op = .assign y)→OpG J o fr hp x:=by intro k;first|exact g_mv k rfl|exact g_mp k rfl|exact g_mo k rfl|exact g_ml k rfl|exact g_mr k rfl|exact zgp k rfl|exact g_mc k rfl|exact g_me k rfl|exact g_ms k rfl|exact zgo k rfl|exact zie k rfl|exact zid k rfl|exact g_mw k rfl|exact g_mi k rfl):OpG J o fr hp x:=h (.inr ho)
theorem oK {c x y:Operand} {b:Bool} {z:AV} (ho:o.op = .pick c x y:=by exact rfl) (hc:fr.ev c = .val zu b:=by exact rfl) (hz:(bif b then fr.ev x else fr.ev y)=z:=by exact rfl):OpG J o fr hp z:=g_pick ho hc hz
theorem e32 {x:Operand} {X Y Z:AV} (ho:o.op = .extract x 2:=by exact rfl) (hx:fr.ev x = .tup3 X Y Z:=by exact rfl):OpG J o fr hp Z:=g_x32 ho hx
theorem oN {x:Operand} {t:TypeId} {b:Bool} (ho:o.op = .unOp .not t x:=by exact rfl) (hx:fr.ev x = .val zu b:=by exact rfl):OpG J o fr hp (.val zu (!b)):=g_not ho hx
variable {α β:Type} {T:GoT α} {S:GoT β} {t':TypeId} {y z:Operand}
theorem zbK {X:AV} (h:OpG J o fr hp X:=by exact g_lss rfl rfl rfl rfl):OpG J o fr hp X:=h
theorem zhK {X:AV} (h:OpG J o fr hp X:=by exact g_leq rfl rfl rfl rfl):OpG J o fr hp X:=h
theorem zcm {X:AV} (h:OpG J o fr hp X:=by exact g_gtr rfl rfl rfl rfl):OpG J o fr hp X:=h
theorem zec {X:AV} (h:OpG J o fr hp X:=by exact g_geq rfl rfl rfl rfl):OpG J o fr hp X:=h
theorem zct {X:AV} (h:OpG J o fr hp X:=by exact g_eql rfl rfl rfl rfl):OpG J o fr hp X:=h
theorem zeb {X:AV} (h:OpG J o fr hp X:=by exact g_neq rfl rfl rfl rfl):OpG J o fr hp X:=h
theorem zbh {X:AV} (h:OpG J o fr hp X:=by first|exact zl1 rfl rfl rfl (zaF yE)|exact zl1 rfl rfl rfl rfl):OpG J o fr hp X:=h
theorem za1 {X:AV} (h:OpG J o fr hp X:=by first|exact zpS rfl rfl rfl (zaF yE)|exact zpS rfl rfl rfl rfl):OpG J o fr hp X:=h
theorem zfT {X:AV} (h:OpG J o fr hp X:=by first|exact g_mul rfl rfl rfl (zaF yE)|exact g_mul rfl rfl rfl rfl):OpG J o fr hp X:=h
variable {get:α→β} {set:α→β→α} {ty n off ft f:Nat} {v:α}
theorem oLb (L:Lens T off S get set) (ht:tyB J.P t S.size S.agg=true) (ho:o.op = .load t y:=by exact rfl) (hx:fr.ev y = .ptr n off:=by exact rfl) (hn:hp n = .box ty T v:=by exact rfl):OpG J o fr hp (.val S (get v)):=zl ho hx hn L ht
theorem oLs (ho:o.op = .load t y) (hx:fr.ev y = .ptr n 0) (hn:hp n = .box ty T v) (ht:tyB J.P t T.size T.agg=true):OpG J o fr hp (.val T v):=zl ho hx hn (Lens.self T) ht
theorem oFp {off':Nat} (hf:fieldB J.P ty f d ft=true) (ho:o.op = .fieldAddr ty y f:=by exact rfl) (hx:fr.ev y = .ptr n off:=by exact rfl) (e:off+d=off':=by exact rfl):OpG J o fr hp (.ptr n off'):=zc6 ho hx hf e
theorem oFr (hf:fieldB J.P ty f off ft=true) (L:Lens T off S get set) (ho:o.op = .fieldAddr ty y f:=by exact rfl) (hx:fr.ev y = .rptr T v:=by exact rfl):OpG J o fr hp (.rptr S (get v)):=g_fa_r ho hx hf L
theorem oCl {g:FuncId} {xs:Array Operand} {ts:Array TypeId} {As:List AV} {X:AV} (hc:Tells J.P g As X) (ho:o.op = .call { callee:=.value (.func g),args:=xs,argTypes:=ts }) (hf:fnB J.P g=true) (ha:zhV J fr hp xs.toList As) (hX:X.under0=true:=by exact rfl):OpG J o fr hp X:=zb7 hc ho hf ha hX
variable {x y:Code} {c:Operand}
theorem Cf {p:Prop} [Decidable p] (ht:p→AW J nx fr hp (.code x::k)) (hf:¬p→AW J nx fr hp (.code y::k)) (hc:fr.ev c = .val zu b:=by exact rfl) (hp':b=decide p:=by first|rfl|(rw[uo];simp only[IntL.toI,id_eq];omega)|(simp[IntL.toI];done)|(simp[IntL.toI];omega)):AW J nx fr hp (.code (.cond c x y)::k):=zk hc hp' ht hf
theorem Ct (h:AW J nx fr hp (.code x::k)) (hc:fr.ev c = .val zu b:=by exact rfl) (e:b=true:=by exact rfl):AW J nx fr hp (.code (.cond c x y)::k):=zoO hc e h
theorem Cg (h:AW J nx fr hp (.code y::k)) (hc:fr.ev c = .val zu b:=by exact rfl) (e:b=false:=by exact rfl):AW J nx fr hp (.code (.cond c x y)::k):=zfJ hc e h
theorem Sp {d:Nat} {p:Prop} [Decidable p] (ht:p→AW J nx (fr.set d (.val zu true)) hp k) (hf:¬p→AW J nx (fr.set d (.val zu false)) hp k) (hc:fr d = .val zu b:=by exact rfl) (hp':b=decide p:=by first|rfl|(rw[uo];simp only[IntL.toI,id_eq];omega)|(simp[IntL.toI];done)|(simp[IntL.toI];omega)):AW J nx fr hp k:=zad hc hp' ht hf
theorem Lp {c:Code} {ι:Type} (nxI:Nat) (F:ι→Fr) (H:ι→Hp) (Inv:ι→Prop) (M:ι→Nat) (i0:ι) (h0:Inv i0)
    (round:∀i,Inv i→AW J nxI (F i) (H i) (.code c :: .again (Next J nxI F H Inv M i)::k)) (hk:Nat.ble (max J.kg J.bn) nxI=true:=by exact rfl)
    (hf:Fr.le (F i0) fr:=by (repeat refine Fr.le_set ?_ y6);exact Fr.le_none _) (hh:Hp.le (H i0) hp:=by (repeat refine Hp.le_set ?_ rfl);exact Hp.le_none _) (bf:Fr.below_ nxI (F i0):=by (repeat refine Fr.below_setB ?_ rfl);exact Fr.below_none _) (bh:Hp.below_ nxI (H i0):=by (repeat refine Hp.below_set ?_ yp);exact Hp.below_none _):AW J nx fr hp (.code (.loop c)::k):=aw_loopI nxI hk F H Inv M i0 h0 hf hh bf bh round
theorem Nx {ι : Type} {nxI : Nat} {F : ι → Fr} {H : ι → Hp} {Inv : ι → Prop} {M : ι → Nat} {i : ι} (j : ι) (h0 : Inv j) (hm : M j < M i) (hk : Nat.ble (max J.kg J.bn) nxI = true := by exact rfl)
    (hf:Fr.le (F j) fr:=by (repeat refine Fr.le_set ?_ y6);exact Fr.le_none _) (hh:Hp.le (H j) hp:=by (repeat refine Hp.le_set ?_ rfl);exact Hp.le_none _) (bf:Fr.below_ nxI (F j):=by (repeat refine Fr.below_setB ?_ rfl);exact Fr.below_none _) (bh:Hp.below_ nxI (H j):=by (repeat refine Hp.below_set ?_ yp);exact Hp.below_none _):AW J nx fr hp (.again (Next J nxI F H Inv M i)::k):=zri j h0 hm hk hf hh bf bh
end
end Go.Ab
namespace Go.Ab
open Go.RowKit
theorem zoq {w w':World} (h:Below w.heap.size w w'):∃q os,w'=Sort.grow (w.drewN q) os:=by
  refine⟨w'.drawn-w.drawn,w'.heap.extract w.heap.size w'.heap.size,?_⟩;have hh:w'.heap=w.heap++w'.heap.extract w.heap.size w'.heap.size:=by
    apply Array.ext_getElem?;intro i;rw[Array.getElem?_append];by_cases c:i<w.heap.size
    · rw[ut c];exact h.block i c
    rw[ur c,Array.getElem?_extract];by_cases d:i<w'.heap.size
    · rw[ut ya];congr 1;omega
    rw[ur ya,Array.getElem?_eq_none ya]
  have h1:=h.os;have h2:=h.tape;have h3:=h.output;have h4:=h.drawn;cases w;cases w';simp only[Sort.grow,World.drewN] at *;subst h1;subst h2;subst h3;congr 1;omega
section
variable {α:Type} {T:GoT α} {enc:α→List Value} {ok:α→Prop}
def Flat1 (T:GoT α) (enc:α→List Value) (ok:α→Prop):Prop:=∀U N w x cs,T.rel U N w x cs↔cs=enc x∧ok x
theorem ziV (hF:Flat1 T enc ok) {U N:Nat→Prop} {w:World}:∀{l:List α} {cs:List Value},zaa T U N w l cs↔cs=(l.map enc).flatten∧∀x∈l,ok x
  | [],cs=>by simp[zaa]
  | x::l,cs=>by
    constructor
    · rintro ⟨c1,c2,rfl,h1,h2⟩
      obtain⟨rfl,hx⟩:=(hF _ _ _ _ _).1 h1;obtain⟨rfl,hl⟩:=(ziV hF).1 h2;refine⟨by simp,fun y hy=>?_⟩;rcases List.mem_cons.1 hy with e|hy
      · rw[e];exact hx
      exact hl y hy
    rintro ⟨rfl,hl⟩
    exact⟨enc x,(l.map enc).flatten,by simp,(hF _ _ _ _ _).2 ⟨rfl,hl x yx⟩,(ziV hF).2 ⟨rfl,fun y hy=>hl y ybi⟩⟩
theorem zl3 {β:Type} {f:β→List Value} {k:Nat} (h0:0<k) (hk:∀x,(f x).length=k):∀(l:List β) (t:Nat),(l.map f).flatten[t]?=(l[t/k]?).bind fun x=>(f x)[t%k]?
  | [],t=>by simp
  | x::l,t=>by
    rw[List.map_cons,List.flatten_cons];by_cases c:t<k
    · rw[List.getElem?_append_left (by rw[hk];exact c),Nat.div_eq_of_lt c,Nat.mod_eq_of_lt c];rfl
    rw[List.getElem?_append_right (by rw[hk];omega),hk,zl3 h0 hk l (t-k)];have e1:t/k=(t-k)/k+1:=by
      rw[Nat.div_eq_sub_div h0 ya]
    have e2:t%k=(t-k)%k:=by rw[Nat.mod_eq_sub_mod ya]
    rw[e1,e2];rfl
theorem zjJ {β:Type} [Inhabited β] {f:β→List Value} {k:Nat} (h0:0<k) (hk:∀x,(f x).length=k) (d:Array β):(Sort.flatK f k d).toList=(d.toList.map f).flatten:=by
  apply List.ext_getElem?;intro t;rw[zl3 h0 hk];by_cases c:t<d.size*k
  · have hd:t/k<d.size:=(Nat.div_lt_iff_lt_mul h0).2 c
    have h1:=Sort.get_flatK f k d t c;have hs:t<(Sort.flatK f k d).size:=by rw[Sort.size_flatK];exact c
    rw[getElem!_pos (Sort.flatK f k d) t hs,getElem!_pos d (t/k) hd] at h1;have hm:t%k<(f d[t/k]).length:=by rw[hk];exact Nat.mod_lt _ h0
    rw[getElem!_pos (f d[t/k]) (t%k) hm] at h1;rw[ub (by simpa using hs),ub (by simpa using hd)];simp only[Option.bind_some,Array.getElem_toList];rw[ub hm,h1]
  have hd:¬t/k<d.size:=fun h=>c ((Nat.div_lt_iff_lt_mul h0).1 h)
  rw[List.getElem?_eq_none yG,List.getElem?_eq_none yG];rfl
theorem zpg {β:Type} [Inhabited β] {f:β→List Value} {k:Nat} (h0:0<k) (hk:∀x,(f x).length=k) {w:World} {g n:Nat} {d:Array β} {os:Array Obj} {cur:Array Value} {e:TypeId} (hg:w.heap[g]?=some (.cells cur e (0,0))) (hs:d.size*k≤cur.size) :
    (Proofs.sortWorldK f k w g 0 n d os).heap[g]?=some (.cells ((d.toList.map f).flatten++cur.toList.drop (d.size*k)).toArray e (0,0))∧
    BelowX (fun b=>b=g) w (Proofs.sortWorldK f k w g 0 n d os):=by
  have hlt:=(Array.getElem?_eq_some_iff.1 hg).1;have hsz:(Sort.ahead w n).heap.size=w.heap.size:=rfl;have hheap:(Proofs.sortWorldK f k w g 0 n d os).heap=w.heap.modify g (Sort.onCells (Sort.putCells id 0 (Sort.flatK f k d)))++os:=rfl;refine⟨?_,rfl,rfl,rfl,?_,fun b hb hne=>?_,Nat.le_add_right _ _⟩
  · rw[hheap,Array.getElem?_append_left yL,Array.getElem?_modify,ut rfl,hg]
    simp only[Option.map_some,Sort.onCells];congr 2;apply Array.ext';rw[List.toList_toArray];apply List.ext_getElem?;intro t;have hfl:=zjJ h0 hk d;rw[←hfl];have hF:(Sort.flatK f k d).size=d.size*k:=Sort.size_flatK _ _ _;unfold Sort.putCells;rw[Array.getElem?_toList,Array.getElem?_mapIdx];by_cases c:t<d.size*k
    · rw[List.getElem?_append_left (by simpa using c),Array.getElem?_eq_getElem ya]
      have hs2:t<(Sort.flatK f k d).size:=ya;simp only[Option.map_some];rw[ut ⟨uf _,by omega⟩,Array.getElem?_toList,Array.getElem?_eq_getElem hs2,Nat.sub_zero,getElem!_pos (Sort.flatK f k d) t hs2];rfl
    rw[List.getElem?_append_right yG];simp only[Array.length_toList,hF,List.getElem?_drop];rw[show d.size*k+(t-d.size*k)=t by omega,Array.getElem?_toList];cases hc:cur[t]? with
    | none=>rfl
    | some v=>simp only[Option.map_some];rw[ur ya]
  · rw[hheap];simp
  rw[hheap,Array.getElem?_append_left (by simpa using hb),Array.getElem?_modify,ur (fun h=>hne h.symm)]
open Go.Shelf in
theorem sort_tells {P:Program} {ρ:Ren} (L:Proofs.SlLaysF0.n6 P ρ) (hF:Flat1 T enc ok) (hlen:∀x,ok x→(enc x).length=T.size) (hone:∀x,ok x→∀v∈enc x,v.oneCell'=true) (hag:T.agg=true) {x0:α} (hx0:ok x0)
    (ht:tyB P (ρ.t 24) T.size true=true) {cf:α→α→Int} (hirr:∀x,ok x→¬cf x x<0) (htr:∀x y z,ok x→ok y→ok z→cf x y<0→cf y z<0→cf x z<0) (hntr:∀x y z,ok x→ok y→ok z→¬cf x y<0→¬cf y z<0→¬cf x z<0)
    {g:FuncId} (hg:fnB P g=true) (hcmp:∀x y,Tells P g [.val T x,.val T y] (.val i64T (cf x y))) {e:TypeId} {l r:List α} (hn:l.length<1000000000)
    (hsort:∀r',r'.Perm l→r'.Pairwise (fun a b=>¬cf b a<0)→r'=r):zfz P (ρ.f 6) (.row e T l) [.own 0,.clo g []] (.lit (.tuple #[])) (.row e T r):=by
  intro ext p w vs hext hgr hrow hargs;obtain⟨hl2,hargs⟩:=hargs.spec
  match vs,hl2 with
  | [v0,v1],_ =>
  have hv0:v0=p:=hargs 0 _ _ rfl rfl;have hv1:v1 = .func (.func g) #[] #[]:=hargs 1 _ _ rfl rfl;subst hv0;subst hv1;obtain⟨xs,hown,hall⟩:=hrow;obtain⟨hxs,hok⟩:=(ziV hF).1 hall;rcases hown.2 with ⟨hp,hl0⟩|⟨gb,cap,cur,hp,_,hheap,hncap,hcap,hcs,htk⟩
  · 
    obtain rfl:l=[]:=List.length_eq_zero_iff.1 hl0;have hr:r=[]:=(hsort [] (List.Perm.refl _) List.Pairwise.nil).symm;subst hr;subst hp
    have:=Proofs.AnyF.slices_SortFunc_none L none 0 (.func (.func g) #[] #[]) w
    refine this.mono ?_
    rintro _ w' ⟨rfl,rfl⟩
    exact⟨BelowX.refl _ _,⟨[],⟨by simp,.inl ⟨rfl,rfl⟩⟩,rfl⟩,rfl⟩
  subst hp
  let S:={ x:α // ok x }
  letI:Inhabited S:=⟨⟨x0,hx0⟩⟩
  let encS:S→List Value:=fun s=>enc s.1
  have hkS:∀s:S,(encS s).length=T.size:=fun s=>hlen s.1 s.2
  obtain⟨lS,hlS⟩:∃lS:List S,lS.map (·.1)=l:=⟨l.attachWith ok hok,List.attachWith_map_subtype_val hok⟩;have hsz:lS.length=l.length:=by rw[←hlS];simp
  have hmapS:∀q:List S,q.map encS=(q.map (·.1)).map enc:=fun q=>by rw[List.map_map];rfl
  have hlt:=(Array.getElem?_eq_some_iff.1 hheap).1;have hcsz:lS.length*T.size≤cur.size:=by rw[hcs,hsz];exact Nat.mul_le_mul_right _ hncap
  have hH:Sort.HoldsK encS T.size w gb 0 lS.toArray:=fun j hj=>by
    rw[Sort.size_flatK] at hj;have hj:j<lS.length*T.size:=by simpa using hj
    have hfl:=zjJ T.pos hkS lS.toArray;rw[List.toList_toArray,hmapS,hlS,←hxs,←htk] at hfl;have hs2:j<(Sort.flatK encS T.size lS.toArray).size:=by rw[Sort.size_flatK];simpa using hj
    refine⟨?_,?_⟩
    · rw[Nat.zero_add,cell_of_row w gb j cur e (0,0) hheap,getElem!_pos (Sort.flatK encS T.size lS.toArray) j hs2]
      have h1:(Sort.flatK encS T.size lS.toArray).toList[j]?=(cur.toList.take (l.length*T.size))[j]?:=by rw[hfl]
      rw[List.getElem?_take,ut (by rw[←hsz];exact hj),Array.getElem?_toList,Array.getElem?_toList,Array.getElem?_eq_getElem hs2] at h1;rw[←h1];rfl
    unfold World.frozen?;simp[hheap]
  have hC:Proofs.CmpLays P g #[] encS T.size (fun x y=>cf x.1 y.1) gb 0 lS.toArray.size w:=fun m os dk hdk x y=>by
    generalize hW:Proofs.sortWorldK encS T.size w gb 0 m dk os=W;have hx:T.val (fun _=>False) noN W x.1 (.agg (encS x).toArray):=⟨encS x,(hF _ _ _ _ _).2 ⟨rfl,x.2⟩,.inl ⟨hag,rfl⟩⟩;have hy:T.val (fun _=>False) noN W y.1 (.agg (encS y).toArray):=⟨encS y,(hF _ _ _ _ _).2 ⟨rfl,y.2⟩,.inl ⟨hag,rfl⟩⟩
    have:=hcmp x.1 y.1 (fun _=>False) W [.agg (encS x).toArray,.agg (encS y).toArray] (fun b hb=>hb.elim) ⟨hx,hy,trivial⟩
    have e0:#[Value.agg (encS x).toArray,Value.agg (encS y).toArray] ++ #[]=[Value.agg (encS x).toArray,Value.agg (encS y).toArray].toArray:=yx;rw[e0];refine this.mono fun en w' he=>?_
    cases en with
    | returned v =>
      obtain⟨hb,hv⟩:=he;obtain⟨q,os',hw'⟩:=zoq hb;exact⟨by rw[(zK.1 hv).1],q,os',hw'⟩
    | panicked c=>exact he.elim
    | outgrown=>exact he.elim
  have hO:Sort.SWO (Proofs.ltOf fun x y:S=>cf x.1 y.1):=by
    refine⟨fun x=>?_,fun x y z h1 h2=>?_,fun x y z h1 h2=>?_⟩
    · exact uh (hirr x.1 x.2)
    · exact ui (htr x.1 y.1 z.1 x.2 y.2 z.2 (of_decide_eq_true h1) (of_decide_eq_true h2))
    exact uh (hntr x.1 y.1 z.1 x.2 y.2 z.2 (of_decide_eq_false h1) (of_decide_eq_false h2))
  obtain⟨fn,h1,h2,h3⟩:=zcp hg;have eg:∀args w,(callFunc g args).run P w = .ok (.enter g args) w:=fun args w=>by
    have hne : fn.name ≠ "runtime.NumGoroutine" := by simpa using h3
    have hbn:fn.body≠none:=by intro e;rw[e] at h2;cases h2
    simp[callFunc,h1,hne,hbn,Sem.run_bind]
  have key:=Proofs.AnyQ.slices_SortFunc L T.size (fun w=>(zeE ht w).2.1) (fun w=>(zeE ht w).2.2) encS hkS (fun s=>hone s.1 s.2) (fun x y=>cf x.1 y.1) hO g #[] gb 0 cap lS.toArray w eg hC hH hlt yG;rw[show lS.toArray.size=l.length by simpa using hsz] at key;refine Calls.mono key ?_
  rintro _ w' ⟨rfl,d',n,os,hperm,hsorted,rfl⟩
  have hdsz:d'.size=l.length:=by rw[hperm.1];simpa using hsz
  have hp2:d'.toList.Perm lS:=by
    have:=hperm.2.2
    have e1:d'.extract 0 l.length=d':=by rw[←hdsz];exact Array.extract_size
    have e2:lS.toArray.extract 0 l.length=lS.toArray:=by rw[←hsz];simp
    rw[e1,e2] at this;simpa using this
  have hr:d'.toList.map (·.1)=r:=by
    refine hsort _ ?_ ?_
    · rw[←hlS];exact hp2.map _
    rw[List.pairwise_map];rw[List.pairwise_iff_getElem];intro i j hi hj hij;have hi':i<d'.size:=ybs;have hj':j<d'.size:=by simpa using hj
    have:=hsorted i j (uf _) hij ya
    rw[getElem!_pos d' i hi',getElem!_pos d' j hj'] at this
    have:=of_decide_eq_false this
    simpa using this
  obtain⟨hb1,hb2⟩:=zpg (n:=n) (os:=os) T.pos hkS hheap (d:=d') (by rw[hdsz,←hsz];exact hcsz);have hgN:gN (.slice (some ⟨gb,0,none⟩) l.length cap)=fun b=>b=gb:=by
    funext b;unfold gN zaN;exact propext ⟨fun h=>(Option.some.inj h).symm,fun h=>by rw[h]⟩
  have hrl:r.length=l.length:=by rw[←hr];simpa using hdsz
  have hflat:(d'.toList.map encS).flatten=(r.map enc).flatten:=by rw[hmapS,hr]
  have hfl2:((r.map enc).flatten).length=l.length*T.size:=by
    have:=Sort.size_flatK encS T.size d'
    rw[←hflat,←zjJ T.pos hkS d'];rw[Array.length_toList,this,hdsz]
  have hokr:∀x∈r,ok x:=fun x hx=>by
    rw[←hr] at hx;obtain⟨s,_,rfl⟩:=List.mem_map.1 hx;exact s.2
  refine⟨by rw[hgN];exact hb2,⟨(r.map enc).flatten,⟨by rw[hfl2,hrl],.inr ⟨gb,cap,_,by rw[hrl],uf _,hb1,by rw[hrl];exact hncap,hcap,?_,?_⟩⟩,(ziV hF).2 ⟨rfl,hokr⟩⟩,rfl⟩
  · rw[hflat];simp only[List.size_toArray,ue,List.length_drop,hfl2,Array.length_toList,hdsz,hcs]
    have:=Nat.mul_le_mul_right T.size hncap
    omega
  rw[hflat,List.toList_toArray,hrl,←hfl2,List.take_left' rfl]
end
end Go.Ab
namespace Go.Ab
open Go.RowKit
abbrev Light {H:Type} (P:Program) (t:TypeId) (d:DataW H):Prop:=(d.weights P t).all (·≤reachBytes)=true
def KT {α:Type} (_:α):Prop:=True
def KAll {α:Type} (bytes:Nat) (K:α→Prop) (l:List α):Prop:=l.length*bytes≤140737488351232∧∀x∈l,K x
def KP {α β:Type} (K:α→Prop) (K':β→Prop) (x:α×β):Prop:=K x.1∧K' x.2
structure Opens (P:Program) (t:TypeId) {α:Type} (T:GoT α) (K:α→Prop):Prop where
  rd:∀{H:Type} {enc:TypeId×Value→H} {W:World} {sp:Nat→Bool} {held:Bool} {fuel:Nat} {cs:List Value} {x:DataW H×List MemPlace},DataW.trod enc P W 0 sp held fuel t cs=some x→Light P t x.1→∃y,T.rel noN noN W y cs∧K y
section
variable {P:Program} {t e:TypeId} {α β:Type} {T:GoT α} {S:GoT β} {K:α→Prop} {K2:β→Prop}
theorem zky {k:IntKind} {H:Type} {enc:TypeId×Value→H} {W:World} {sp:Nat→Bool} {held:Bool} {fuel:Nat} {cs:List Value} {x:DataW H×List MemPlace} (hu:P.underlying t=some (.int k)) (h:DataW.trod enc P W 0 sp held fuel t cs=some x) :
    ∃n,cs=[.int k n]∧IntKind.InR k n:=by
  cases fuel with
  | zero=>simp[DataW.trod] at h
  | succ f =>
    unfold DataW.trod at h;rw[hu] at h
    match cs,h with
    | [.int k' n],h =>
      simp only at h
      split at h
      · rename_i c
        obtain⟨rfl,hw⟩:=c;refine⟨n,rfl,?_⟩;simp only[Lit.wf,uk,uj] at hw;exact hw
      cases h
theorem op_int {k:IntKind} (hu:P.underlying t=some (.int k)):Opens P t (intT k) KT:=⟨fun h _=>by
  obtain⟨n,rfl,hn⟩:=zky hu h;exact⟨n,⟨rfl,hn⟩,trivial⟩⟩
theorem op_u8 (hu:P.underlying t=some (.int .u8)):Opens P t u8T KT:=⟨fun h _=>by
  obtain⟨n,rfl,hn⟩:=zky hu h;simp[IntKind.InR,IntKind.min,IntKind.max,IntKind.signed,IntKind.bits] at hn;refine⟨UInt8.ofNat n.toNat,⟨?_,trivial⟩,trivial⟩;show [Value.int .u8 n]=[Value.int .u8 ((UInt8.ofNat n.toNat).toNat:Nat)];rw[UInt8.toNat_ofNat_of_lt' (by show n.toNat<256;omega),Int.toNat_of_nonneg hn.1]⟩
theorem op_u32 (hu:P.underlying t=some (.int .u32)):Opens P t u32T KT:=⟨fun h _=>by
  obtain⟨n,rfl,hn⟩:=zky hu h;simp[IntKind.InR,IntKind.min,IntKind.max,IntKind.signed,IntKind.bits] at hn;refine⟨UInt32.ofNat n.toNat,⟨?_,trivial⟩,trivial⟩;show [Value.int .u32 n]=[Value.int .u32 ((UInt32.ofNat n.toNat).toNat:Nat)];rw[UInt32.toNat_ofNat_of_lt' (by show n.toNat<4294967296;omega),Int.toNat_of_nonneg hn.1]⟩
theorem op_u64 (hu:P.underlying t=some (.int .u64)):Opens P t u64T KT:=⟨fun h _=>by
  obtain⟨n,rfl,hn⟩:=zky hu h;simp[IntKind.InR,IntKind.min,IntKind.max,IntKind.signed,IntKind.bits] at hn;refine⟨UInt64.ofNat n.toNat,⟨?_,trivial⟩,trivial⟩;show [Value.int .u64 n]=[Value.int .u64 ((UInt64.ofNat n.toNat).toNat:Nat)];rw[UInt64.toNat_ofNat_of_lt' (by show n.toNat<18446744073709551616;omega),Int.toNat_of_nonneg hn.1]⟩
theorem zkT {n:Nat} {g:Bool} (h:tyB P t n g=true):P.cellsOf t=n:=by
  obtain⟨i,h1,h2⟩:=(zeE h default).1;simp[Program.cellsOf,h1,h2]
theorem zog {γ δ:Type} {f:γ→Option δ}:∀{l:List γ} {r:List δ},l.mapM f=some r→∀x∈l,∃y∈r,f x=some y
  | [],_,_,x,hx=>by cases hx
  | z::l,r,h,x,hx=>by
    rw[List.mapM_cons] at h;cases hz:f z with
    | none=>rw[hz] at h;cases h
    | some y =>
      rw[hz] at h;cases hl:l.mapM f with
      | none=>simp[hl] at h
      | some r' =>
        simp[hl] at h;subst h;rcases List.mem_cons.1 hx with e|hx
        · rw[e];exact⟨y,by simp,hz⟩
        obtain⟨y',h1,h2⟩:=zog hl x hx;exact⟨y',by simp[h1],h2⟩
theorem zsb {γ δ:Type} {f:γ→Option δ}:∀{l:List γ} {r:List δ},l.mapM f=some r→r.length=l.length
  | [],r,h=>by simp at h;subst h;rfl
  | z::l,r,h=>by
    rw[List.mapM_cons] at h;cases hz:f z with
    | none=>rw[hz] at h;cases h
    | some y =>
      rw[hz] at h;cases hl:l.mapM f with
      | none=>simp[hl] at h
      | some r' =>
        simp[hl] at h;subst h;simp[zsb hl]
theorem zlH {H:Type} {e:TypeId}:∀{ds:List (DataW H)},(DataW.weightsAll P e ds).all (·≤reachBytes)=true→∀d∈ds,Light P e d
  | [],_,d,hd=>by cases hd
  | c::ds,h,d,hd=>by
    unfold DataW.weightsAll at h;rw[List.all_append,uk] at h;rcases List.mem_cons.1 hd with e|hd
    · rw[e];exact h.1
    exact zlH h.2 d hd
theorem znk {H γ:Type} {ty:γ→TypeId} {f:γ→Option (DataW H×List MemPlace)}:∀{l:List γ} {r:List (DataW H×List MemPlace)},l.mapM f=some r→(DataW.weightsEach P (l.map ty) (r.map (·.1))).all (·≤reachBytes)=true→∀x∈l,∃z,f x=some z∧Light P (ty x) z.1
  | [],_,_,_,x,hx=>by cases hx
  | c::l,r,h,hw,x,hx=>by
    rw[List.mapM_cons] at h;cases hz:f c with
    | none=>rw[hz] at h;cases h
    | some y =>
      rw[hz] at h;cases hl:l.mapM f with
      | none=>simp[hl] at h
      | some r' =>
        simp[hl] at h;subst h;rw[List.map_cons,List.map_cons] at hw;unfold DataW.weightsEach at hw;rw[List.all_append,uk] at hw;rcases List.mem_cons.1 hx with e|hx
        · rw[e];exact⟨y,hz,hw.1⟩
        exact znk hl hw.2 x hx
theorem zhp {bytes:Nat} (hO:Opens P e T K) (hs:sliceB P t e T.size=true) (hby:P.bytesOf e=bytes):Opens P t (sl T) (KAll bytes K):=⟨fun {H enc W sp held fuel cs x} h hw=>by
  have hu:=(zaR hs W).1;have hcl:P.cellsOf e=T.size:=by
    obtain⟨i,h1,h2⟩:=(zaR hs W).2.2;simp[Program.cellsOf,h1,h2]
  cases fuel with
  | zero=>simp[DataW.trod] at h
  | succ f =>
    unfold DataW.trod at h;rw[hu] at h
    match cs,h with
    | [.slice none 0 0],_=>exact⟨[],⟨none,0,rfl,ug _,by unfold maxLen;omega,fun h=>absurd rfl h⟩,by simp,fun x hx=>by cases hx⟩
    | [.slice (some a) len cap],h =>
      simp only at h
      split at h
      · rename_i c
        cases hm:(List.range len).mapM (fun i=>(W.cells? 0 (a.add (i*P.cellsOf e)) (P.cellsOf e)).bind (DataW.trod enc P W 0 sp held f e)) with
        | none=>rw[hm] at h;cases h
        | some elems =>
          rw[hm] at h;obtain⟨rest,_,hx⟩:=Option.map_eq_some_iff.1 h;subst hx;have hw:((DataW.slice (elems.map (·.1)) (rest.map (·.1))).weights P t).all (·≤reachBytes)=true:=hw;unfold DataW.weights at hw;rw[hu] at hw;simp only[List.all_cons,List.all_append,uk,uj,List.length_map] at hw;obtain⟨hw1,hw2,_⟩:=hw;have hel:elems.length=len:=by rw[zsb hm,List.length_range]
          have hwl:len*bytes≤140737488351232:=by
            rw[hby,hel] at hw1
            have:len*bytes≤(len+rest.length)*bytes:=Nat.mul_le_mul_right _ ya
            have h0:reachBytes=140737488351232:=rfl;omega
          have hall:∀i,i<len→∃y ds,(T.rel noN noN W y ds∧K y)∧∀j v,ds[j]?=some v→W.cell? ((a.add (i*T.size)).add j)=some v:=fun i hi=>by
            obtain⟨z,hzm,hz⟩:=zog hm i ybs;obtain⟨ds,h1,h2⟩:=Option.bind_eq_some_iff.1 hz;obtain⟨y,hy,hk⟩:=hO.rd h2 (zlH hw2 _ (List.mem_map_of_mem hzm));refine⟨y,ds,⟨hy,hk⟩,fun j v hj=>?_⟩;rw[hcl] at h1;unfold World.cells? at h1;rw[ut (uf _)] at h1;have hlen:=T.len hy;have hj':j<T.size:=by rw[←hlen];exact(ul.1 hj).1
            have key:∀{n:Nat} {r:List Value},(List.range n).mapM (fun i_1=>W.cell? ((a.add (i*T.size)).add i_1))=some r→∀j v,r[j]?=some v→W.cell? ((a.add (i*T.size)).add j)=some v:=by
              intro n
              induction n with
              | zero=>intro r hr j v hv;simp at hr;subst hr;simp at hv
              | succ n ih =>
                intro r hr j v hv;rw[List.range_succ,List.mapM_append] at hr;cases hr1:(List.range n).mapM (fun i_1=>W.cell? ((a.add (i*T.size)).add i_1)) with
                | none=>rw[hr1] at hr;cases hr
                | some r1 =>
                  rw[hr1] at hr;cases hc:W.cell? ((a.add (i*T.size)).add n) with
                  | none=>simp[hc] at hr
                  | some u =>
                    simp[hc] at hr;subst hr;have hl1:r1.length=n:=by
                      have:∀{l:List Nat} {r:List Value},l.mapM (fun i_1=>W.cell? ((a.add (i*T.size)).add i_1))=some r→r.length=l.length:=by
                        intro l
                        induction l with
                        | nil=>intro r hr;simp at hr;subst hr;rfl
                        | cons z l ih =>
                          intro r hr;rw[List.mapM_cons] at hr;cases hz:W.cell? ((a.add (i*T.size)).add z) with
                          | none=>simp[hz] at hr
                          | some y =>
                            cases hl:l.mapM (fun i_1=>W.cell? ((a.add (i*T.size)).add i_1)) with
                            | none=>simp[hz,hl] at hr
                            | some r'=>simp[hz,hl] at hr;subst hr;simp[ih hl]
                      simpa using this hr1
                    by_cases hjn:j<n
                    · rw[List.getElem?_append_left ya] at hv
                      exact ih hr1 j v hv
                    rw[List.getElem?_append_right ya] at hv
                    have:j=n:=by
                      have:=(ul.1 hv).1
                      simp at this;omega
                    subst this;simp[hl1] at hv;subst hv;exact hc
            exact key h1 j v hj
          have build:∀n,n≤len→∃l ds,l.length=n∧(zaa T noN noN W l ds∧∀x∈l,K x)∧∀j v,ds[j]?=some v→W.cell? (a.add j)=some v:=by
            intro n
            induction n with
            | zero=>intro _;exact⟨[],[],rfl,⟨rfl,fun x hx=>by cases hx⟩,fun j v h=>by simp at h⟩
            | succ n ih =>
              intro hn;obtain⟨l,ds,h1,⟨h2,hkl⟩,h3⟩:=ih ya;obtain⟨y,ds',⟨h4,hky⟩,h5⟩:=hall n ya;refine⟨l++[y],ds++ds',by simp[h1],⟨h2.append ⟨ds',[],by simp,h4,rfl⟩,fun x hx=>?_⟩,fun j v hj=>?_⟩
              · rcases List.mem_append.1 hx with hx|hx
                · exact hkl x hx
                rw[List.mem_singleton.1 hx];exact hky
              have hdl:ds.length=n*T.size:=by rw[h2.len,h1]
              by_cases c:j<ds.length
              · rw[List.getElem?_append_left c] at hj;exact h3 j v hj
              rw[List.getElem?_append_right ya] at hj
              have:=h5 _ v hj
              rw[zbs] at this
              rwa [show n*T.size+(j-ds.length)=j by omega] at this
          obtain⟨l,ds,h1,⟨h2,hk⟩,h3⟩:=build len (ug _);exact⟨l,⟨some a,cap,by rw[h1],by rw[h1];exact c.2.1,c.2.2,fun _=>⟨a,ds,rfl,fun h=>h,h2,h3⟩⟩,by rw[h1];exact hwl,hk⟩
      cases h⟩
theorem op_arr {n:Nat} {hn:0<n} (hO:Opens P e T K) (ha:arrB P t n e T.size=true) (ht:tyB P t (n*T.size) true=true):Opens P t (arrT n hn T) KT:=⟨fun {H enc W sp held fuel cs x} h hw=>by
  obtain⟨hu,hsz⟩:=zcx ha W;have hcl:P.cellsOf e=T.size:=by
    unfold arrB at ha;rw[uk] at ha;have h2:(P.info? e).map (·.size)=some T.size:=by simpa using ha.2
    obtain⟨i,h1,h2⟩:=Option.map_eq_some_iff.1 h2;simp[Program.cellsOf,h1,h2]
  cases fuel with
  | zero=>simp[DataW.trod] at h
  | succ f =>
    unfold DataW.trod at h;rw[hu] at h;simp only at h
    split at h
    · rename_i hlen
      cases hm:(List.range n).mapM (fun i=>DataW.trod enc P W 0 sp held f e ((cs.drop (i*P.cellsOf e)).take (P.cellsOf e))) with
      | none=>rw[hm] at h;cases h
      | some xs =>
        rw[hm] at h;have hx:x=(DataW.agg (xs.map (·.1)),xs.flatMap (·.2)):=(Option.some.inj h).symm;subst hx;have hw:((DataW.agg (xs.map (·.1))).weights P t).all (·≤reachBytes)=true:=hw;unfold DataW.weights at hw;rw[hu] at hw;have hall:∀i,i<n→∃y,T.rel noN noN W y ((cs.drop (i*T.size)).take T.size):=fun i hi=>by
          obtain⟨z,hzm,hz⟩:=zog hm i ybs;rw[hcl] at hz;obtain⟨y,hy,_⟩:=hO.rd hz (zlH hw _ (List.mem_map_of_mem hzm));exact⟨y,hy⟩
        have build:∀m,m≤n→∃l:List α,l.length=m∧(cs.take (m*T.size)).length=m*T.size∧zaa T noN noN W l (cs.take (m*T.size)):=by
          intro m
          induction m with
          | zero=>intro _;exact⟨[],rfl,by simp,by simp[zaa]⟩
          | succ m ih =>
            intro hm;obtain⟨l,h1,h2,h3⟩:=ih ya;obtain⟨y,hy⟩:=hall m ya;have e:cs.take ((m+1)*T.size)=cs.take (m*T.size)++(cs.drop (m*T.size)).take T.size:=by
              rw[Nat.add_mul,Nat.one_mul,List.take_add]
            refine⟨l++[y],by simp[h1],?_,?_⟩
            · rw[e,ue,h2,T.len hy,Nat.add_mul,Nat.one_mul]
            rw[e];exact h3.append ⟨_,[],by simp,hy,rfl⟩
        obtain⟨l,h1,h2,h3⟩:=build n (ug _);have hcs:cs.length=n*T.size:=by rw[hlen,zkT ht]
        rw[uc ya] at h3;exact⟨l,⟨h1,h3⟩,trivial⟩
    cases h⟩
def OpF (P:Program) (s:TypeId) (k off:Nat) {α:Type} (T:GoT α) (K:α→Prop):Prop :=
  ∀{H:Type} {enc:TypeId×Value→H} {W:World} {sp:Nat→Bool} {held:Bool} {fuel:Nat} {cs:List Value} {fs:Array Field},P.underlying s=some (.struct fs)→
    (∀fd∈fs.toList,∃z,DataW.trod enc P W 0 sp held fuel fd.type ((cs.drop fd.offset).take (P.cellsOf fd.type))=some z∧Light P fd.type z.1)→(cs.drop off).length=T.size→∃y,T.rel noN noN W y (cs.drop off)∧K y
theorem znu {s:TypeId} {k off:Nat} {ft:TypeId} (hf:fieldB P s k off ft=true) {H:Type} {enc:TypeId×Value→H} {W:World} {sp:Nat→Bool} {held:Bool} {fuel:Nat} {cs:List Value} {fs:Array Field} (hu:P.underlying s=some (.struct fs))
    (h:∀fd∈fs.toList,∃z,DataW.trod enc P W 0 sp held fuel fd.type ((cs.drop fd.offset).take (P.cellsOf fd.type))=some z∧Light P fd.type z.1):∃z,DataW.trod enc P W 0 sp held fuel ft ((cs.drop off).take (P.cellsOf ft))=some z∧Light P ft z.1:=by
  obtain⟨fs',fd,h1,h2,h3,h4⟩:=zgs hf;obtain rfl:fs=fs':=by rw[hu] at h1;injection h1 with h1;injection h1
  have:=h fd (by
    obtain⟨hk,e⟩:=Array.getElem?_eq_some_iff.1 h2;rw[←e];simp)
  rw[h3,h4] at this;exact this
theorem zho {s:TypeId} {k off:Nat} {ft:TypeId} {g:Bool} (hf:fieldB P s k off ft=true) (ht:tyB P ft T.size g=true) (hO:Opens P ft T K):OpF P s k off T K:=fun {H enc W sp held fuel cs fs} hu h hl=>by
  obtain⟨z,hz,hw⟩:=znu hf hu h;rw[zkT ht,uc ya] at hz;exact hO.rd hz hw
theorem zcS {s:TypeId} {k off off':Nat} {ft:TypeId} {g:Bool} (hf:fieldB P s k off ft=true) (ht:tyB P ft T.size g=true) (hO:Opens P ft T K) (e:off+T.size=off') (hr:OpF P s (k+1) off' S K2):OpF P s k off (zdk T S) (KP K K2):=fun {H enc W sp held fuel cs fs} hu h hl=>by
  subst e;obtain⟨z,hz,hw⟩:=znu hf hu h;rw[zkT ht] at hz;obtain⟨y,hy,hk⟩:=hO.rd hz hw;have hl:(cs.drop off).length=T.size+S.size:=hl;obtain⟨y',hy',hk'⟩:=hr hu h (by rw[List.length_drop] at hl ⊢;omega);refine⟨(y,y'),⟨(cs.drop off).take T.size,cs.drop (off+T.size),?_,hy,hy'⟩,hk,hk'⟩;rw[←List.drop_drop,List.take_append_drop]
theorem zfS {t:TypeId} {A:GoT α} {γ:Type} {g:γ→α} (f:α→γ) (hgf:∀x,g (f x)=x) (hs:(match P.underlying t with|some (.struct _)=>true|_=>false)=true) (ht:tyB P t A.size true=true) (hF:OpF P t 0 0 A K) {K':γ→Prop} (hK:∀y,K (g y)→K' y):Opens P t (viaT A g) K':=⟨fun {H enc W sp held fuel cs x} h hw=>by
  cases fuel with
  | zero=>simp[DataW.trod] at h
  | succ n =>
    cases hu:P.underlying t with
    | none=>rw[hu] at hs;cases hs
    | some d =>
      rw[hu] at hs;cases d<;>simp at hs;rename_i fs;unfold DataW.trod at h;rw[hu] at h;simp only at h
      split at h
      · rename_i hlen
        cases hm:fs.toList.mapM (fun f=>DataW.trod enc P W 0 sp held n f.type ((cs.drop f.offset).take (P.cellsOf f.type))) with
        | none=>rw[hm] at h;cases h
        | some xs =>
          rw[hm] at h;have hx:x=(DataW.agg (xs.map (·.1)),xs.flatMap (·.2)):=(Option.some.inj h).symm;subst hx;have hw:((DataW.agg (xs.map (·.1))).weights P t).all (·≤reachBytes)=true:=hw;unfold DataW.weights at hw;rw[hu] at hw;obtain⟨y,hy,hk⟩:=hF hu (znk (ty:=fun fd:Field=>fd.type) hm hw) (by rw[List.drop_zero,hlen,zkT ht]);rw[List.drop_zero] at hy;exact⟨f y,by show A.rel _ _ _ _ _;rw[hgf];exact hy,hK _ (by rw[hgf];exact hk)⟩
      cases h⟩
structure GT where
  {α:Type}
  T:GoT α
  K:α→Prop
def Shape:List GT→List AV→Prop
  | [],[]=>True
  | G::Gs,A::As=>(∃x,A = .val G.T x∧G.K x)∧Shape Gs As
  | _,_=>False
def zkW (P:Program):List TypeId→List GT→Prop
  | [],[]=>True
  | t::ts,G::Gs=>Opens P t G.T G.K∧tyB P t G.T.size G.T.agg=true∧zkW P ts Gs
  | _,_=>False
theorem open_val {W:World} {v:Value} {H:Type} {enc:TypeId×Value→H} {sp:Nat→Bool} {held:Bool} {d:DataW H} {ps:List MemPlace} {b0:Nat} (hO:Opens P t T K) (ht:tyB P t T.size T.agg=true) (hok:Value.okWide P W .any b0 t v) (h:DataW.Trod enc P W 0 sp held t v d ps) (hw:Light P t d) :
    ∃x,T.val noN noN W x v∧K x:=by
  obtain⟨fuel,hf⟩:=h;obtain⟨y,hy,hk⟩:=hO.rd hf hw;refine⟨y,?_,hk⟩;unfold tyB at ht;rw[uk] at ht;obtain⟨_,ht⟩:=ht;unfold Value.okWide at hok;cases hu:P.underlying t with
  | none=>rw[hu] at ht;cases ht
  | some de =>
    rw[hu] at ht hok;have hone:T.agg=false→(∀cs,v≠.agg cs)→(∀cs,v≠.tuple cs)→T.val noN noN W y v:=fun hg h1 h2=>by
      refine⟨_,hy,.inr ⟨hg,?_⟩⟩;cases v<;>first|rfl|(exact absurd rfl (h1 _))|(exact absurd rfl (h2 _))
    have hcell:(T.agg=false)→Cell.okWide P W .any b0 t v→T.val noN noN W y v:=fun hg hc=>by
      refine hone hg (fun cs e=>?_) (fun cs e=>?_)
      · subst e
        unfold Cell.okWide Cell.ok at hc;rw[hu] at hc;cases de<;>exact hc
      subst e;unfold Cell.okWide Cell.ok at hc;rw[hu] at hc;cases de<;>exact hc
    cases de<;>first
      | (have hg:T.agg=true:=ht
         obtain⟨cs,rfl,_,_⟩:=hok;exact⟨cs.toList,by simpa [Value.cells] using hy,.inl ⟨hg,rfl⟩⟩)
      | exact hcell (by simpa using ht) hok
theorem zr4 {W:World} {H:Type} {enc:TypeId×Value→H} {sp:Nat→Bool} {held:Bool} {b0:Nat}:∀{ts:List TypeId} {Gs:List GT} {vs:List Value} {ds:List (DataW H)} {ps:List MemPlace},zkW P ts Gs→DataW.TrodAll enc P W 0 sp held ts vs ds ps→
    (∀(j:Nat) t v,ts[j]?=some t→vs[j]?=some v→Value.okWide P W .any b0 t v)→(DataW.weightsEach P ts ds).all (·≤reachBytes)=true→∃As,Shape Gs As∧zb6 noN W As vs
  | [],[],[],[],_,_,_,_,_=>⟨[],trivial,trivial⟩
  | [],[],_::_,_,_,_,h,_,_=>h.elim
  | [],[],[],_::_,_,_,h,_,_=>h.elim
  | [],_::_,_,_,_,h,_,_,_=>h.elim
  | _::_,[],_,_,_,h,_,_,_=>h.elim
  | _::_,_::_,[],_,_,_,h,_,_=>h.elim
  | _::_,_::_,_::_,[],_,_,h,_,_=>h.elim
  | t::ts,G::Gs,v::vs,d::ds,ps,⟨h1,h2,h3⟩,⟨p,q,g1,g2,_⟩,hok,hw=>by
    unfold DataW.weightsEach at hw;rw[List.all_append,uk] at hw;obtain⟨x,hx,hk⟩:=open_val h1 h2 (hok 0 t v rfl rfl) g1 hw.1;obtain⟨As,hs,ha⟩:=zr4 h3 g2 (fun j t' v' e1 e2=>hok (j+1) t' v' (by simpa using e1) (by simpa using e2)) hw.2;exact⟨.val G.T x::As,⟨⟨x,rfl,hk⟩,hs⟩,hx,ha⟩
end
end Go.Ab
namespace Go.Ab
open Go.RowKit
theorem zis {H:Type} {enc:TypeId×Value→H} {P:Program} (hl:laidOutB P=true) {W W':World} (hb:Below W.heap.size W W'):∀{ts:List TypeId} {vs:List Value} {ds:List (DataW H)} {ps:List MemPlace},
    (∀t∈ts,P.readableRec t=true∧t<P.types.size)→DataW.TrodAll enc P W 0 (fun _=>true) true ts vs ds ps→(∀x∈ps,x.block<W.heap.size)→DataW.TrodAll enc P W' 0 (fun b=>decide (b<W.heap.size)) true ts vs ds ps
  | [],[],[],ps,_,h,_=>h
  | [],[],_::_,_,_,h,_=>h.elim
  | [],_::_,_,_,_,h,_=>h.elim
  | _::_,[],_,_,_,h,_=>h.elim
  | _::_,_::_,[],_,_,h,_=>h.elim
  | t::ts,v::vs,d::ds,ps,hr,⟨p,q,h1,h2,e⟩,hlt=>by
    subst e;exact⟨p,q,RowKit.Below.trod hl (hr t yx).1 (hr t yx).2 h1 hb.toBelow (fun x hx=>hlt x (List.mem_append_left _ hx)),zis hl hb (fun t ht=>hr t (by simp[ht])) h2 (fun x hx=>hlt x (List.mem_append_right _ hx)),rfl⟩
theorem zk6 {H:Type} {enc:TypeId×Value→H} {P:Program} {w:World} {base:Nat} {spare:Nat→Bool} {held:Bool}:∀{ts:List TypeId} {vs:List Value} {ds:List (DataW H)} {ps:List MemPlace},DataW.TrodAll enc P w base spare held ts vs ds ps→ds.length=ts.length
  | [],[],[],_,_=>rfl
  | [],[],_::_,_,h=>h.elim
  | [],_::_,_,_,h=>h.elim
  | _::_,[],_,_,h=>h.elim
  | _::_,_::_,[],_,h=>h.elim
  | _::_,_::_,_::_,_,⟨_,_,_,h2,_⟩=>by simp[zk6 h2]
theorem zlG {H:Type} {enc:TypeId×Value→H} {P:Program} {w:World} {base:Nat} {spare:Nat→Bool} {held:Bool} {us:List TypeId} {es:List (DataW H)}:∀{ts:List TypeId} {vs:List Value} {ds:List (DataW H)} {ps:List MemPlace},DataW.TrodAll enc P w base spare held ts vs ds ps→(DataW.weightsEach P (ts++us) (ds++es)).all (·≤reachBytes)=true→(DataW.weightsEach P ts ds).all (·≤reachBytes)=true
  | [],[],[],_,_,_=>by unfold DataW.weightsEach;rfl
  | [],[],_::_,_,h,_=>h.elim
  | [],_::_,_,_,h,_=>h.elim
  | _::_,[],_,_,h,_=>h.elim
  | _::_,_::_,[],_,h,_=>h.elim
  | _::_,_::_,_::_,_,⟨_,_,_,h2,_⟩,h=>by
    rw[List.cons_append,List.cons_append] at h;unfold DataW.weightsEach at h ⊢;rw[List.all_append,uk] at h ⊢;exact⟨h.1,zlG h2 h.2⟩
theorem law_handed {C:Checked} {os:Os} {H:Type} {enc:TypeId×Value→H} {f:FuncId} {fn:Func} {s:ChangeSpec} {conds:List PathCond} {Gs:List GT} {rt:TypeId}
    (own:ownKnob C.prog.godebug=none) (started:os.Started) (noInit:C.prog.inits.idxOf? f=none) (hfn:C.prog.funcs[f]?=some fn)
    (witness:∃(w:World) (tape:Tape) (i:Input),w.os=os∧(w.forCall tape i).Shaped C.prog∧i.vars=[]∧Input.okWide C.prog (w.forCall tape i) .any w.heap.size f i∧
      s.pre6 enc C.prog fn conds false (w.forCall tape i).memory i.args∧({}:Assume).holds C.prog (lone (Frame.enter C.prog f i.args .normal) [] (w.forCall tape i)))
    (hvars:s.vars=[]) (hl:laidOutB C.prog=true) (hr:∀t∈fn.params.toList,C.prog.readableRec t=true∧t<C.prog.types.size) (hO:zkW C.prog fn.params.toList Gs)
    (hres:fn.resultTypes = #[rt]) (hrt:C.prog.underlying rt=some .bool) (hspec:∀ds:List (DataW H),ds.length=fn.params.toList.length→s.fn H ds = { results:=[.lit (.bool true)],args:=ds })
    (hlaw:∀As,Shape Gs As→Tells C.prog f As (.val zu true)) :
    ReturnsInHanded {} C os f .any (s.pre6 enc C.prog fn conds false) (s.post enc C.prog fn false true false false):=by
  refine returnsInHanded_of_calls own started noInit witness ?_;intro w0 tape i _ _ _ hok hpre hholds;obtain⟨_,_,_,fn',hfn',_,_,_,_,hval⟩:=hok;have e:fn'=fn:=Option.some.inj (hfn'.symm.trans hfn);subst e;obtain⟨⟨ds,gs,before,hw,hc⟩,hz⟩:=hpre;have hwt:=hz.weights hw;have hw':=DataW.Whole.of_heap (w':=w0.forCall tape i) (by rfl) hw
  suffices main : ∀ (W : World) (base : Nat) (args : Array Value) (ds gs : List (DataW H)) (before : List MemPlace),
      (∀(j:Nat) t v,fn'.params[j]?=some t→args[j]?=some v→Value.okWide C.prog W .any base t v)→
      DataW.Whole enc C.prog fn'.params.toList s.vars false W args.toList ds gs before→(DataW.weightsEach C.prog (fn'.params.toList++s.plain.varTypes C.prog) (ds++gs)).all (·≤reachBytes)=true→
      Calls C.prog f args W fun e W'=>∃v,e = .returned v∧s.post enc C.prog fn' false true false false W args v W' by
    refine(main (w0.forCall tape i) w0.heap.size i.args ds gs before hval hw' hwt).mono fun e W' ⟨v,he,hp⟩=>?_
    subst he;exact ChangeSpec.post_blind hp
  clear hwt hw' hc hw hval hholds;intro W base args ds gs before hval hW hwt;have hW':=hW;obtain⟨p,q,hA,hV,rfl,hfz,hnd⟩:=hW;obtain⟨rfl,rfl⟩:gs=[]∧q=[]:=by
    rw[hvars] at hV
    match gs,hV with
    | [],hV=>exact⟨rfl,hV⟩
  obtain⟨As,hS,hrel⟩:=zr4 hO hA (fun j t v e1 e2=>hval j t v (by simpa using e1) (by simpa using e2)) (zlG hA hwt);have hc:=hlaw As hS noN W args.toList (fun b h=>h.elim) hrel;have hlen:=zk6 hA;have hsp:=hspec ds hlen;rw[show args.toList.toArray=args by simp] at hc;refine hc.mono fun e w' he=>?_
  cases e with
  | returned v =>
    obtain⟨hb,hv⟩:=he;obtain rfl:v = .bool true:=zck.1 hv;have hlt:∀x∈p,x.block<W.heap.size:=fun x hx=>hW'.lt x (List.mem_append_left _ hx)
    refine⟨_,rfl,ds,[],p++[],[],p,[],hW',?_,?_,?_,?_,fun h=>by cases h⟩
    · rw[List.append_nil,hsp,hres]
      exact⟨[],[],shut_bool hrt true,rfl,rfl⟩
    · rw[List.append_nil,hsp]
      exact zis hl hb hr hA hlt
    · rw[List.append_nil,hsp,hvars];rfl
    exact hb.toBelow.frame _
  | panicked c=>exact he.elim
  | outgrown=>exact he.elim
end Go.Ab
namespace Go.Ab
open Go.RowKit
def nilT:GoT Unit:=scT (fun _=>.slice none 0 0) (fun _=>True) (fun _=>rfl)
theorem zero_nil:Zero nilT () [.slice none 0 0]:=fun _ _ _=>⟨rfl,trivial⟩
section
variable {J:Job} {nx:Nat} {fr:Fr} {hp:Hp} {k:List It} {α β γ:Type} {A:GoT α} {T:GoT β} {R:GoT γ}
theorem SimR.nilpart {ρ:Nat→Value} {a:Act} {w:World} (s:SimR J nx ρ fr hp a w) (e:Nat) (T:GoT β) {n:Nat} {y:HE} {xs:List AV} {ty:Nat} (hn:hp n=y) (hy:y.live) (hu:∀x∈xs,x.under nx)
    (hrel:∀{ρ':Nat→Value} {B U N:Nat→Prop} {p:Value},ρ' nx = .slice none 0 0→y.rel ρ' B U N w p→HE.rel ρ' B U N w (.parts ty (xs++[.own nx])) p) :
    SimR J (nx+1) (ren ρ nx (.slice none 0 0)) fr ((hp.set nx (.row e T [])).set n (.parts ty (xs++[.own nx]))) a w:=by
  have hne:n≠nx:=fun e=>by
    have:=s.hnx n ya
    rw[hn] at this;rw[this] at hy;exact hy
  have s2:=s.bind (p:=.slice none 0 0) (x:=.row e T []) (Below.refl _ _) (fun b hb=>by cases hb) fun kp=>⟨[],World.ownsRow_nil w 0 e T.size,rfl⟩
  have hn2:(hp.set nx (.row e T [])) n=y:=by rw[zj,ur hne];exact hn
  have h0:=s2.hrel n;rw[hn2] at h0;have hrn:(ren ρ nx (Value.slice none 0 0)) nx = .slice none 0 0:=by unfold ren;simp
  refine s2.modify hn2 hy trivial rfl rfl rfl rfl (fun _ _=>rfl) (fun kp=>?_) (ug _) (fun x hx=>?_)
  · have h1:=hrel (B:=J.B) hrn h0
    refine HE.rel_mono (nx:=nx+1) kp (fun x hx=>?_) (fun _ _ _=>rfl) h1;rcases List.mem_append.1 hx with hx|hx
    · exact AV.under_mono (Nat.le_succ nx) (hu x hx)
    rw[List.mem_singleton.1 hx];exact Nat.lt_succ_self nx
  rcases List.mem_append.1 hx with hx|hx
  · exact AV.under_mono (Nat.le_succ nx) (hu x hx)
  rw[List.mem_singleton.1 hx];exact Nat.lt_succ_self nx
theorem zhC {ops:Array Oper} {rest:List Oper} {o oj:Oper} {j t:Nat} {want c:Bool} (hg:o.guard=some (j,want)) (hj:ops[j]?=some oj) (hd:oj.dst=some t) (hv:fr t = .val zu c) (hc:c=want) (hlt:Nat.blt t J.nt=true)
    (H:AW J nx fr hp (.ops ops ({ o with guard:=none }::rest)::k)):AW J nx fr hp (.ops ops (o::rest)::k):=fun a w ⟨ρ,s⟩=>by
  have h:=H a w ⟨ρ,s⟩;have hw:Region.wanted o (yielded ops a.tmps)=true:=by
    refine zdi s (b:=true) ?_ (fun c' j' t' oj' e h1 h2=>?_)
    · unfold zcZ
      rw[hg];exact⟨oj,t,hj,hd,.inl ⟨c,hv,by rw[hc];simp⟩⟩
    rw[hg] at e;injection e with e;injection e with e1 e2;subst e1;rw[hj] at h1;injection h1 with h1;subst h1;rw[hd] at h2;injection h2 with h2;subst h2;simpa using hlt
  show wpListIn J.F 0 J.P ops (Kont J k) (o::rest) a w;have h:wpListIn J.F 0 J.P ops (Kont J k) ({ o with guard:=none }::rest) a w:=h;unfold wpListIn at h ⊢;rw[ut hw];rw[ut (by simp[Region.wanted])] at h;exact h
end
end Go.Ab
namespace Go.Ab
open Go.RowKit
def setL:Nat→List Int→List MapEntry
  | _,[]=>[]
  | n,k::ks=>{ key:=.int .i64 k,val:=.agg #[],born:=n }::setL (n+1) ks
def setO (ks:List Int):Obj:=.map (setL 0 ks).toArray ks.length
section
variable {J:Job} {nx:Nat} {ρ:Nat→Value} {fr:Fr} {hp:Hp} {a:Act} {w w':World} {k:List It} {ops:Array Oper} {rest:List Oper} {o:Oper}
theorem aw_mkmap {t d:Nat} (ho:o.op = .makeMap t none) (hd:o.dst=some d) (hg:o.guard=none) (hlt:Nat.blt d J.nt=true)
    (H:∀b,AW J (nx+1) (fr.set d (.lit (.map (some b)))) (hp.set nx (.objAt b (setO []))) (.ops ops rest::k)):AW J nx fr hp (.ops ops (o::rest)::k):=by
  intro a w ⟨ρ,s⟩;refine zZ hg yv fun K hK=>?_
  have hrun:(execOp a.eval o).run J.P w = .ok (.value (.map (some w.heap.size))) (w.alloc (.map #[] 0)):=by
    unfold execOp;rw[ho];simp[Instr.makeMap,Sem.run_bind,newObj,Sem.run]
  unfold Oper.wp;rw[hrun,Oper.upon_value,hd]
  exact hK _ _ (H w.heap.size _ _ ⟨_,(s.bind (p:=.pointer (some ⟨w.heap.size,0,none⟩)) (x:=.objAt w.heap.size (setO [])) (zb5 _ _) (fun b e=>by simp only[zaN,Option.some.injEq] at e;subst e;exact⟨ug _,by simp⟩)
    (fun _=>⟨rfl,heap_alloc_new w _⟩) trivial).put yL rfl trivial⟩)
theorem zoM (n:Nat) {b:Nat} {x:Obj} (y:Obj) (h:hp n = .objAt b x) (e:x=y) (H:AW J nx fr (hp.set n (.objAt b y)) k):AW J nx fr hp k:=by
  have:hp.set n (.objAt b y)=hp:=by
    subst e
    funext t
    rw[zj];by_cases c:t=n
    · rw[ut c,c,h]
    rw[ur c]
  rwa [this] at H
theorem zdK {C:CallC} {fni:Func} (hres:fni.results = #[]) (H:AW C.J nx (C.fr.set C.d (.lit (.tuple #[]))) hp C.k):AW (C.job fni) nx fr hp [] :=
  fun _ _ ⟨ρ,s⟩=>zei s.defers (results_none hres _ _ _) (H _ _ ⟨ρ,(zjo s).put C.ok.hlt rfl trivial⟩)
end
end Go.Ab
namespace Go.Ab
open Go.RowKit
theorem zh5 {ρ:Nat→Value} {B U N:Nat→Prop} {w:World}:∀{xs ys:List AV} {vs us:List Value},AV.relL ρ B U N w xs vs→AV.relL ρ B U N w ys us→AV.relL ρ B U N w (xs++ys) (vs++us)
  | [],_,_,_,h,h'=>by
    have h:_=[]:=h;subst h;exact h'
  | x::xs,_,_,_,⟨v,us',e,h1,h2,h3,h4⟩,h'=>by subst e;exact⟨v,_,rfl,h1,h2,h3,zh5 h4 h'⟩
theorem zjx {ρ:Nat→Value} {B U N:Nat→Prop} {w:World}:∀{xs ys:List AV} {vs:List Value},AV.relL ρ B U N w (xs++ys) vs→∃v1 v2,vs=v1++v2∧AV.relL ρ B U N w xs v1∧AV.relL ρ B U N w ys v2
  | [],_,vs,h=>⟨[],vs,rfl,rfl,h⟩
  | x::xs,_,_,⟨v,us,e,h1,h2,h3,h4⟩=>by
    obtain⟨v1,v2,rfl,h5,h6⟩:=zjx h4;subst e;exact⟨v::v1,v2,rfl,⟨v,v1,rfl,h1,h2,h3,h5⟩,h6⟩
def zgC {α:Type} (T:GoT α) (x:α) (xs:List AV):Prop:=(∀y∈xs,y.under 0)∧∀{ρ:Nat→Value} {B U N:Nat→Prop} {w:World} {cs:List Value},T.rel U N w x cs→∃vs,cs=flatV vs∧AV.relL ρ B U N w xs vs
section
variable {α β γ:Type} {A:GoT α} {B:GoT β} {T:GoT β} {R:GoT γ}
theorem zgK {x:α}:zgC A x [.val A x]:=by
  refine⟨fun y hy=>by rw[List.mem_singleton.1 hy];trivial,fun {ρ B U N w cs} h=>?_⟩;cases hA:A.agg with
  | true =>
    have e:(Value.agg cs.toArray).cells=cs.toArray:=rfl;refine⟨[.agg cs.toArray],by simp[e],.agg cs.toArray,[],rfl,⟨cs,h,.inl ⟨hA,rfl⟩⟩,?_,fun u hu=>A.one h u (by simpa [e] using hu),rfl⟩;show cs.toArray.size=A.size;rw[List.size_toArray,A.len h]
  | false =>
    have hl:=A.len h;rw[A.sc hA] at hl;obtain⟨v,rfl⟩:∃v,cs=[v]:=by
      match cs,hl with
      | [v],_=>exact⟨v,rfl⟩
    have hv1:=A.one h v yx;have hvc:v.cells.toList=[v]:=zha hv1 (by
      have:v.cells = #[v]:=ybK
      rw[this];rfl)
    refine⟨[v],by simp[hvc],v,[],rfl,⟨[v],h,.inr ⟨hA,rfl⟩⟩,?_,fun u hu=>?_,rfl⟩
    · show v.cells.size=A.size
      rw[A.sc hA,←Array.length_toList,hvc];rfl
    rw[hvc] at hu;simp at hu;rw[hu];exact hv1
theorem zjm {x:α} {y:β} {xs ys:List AV} (h1:zgC A x xs) (h2:zgC B y ys):zgC (zdk A B) (x,y) (xs++ys):=by
  refine⟨fun z hz=>(List.mem_append.1 hz).elim (h1.1 z) (h2.1 z),fun {ρ B' U N w cs} h=>?_⟩;obtain⟨c1,c2,rfl,k1,k2⟩:=h;obtain⟨v1,rfl,r1⟩:=h1.2 (ρ:=ρ) (B:=B') k1;obtain⟨v2,rfl,r2⟩:=h2.2 (ρ:=ρ) (B:=B') k2;exact⟨v1++v2,by simp[flatV],zh5 r1 r2⟩
theorem zpe {g:γ→α} {z:γ} {xs:List AV} (h:zgC A (g z) xs):zgC (viaT A g) z xs:=⟨h.1,fun k=>h.2 k⟩
end
section
variable {J:Job} {nx:Nat} {fr:Fr} {hp:Hp} {k:List It} {α β γ:Type} {A:GoT α} {T:GoT β} {R:GoT γ}
theorem zqm (n:Nat) {ty:Nat} {x:α} {xs:List AV} (hs:zgC A x xs) (hn:hp n = .box ty A x) (H:AW J nx fr (hp.set n (.parts ty xs)) k):AW J nx fr hp k:=fun a w ⟨ρ,s⟩=>by
  have h0:=s.hrel n;rw[hn] at h0;obtain⟨g,cs,e1,e2,h⟩:=h0;refine H a w ⟨ρ,s.modify hn trivial trivial rfl rfl rfl rfl (fun _ _=>rfl) (fun kp=>?_) (ug _) (fun x hx=>AV.under_mono (uf _) (hs.1 x hx))⟩;obtain⟨vs,rfl,hr⟩:=hs.2 (ρ:=ρ) (B:=J.B) (A.mono kp h);exact⟨g,vs,e1,e2,hr⟩
end
end Go.Ab
namespace Go.Ab
open Go.RowKit
def catL:List AV→AV
  | []=>.idk
  | [x]=>x
  | x::y::r=>.cat x (catL (y::r))
def sumC (xs:List AV):Nat:=(xs.map AV.cells).sum
def AV.pcs:AV→List AV
  | .cat a b=>a::b.pcs
  | x=>[x]
theorem pcs_ne:∀x:AV,x.pcs≠[]
  | .cat ..=>by simp[AV.pcs]
  | .idk | .lit _ | .val .. | .ptr .. | .eptr .. | .rptr .. | .own _ | .fresh .. | .clo .. | .bnd .. | .vw .. | .osub .. | .fn1 .. | .fn2 .. | .tup2 .. | .tup3 .. | .ifc ..=>by simp[AV.pcs]
theorem zsP:∀x:AV,catL x.pcs=x
  | .cat a b=>by
    have ih:=zsP b;show catL (a::b.pcs)=_;cases h:b.pcs with
    | nil=>exact absurd h (pcs_ne b)
    | cons y r=>rw[h] at ih;show AV.cat a (catL (y::r))=_;rw[ih]
  | .idk | .lit _ | .val .. | .ptr .. | .eptr .. | .rptr .. | .own _ | .fresh .. | .clo .. | .bnd .. | .vw .. | .osub .. | .fn1 .. | .fn2 .. | .tup2 .. | .tup3 .. | .ifc ..=>rfl
theorem zhA:∀{xs:List AV},xs≠[]→(catL xs).cells=sumC xs
  | [],h=>absurd rfl h
  | [x],_=>by simp[catL,sumC]
  | x::y::r,_=>by
    show x.cells+(catL (y::r)).cells=_;rw[zhA (xs:=y::r) yx];simp[sumC]
theorem zjO {nx:Nat}:∀{xs:List AV},(∀x∈xs,x.under nx)→(catL xs).under nx
  | [],_=>trivial
  | [x],h=>h x yx
  | x::y::r,h=>⟨h x yx,zjO (xs:=y::r) fun z hz=>h z (List.mem_cons_of_mem _ hz)⟩
theorem zmS {nx:Nat}:∀{xs:List AV},(catL xs).under nx→∀x∈xs,x.under nx
  | [],_,x,hx=>by cases hx
  | [y],h,x,hx=>by rw[List.mem_singleton.1 hx];exact h
  | y::z::r,h,x,hx=>by
    rcases List.mem_cons.1 hx with e|hx
    · rw[e];exact h.1
    exact zmS (xs:=z::r) h.2 x hx
section
variable {ρ:Nat→Value} {B U N:Nat→Prop} {w:World}
theorem zqx (cs:List Value):(Value.agg cs.toArray).cells=cs.toArray:=rfl
theorem cat_of:∀{xs:List AV} {vs:List Value},xs≠[]→AV.relL ρ B U N w xs vs→∃v,(catL xs).rel ρ B U N w v∧v.cells=(flatV vs).toArray∧(2≤xs.length→v = .agg (flatV vs).toArray)∧v.cells.size=sumC xs∧∀u∈v.cells.toList,u.oneCell'=true
  | [],_,h,_=>absurd rfl h
  | [x],_,_,⟨v,us,e,h1,h2,h3,h4⟩=>by
    have h4:us=[]:=h4;subst h4;subst e;exact⟨v,h1,by simp[flatV],fun h=>by simp at h,by simpa [sumC] using h2,h3⟩
  | x::y::r,_,_,⟨v,us,e,h1,h2,h3,h4⟩=>by
    obtain⟨u,g1,g2,_,g4,g5⟩:=cat_of (xs:=y::r) yx h4;subst e;have hc:(flatV (v::us)).toArray=v.cells++u.cells:=by
      rw[g2];apply Array.ext';simp[flatV]
    refine⟨.agg (flatV (v::us)).toArray,⟨v,u,by rw[hc],h1,g1,⟨h2,by rw[g4,zhA yx]⟩,h3,g5⟩,rfl,fun _=>rfl,?_,fun z hz=>?_⟩
    · rw[zqx,hc,Array.size_append,h2,g4];simp[sumC]
    rw[zqx,hc,Array.toList_append] at hz;rcases List.mem_append.1 hz with hz|hz
    · exact h3 z hz
    exact g5 z hz
theorem zqh:∀{xs:List AV} {v:Value},xs≠[]→(catL xs).rel ρ B U N w v→v.cells.size=sumC xs→(∀u∈v.cells.toList,u.oneCell'=true)→∃vs,v.cells.toList=flatV vs∧AV.relL ρ B U N w xs vs
  | [],_,h,_,_,_=>absurd rfl h
  | [x],v,_,h,hs,h1=>⟨[v],by simp[flatV],v,[],rfl,h,by simpa [sumC] using hs,h1,rfl⟩
  | x::y::r,v,_,⟨a,b,e,h1,h2,⟨h3,h4⟩,h5,h6⟩,_,_=>by
    obtain⟨vs,g1,g2⟩:=zqh (xs:=y::r) yx h2 (by rw[h4,zhA yx]) h6;refine⟨a::vs,?_,a,vs,rfl,h1,h3,h5,g2⟩;rw[e];show(a.cells++b.cells).toList=_;rw[Array.toList_append,g1];simp[flatV]
theorem cat_two {xs:List AV} {v:Value} (h2:Nat.ble 2 xs.length=true) (h:(catL xs).rel ρ B U N w v):v.cells.size=sumC xs∧(∀u∈v.cells.toList,u.oneCell'=true)∧∃vs,v.cells.toList=flatV vs∧AV.relL ρ B U N w xs vs:=by
  match xs,h2,h with
  | x::y::r,_,h =>
    have h':=h;obtain⟨a,b,e,h1,h2,⟨h3,h4⟩,h5,h6⟩:=h';have hs:v.cells.size=sumC (x::y::r):=by
      rw[e];show(a.cells++b.cells).size=_;rw[Array.size_append,h3,h4,zhA yx];simp[sumC]
    have ho:∀u∈v.cells.toList,u.oneCell'=true:=fun u hu=>by
      rw[e] at hu;have hu:u∈(a.cells++b.cells).toList:=hu;rw[Array.toList_append] at hu;rcases List.mem_append.1 hu with hu|hu
      · exact h5 u hu
      exact h6 u hu
    exact⟨hs,ho,zqh yx h hs ho⟩
end
section
variable {J:Job} {nx:Nat} {ρ:Nat→Value} {fr:Fr} {hp:Hp} {a:Act} {w:World} {k:List It} {ops:Array Oper} {rest:List Oper} {o:Oper} {α β γ:Type} {A:GoT α} {T:GoT β} {R:GoT γ}
theorem zr0 (s:SimH J nx ρ hp w) {n ty:Nat} {xs:List AV} {v:Value} (hn:hp n = .parts ty xs) (hv:(AV.ptr n 0).rel ρ J.B (Uu J ρ hp) (Nn ρ hp) w v) :
    ∃g vs,ρ n = .pointer (some ⟨g,0,none⟩)∧v = .pointer (some ⟨g,0,none⟩)∧w.heap[g]?=some (.cells (flatV vs).toArray ty (0,0))∧AV.relL ρ J.B (Uu J ρ hp) (Nn ρ hp) w xs vs∧∀(j:Nat) z,(flatV vs)[j]?=some z→w.cell? ((⟨g,0,none⟩:Addr).add j)=some z:=by
  obtain⟨g,e1,e2⟩:=hv;have hh:=s.hrel n;rw[hn] at hh;obtain⟨g',vs,e3,hg,hr⟩:=hh;obtain rfl:g=g':=ybL;refine⟨g,vs,e1,by rw[e2,add_zero],hg,hr,fun j z hz=>?_⟩;rw[zfB,cell_of_row w g _ _ ty (0,0) hg];simpa using hz
theorem zhO {P:Program} {t:TypeId} {ad:Addr} {cs:List Value} (ht:tyB P t cs.length true=true) (h:∀j z,cs[j]?=some z→w.cell? (ad.add j)=some z):(loadVar t ad).run P w = .ok (.agg cs.toArray) w:=by
  obtain⟨_,h1,h2⟩:=zeE ht w;have hl:=run_loadCells_list (P:=P) w ad cs h;simp[loadVar,Sem.run_bind,h1,h2,hl]
theorem zgr {ρ:Nat→Value} {B U N:Nat→Prop}:∀{xs:List AV} {vs:List Value},AV.relL ρ B U N w xs vs→(flatV vs).length=sumC xs
  | [],_,h=>by
    have h:_=[]:=h;subst h;rfl
  | x::xs,_,⟨v,us,e,h1,h2,h3,h4⟩=>by
    subst e
    have:=zgr h4
    simp only[flatV,List.flatMap_cons,ue,Array.length_toList,sumC,List.map_cons,List.sum_cons] at this ⊢;omega
theorem g_loadcat {t n ty:Nat} {x:Operand} {xs:List AV} (ho:o.op = .load t x) (hx:fr.ev x = .ptr n 0) (hn:hp n = .parts ty xs) (h2:Nat.ble 2 xs.length=true) (ht:tyB J.P t (sumC xs) true=true):OpG J o fr hp (catL xs):=by
  refine .of_run (fun {_ ρ a w} s hr _=>?_) (fun {nx} hb _=>?_)
  · have h:=hr x yk
    rw[hx] at h;obtain⟨g,vs,e1,e2,hg,hrel,hc⟩:=zr0 s hn h;have hne:xs≠[]:=fun e=>by rw[e] at h2;cases h2
    obtain⟨v,g1,g2,g3,g4,g5⟩:=cat_of hne hrel;have g3:=g3 (Nat.le_of_ble_eq_true h2);refine⟨v,?_,g1⟩;rw[g3];unfold execOp;rw[ho];simp[Instr.loadAt,Instr.sureAddr,Sem.run_bind,e2,zhO (P:=J.P) (by rw[zgr hrel];exact ht) hc]
  have:=(hb n).2
  rw[hn] at this;exact zjO this
theorem aw_backcat {C:CallC} {fni:Func} {t ty n tb:Nat} {xs:List AV} (hres:fni.results = #[.cell t ty]) (ht:fr t = .ptr n 0) (hn:hp n = .parts tb xs) (h2:Nat.ble 2 xs.length=true) (hty:tyB C.J.P ty (sumC xs) true=true)
    (H:AW C.J nx (C.fr.set C.d (catL xs)) hp C.k):AW (C.job fni) nx fr hp (.code .ret::k) :=
  zcb fun a w ⟨ρ,s⟩=>by
    have h1:=s.frel t;rw[ht] at h1;obtain⟨g,vs,e1,e2,hg,hrel,hc⟩:=zr0 s.toSimH hn h1;have hne:xs≠[]:=fun e=>by rw[e] at h2;cases h2
    obtain⟨v,g1,g2,g3,g4,g5⟩:=cat_of hne hrel;have g3:=g3 (Nat.le_of_ble_eq_true h2);have hl:=zhO (P:=C.J.P) (t:=ty) (by rw[zgr hrel];exact hty) hc;have hrun:(results fni a.tmps).run C.J.P w = .ok v w:=by
      rw[results,hres];have hv':a.tmps[t]?.getD undef=_:=(Array.getD_eq_getD_getElem? ..).symm.trans e2;simp[hv',asAddr,Sem.run_bind,hl,g3]
    have hu:(catL xs).under nx:=zjO (by have:=s.hun n;rw[hn] at this;exact this);exact zei s.defers hrun (H _ _ ⟨ρ,(zjo s).put C.ok.hlt g1 hu⟩)
theorem zmr {t ty n:Nat} {x y:Operand} {X:AV} {c:α} (ho:o.op = .store t x y) (hd:o.dst=none) (hg:o.guard=none) (hx:fr.ev x = .ptr n 0) (hn:hp n = .box ty A c) (hy:fr.ev y=X)
    (h2:Nat.ble 2 X.pcs.length=true) (hs:Nat.beq A.size (sumC X.pcs)=true) (ht:tyB J.P t (sumC X.pcs) true=true) (H:AW J nx fr (hp.set n (.parts ty X.pcs)) (.ops ops rest::k)):AW J nx fr hp (.ops ops (o::rest)::k):=by
  generalize hxs:X.pcs=xs at *;have hy:fr.ev y=catL xs:=by rw[hy,←hxs,zsP]
  intro a w ⟨ρ,s⟩;refine zZ hg yv fun K hK=>?_
  have h:=zas s x;have h':=zas s y;have hu:=zca s.fnx y;rw[hx] at h;rw[hy] at h' hu;have hux:=zmS hu;obtain⟨g1,g2,vs,g3,g4⟩:=cat_two h2 h';obtain⟨g,e1,e2⟩:=h;have hh:=s.hrel n;rw[hn] at hh;obtain⟨g',cs,e3,hgc,hrel⟩:=hh;obtain rfl:g=g':=ybL;have hcl:cs.length=sumC xs:=(A.len hrel).trans (Nat.eq_of_beq_eq_true hs);have hrun:=zdd (w:=w) (P:=J.P) (off:=0) (v:=a.eval y) ht g1 g2 hgc (by rw[List.size_toArray,hcl];omega);have hnew:cs.toArray.toList.take 0++(a.eval y).cells.toList++cs.toArray.toList.drop (0+sumC xs)=flatV vs:=by
    rw[List.toList_toArray,List.take_zero,List.nil_append,List.drop_of_length_le ya,List.append_nil,g3]
  rw[hnew] at hrun;have hex:(execOp a.eval o).run J.P w = .ok .skip (w.setRow g (flatV vs).toArray):=by
    unfold execOp;rw[ho];simp only[e2,Instr.storeAt,Instr.sureAddr,Sem.run_bind,Sem.run_pure,Result.andThen_ok,hrun]
  unfold Oper.wp;rw[hex,Oper.upon_skip,hd];refine hK _ _ ?_
  exact H _ _ ⟨ρ,s.modify (x:=.parts ty xs) hn trivial trivial yx rfl rfl rfl (fun b hb=>setRow_other w g b _ (fun e=>hb yaz))
    (fun kp=>⟨g,vs,e1,setRow_heap w g _ _ ty (0,0) hgc,AV.relL_mono kp hux g4⟩) (ug _) hux⟩
theorem zbr (n m:Nat) {ty e:Nat} {pre post:List AV} {l:List β} (hn:hp n = .parts ty (pre ++ .own m::post)) (hm:hp m = .row e T l) (hne:Nat.beq n m=false)
    (H:AW J nx fr ((hp.set m .none_).set n (.parts ty (pre ++ .val (sl T) l::post))) k):AW J nx fr hp k:=fun a w ⟨ρ,s⟩=>by
  have hne':n≠m:=fun e=>by subst e;simp at hne
  have hrow:=s.hrel m;rw[hm] at hrow;obtain⟨xs',hown,hall⟩:=hrow;have s':=s.drop m;have hlive:(hp m).live:=by rw[hm];trivial
  have hN:∀b,Nn ρ (hp.set m .none_) b→Nn ρ hp b∧zaN (ρ m)≠some b:=fun b ⟨i,hl,e⟩=>by
    rw[zj] at hl;by_cases c:i=m
    · rw[ut c] at hl;exact hl.elim
    rw[ur c] at hl;exact⟨⟨i,hl,e⟩,fun e'=>c (s.inj i m b hl hlive e e')⟩
  have kp:Keeps (Uu J ρ hp) (Nn ρ hp) w (Uu J ρ (hp.set m .none_)) (Nn ρ (hp.set m .none_)) w:=⟨s.sub,ug _,fun _ _ _=>rfl,fun b _ hu=>hu.imp id (fun h=>(hN b h).1),fun b _ h=>(hN b h).1⟩
  have hval:(sl T).val (Uu J ρ (hp.set m .none_)) (Nn ρ (hp.set m .none_)) w l (ρ m) :=
    zfP (b:=false) hown rfl (hall.mono kp) (fun g hg hu=>by
      rcases hu with hu|hu
      · rcases (s.new m g hlive hg).1 with h1|h1
        · have:=J.lt g hu;omega
        exact J.dj g hu h1
      exact(hN g hu).2 hg)
  have hn2:(hp.set m .none_) n = .parts ty (pre ++ .own m::post):=by rw[zj,ur hne'];exact hn
  have h0:=s'.hrel n;have hun:=s'.hun n;rw[hn2] at h0 hun;obtain⟨g,vs,e1,e2,e3⟩:=h0;obtain⟨v1,v2,rfl,r1,v,us,rfl,hv,hc,hone,r2⟩:=zjx e3;have hv:v=ρ m:=hv;subst hv;have hux:∀y∈pre ++ .val (sl T) l::post,y.under nx:=fun y hy=>by
    rcases List.mem_append.1 hy with hy|hy
    · exact hun y (List.mem_append_left _ hy)
    rcases List.mem_cons.1 hy with e|hy
    · rw[e];trivial
    exact hun y (List.mem_append_right _ (List.mem_cons_of_mem _ hy))
  refine H a w ⟨ρ,s'.modify hn2 trivial trivial rfl rfl rfl rfl (fun _ _=>rfl) (fun kp2=>?_) (ug _) hux⟩;refine⟨g,v1++ρ m::us,e1,e2,AV.relL_mono kp2 hux (zh5 r1 ⟨ρ m,us,rfl,hval,?_,hone,r2⟩)⟩;rw[hc];rfl
def zo0 (R:GoT γ) (z:γ) (xs:List AV):Prop:=∀{ρ:Nat→Value} {B U N:Nat→Prop} {w:World} {vs:List Value},AV.relL ρ B U N w xs vs→R.rel U N w z (flatV vs)
theorem zgX {x:α}:zo0 A x [.val A x]:=fun h=>by
  obtain⟨v,us,rfl,h1,h2,h3,h4⟩:=h;have h4:us=[]:=h4;subst h4;simpa [flatV] using GoT.val_cells h1
theorem zjE {x:α} {y:β} {xs ys:List AV} (h1:zo0 A x xs) (h2:zo0 T y ys):zo0 (zdk A T) (x,y) (xs++ys):=fun h=>by
  obtain⟨v1,v2,rfl,r1,r2⟩:=zjx h;exact⟨flatV v1,flatV v2,by simp[flatV],h1 r1,h2 r2⟩
theorem zpL {g:γ→α} {z:γ} {xs:List AV} (h:zo0 A (g z) xs):zo0 (viaT A g) z xs:=fun k=>h k
theorem zgB (n:Nat) {ty:Nat} {xs:List AV} {z:γ} (hR:zo0 R z xs) (hn:hp n = .parts ty xs) (H:AW J nx fr (hp.set n (.box ty R z)) k):AW J nx fr hp k:=fun a w ⟨ρ,s⟩=>by
  have h0:=s.hrel n;rw[hn] at h0;obtain⟨g,vs,e1,e2,e3⟩:=h0;refine H a w ⟨ρ,s.modify hn trivial trivial rfl rfl rfl rfl (fun _ _=>rfl) (fun kp=>?_)⟩;exact⟨g,flatV vs,e1,e2,R.mono kp (hR e3)⟩
end
end Go.Ab
namespace Go.Ab
open Go.RowKit
theorem hpP {x y:HE} {ty:TypeId} {xs:List AV} (h1:x = .parts ty xs) (h2:y = .parts ty xs):x=y:=h1.trans h2.symm
end Go.Ab
namespace Go.Ab
open Go.RowKit
@[irreducible] def methB (P:Program) (t:TypeId) (name:String) (f:FuncId):Bool :=
  (match P.info? t with
  | some i=>(match i.methods.find? (·.name==name) with
    | some m=>m.path.isEmpty&&(match m.func with|some (g,true)=>Nat.beq g f|_=>false)
    | none=>false)
  | none=>false)&&(match P.underlying t with|some (.pointer _)=>true|_=>false)
section
variable {J:Job} {nx:Nat} {ρ:Nat→Value} {fr:Fr} {hp:Hp} {a:Act} {w w':World} {k:List It} {ops:Array Oper} {rest:List Oper} {o:Oper}
theorem zov {x:Operand} {t:TypeId} {A:AV} (ho:o.op = .makeInterface t x) (hx:fr.ev x=A) (hu:(match J.P.underlying t with|some (.interface _)=>false|some _=>true|none=>false)=true):OpG J o fr hp (.ifc t A):=by
  refine .of_run (fun {_ _ a w} s hr _=>?_) (fun _ hn=>?_)
  · have h:=hr x yk
    rw[hx] at h;refine⟨.iface t (a.eval x),?_,_,rfl,h⟩;unfold execOp;rw[ho];cases hd:J.P.underlying t with
    | none=>simp[hd] at hu
    | some d=>cases d<;>first|(simp[hd] at hu;done)|simp[Instr.makeInterface,run_underlying hd,Sem.run_bind]
  have h:=hn x yk;rw[hx] at h;exact h
theorem zdu {y:Operand} {t:TypeId} {A:AV} (ho:o.op = .move y∨o.op = .assign y) (hx:fr.ev y = .ifc t A):OpG J o fr hp (.ifc t A):=ze6 ho hx
theorem g_assert2 {x:Operand} {xt t:TypeId} {A:AV} (ho:o.op = .typeAssert x xt t true) (hx:fr.ev x = .ifc t A) (hu:(match J.P.underlying t with|some (.interface _)=>false|some _=>true|none=>false)=true):OpG J o fr hp (.tup2 A (.val zu true)):=by
  refine .of_run (fun {_ _ a w} s hr _=>?_) (fun _ hn=>?_)
  · have h:=hr x yk
    rw[hx] at h;obtain⟨y,e,h⟩:=h;refine⟨.tuple #[y,.bool true],?_,y,.bool true,rfl,h,[.bool true],⟨rfl,trivial⟩,.inr ⟨rfl,rfl⟩⟩;unfold execOp;rw[ho];cases hd:J.P.underlying t with
    | none=>simp[hd] at hu
    | some d=>cases d<;>first|(simp[hd] at hu;done)|simp[Instr.typeAssert,run_underlying hd,Sem.run_bind,e]
  have h:=hn x yk;rw[hx] at h;exact⟨h,trivial⟩
theorem g_assert1 {x:Operand} {xt t:TypeId} {A:AV} (ho:o.op = .typeAssert x xt t false) (hx:fr.ev x = .ifc t A) (hu:(match J.P.underlying t with|some (.interface _)=>false|some _=>true|none=>false)=true):OpG J o fr hp A:=by
  refine .of_run (fun {_ _ a w} s hr _=>?_) (fun _ hn=>?_)
  · have h:=hr x yk
    rw[hx] at h;obtain⟨y,e,h⟩:=h;refine⟨y,?_,h⟩;unfold execOp;rw[ho];cases hd:J.P.underlying t with
    | none=>simp[hd] at hu
    | some d=>cases d<;>first|(simp[hd] at hu;done)|simp[Instr.typeAssert,run_underlying hd,Sem.run_bind,e]
  have h:=hn x yk;rw[hx] at h;exact h
theorem run_method {P:Program} {t:TypeId} {p:Value} {name:String} {f:FuncId} (hm:methB P t name f=true) (n:Nat):(method (n+1) t p name).run P w = .ok (f,p) w:=by
  unfold methB at hm;rw[uk] at hm;obtain⟨h1,h2⟩:=hm;cases hi:P.info? t with
  | none=>simp[hi] at h1
  | some i =>
    simp only[hi] at h1;cases hf:i.methods.find? (·.name==name) with
    | none=>simp[hf] at h1
    | some m =>
      simp only[hf,uk] at h1;obtain⟨h3,h4⟩:=h1;have hp:m.path.toList=[]:=by simpa using h3
      cases hg:m.func with
      | none=>simp[hg] at h4
      | some gp =>
        obtain⟨g,b⟩:=gp;cases b with
        | false=>simp[hg] at h4
        | true =>
          have e:g=f:=Nat.eq_of_beq_eq_true (by simpa [hg] using h4);subst e;cases hd:P.underlying t with
          | none=>simp[hd] at h2
          | some d =>
            cases d<;>first
              | (simp[hd] at h2;done)
              | simp[method,typeInfo,Sem.run_bind,hi,hf,hp,follow,hg,receiverAt,run_underlying hd,Place.get]
theorem run_calli {x : Operand} {name : String} {xs : Array Operand} {ts : Array TypeId} {t : TypeId} {f : FuncId} {p : Value} {fn : Func} (ho : o.op = .call { callee := .invoke x name, args := xs, argTypes := ts }) (hx : a.eval x = .iface t p) (hm : methB J.P t name f = true) (hf : J.P.funcs[f]? = some fn) (hb : fn.body.isSome = true) (hnm : (fn.name == "runtime.NumGoroutine") = false) :
    (execOp a.eval o).run J.P w = .ok (.enter f (#[p]++xs.map a.eval)) w:=by
  have hne : fn.name ≠ "runtime.NumGoroutine" := by simpa using hnm
  have hbn:fn.body≠none:=ybM;have hex:(#[Value.iface t p]++xs.map a.eval).extract 1 (#[Value.iface t p]++xs.map a.eval).size=xs.map a.eval:=by
    apply Array.ext';simp only[Array.toList_extract,Array.toList_append,Array.toList_map,Array.size_append,Array.size_map];simp;exact uc yx
  have h0:(#[Value.iface t p]++xs.map a.eval)[0]?=some (Value.iface t p):=by rw[Array.getElem?_append_left yx];rfl
  have hmm:=run_method (w:=w) (p:=p) hm (J.P.types.size+99);have hd:J.P.types.size+Made.depth=J.P.types.size+99+1:=rfl;unfold execOp;rw[ho];simp only[resolve,hx,Sem.run_bind,Sem.run_pure,Result.andThen_ok,invoke];rw[h0];have hmm:(method (J.P.types.size+Made.depth) t p name).run J.P w = .ok (f,p) w:=by rw[hd];exact hmm
  have hz:(xs.map a.eval).extract 0 xs.size=xs.map a.eval:=by
    apply Array.ext';rw[Array.toList_extract];simp;exact uc yx
  simp[callMethod,Sem.run_bind,callFunc,hmm,hf,hne,hbn];rw[hz]
theorem zbe {x : Operand} {name : String} {f : FuncId} {A : AV} {t : TypeId} {fni : Func} {c : Code} {xs : Array Operand} {ts : Array TypeId} {d : Nat} (ho : o.op = .call { callee := .invoke x name, args := xs, argTypes := ts }) (hd : o.dst = some d) (hg : o.guard = none) (hlt : Nat.blt d J.nt = true)
    (hx:fr.ev x = .ifc t A) (hm:methB J.P t name f=true) (hf:J.P.funcs[f]?=some fni) (hfb:fnB J.P f=true) (hb:fni.body=some c) (hn:Nat.ble (xs.size+1) fni.ntmps=true)
    (H:∀(a:Act) (ok:CallOk J nx fr a d),
      AW (CallC.job ⟨J,nx,fr,a,d,.ops ops rest::k,ok⟩ fni) nx (Fr.args 0 (A::xs.toList.map fr.ev) Fr.none) hp [.code c]) :
    AW J nx fr hp (.ops ops (o::rest)::k):=by
  intro a w ⟨ρ,s⟩;have hlt:d<J.nt:=yL;have hn:xs.size+1≤fni.ntmps:=ybP;refine zZ hg yv fun K hK=>?_
  obtain⟨fn',h1,h2,h3⟩:=zcp hfb;have hv:=zas s x;have hux:=zca s.fnx x;rw[hx] at hv hux;obtain⟨p,hv,hpr⟩:=hv;have hv:a.eval x = .iface t p:=hv;have hux:A.under nx:=hux;unfold Oper.wp;rw[run_calli ho hv hm h1 h2 h3,Oper.upon_enter];have H:=H a ⟨s.size,s.defers,hlt,s.fnx,s.ble⟩;generalize hC:CallC.mk J nx fr a d (.ops ops rest::k) ⟨s.size,s.defers,hlt,s.fnx,s.ble⟩=C at H
  have hfr:=zeT (P:=fun _ A v=>A.rel ρ J.B (Uu J ρ hp) (Nn ρ hp) w v∧A.under nx) (fun _ _=>⟨trivial,trivial⟩) (i:=0) (f:=Fr.none) (g:=fun _=>undef)
    (As:=A::xs.toList.map fr.ev) (vs:=p::xs.toList.map a.eval) yx
    (fun j A v e1 e2 _=>by
      cases j with
      | zero =>
        simp only[List.getElem?_cons_zero,Option.some.injEq] at e1 e2;subst e1;subst e2;exact⟨hpr,hux⟩
      | succ j =>
        simp only[List.getElem?_cons_succ,List.getElem?_map,Option.map_eq_some_iff] at e1 e2;obtain⟨n,hn1,rfl⟩:=e1;obtain⟨m,hm1,rfl⟩:=e2;obtain rfl:n=m:=ybV;exact⟨zas s n,zca s.fnx n⟩) (fun t=>⟨trivial,trivial⟩) (fun _ _=>rfl)
  have key:Calls J.P f (p::xs.toList.map a.eval).toArray w C.R:=by
    refine zfw hf hb ?_;have h4:=H { tmps:=(p::xs.toList.map a.eval).toArray++Array.replicate (fni.ntmps-(p::xs.toList.map a.eval).toArray.size) undef,defers:=[] } w ⟨ρ,SimR.job s.toSimH (by subst hC;exact yan) (by subst hC;exact ug _) (by
      have e:(C.job fni).nt=fni.ntmps:=by subst hC;rfl
      rw[e];simp;omega) (by subst hC;rfl) (fun t=>by
        rw[zqw];have h1:=(hfr t).1;rw[ur (Nat.not_lt_zero t),Nat.sub_zero] at h1;exact h1) (fun t=>(hfr t).2) (fun p hp t=>by
        have hp:p∈(fr,a)::J.bg:=by subst hC;exact hp
        rcases List.mem_cons.1 hp with e|hp
        · rw[e];exact s.frel t
        exact s.brel p hp t)⟩
    subst hC;exact h4
  have e:(p::xs.toList.map a.eval).toArray = #[p]++xs.map a.eval:=ybN;rw[e] at key;refine Calls.mono key fun en w' he=>?_
  cases en with
  | returned v =>
    rw[hd];subst hC;exact hK _ _ he
  | panicked c=>subst hC;exact he
  | outgrown=>exact he.elim
end
theorem zim {J:Job} {nx nx':Nat} {fr:Fr} {hp hp':Hp} {x:AV} {ops:Array Oper} {rest:List Oper} {o:Oper} {k:List It} (d:Nat) (h:AW J nx' (fr.set d x) hp' (.ops ops rest::k)→AW J nx fr hp (.ops ops (o::rest)::k)) (H:AW J nx' (fr.set d x) hp' (.ops ops rest::k)):AW J nx fr hp (.ops ops (o::rest)::k):=h H
end Go.Ab
namespace Go.Ab
open Go.RowKit
def keyV (id:Id):Value:=.agg (id.map fun c=>Value.int .u8 c.toNat).toArray
theorem rel_u8s {U N:Nat→Prop} {w:World}:∀{l:List UInt8} {cs:List Value},zaa u8T U N w l cs→cs=l.map fun c=>Value.int .u8 c.toNat
  | [],_,h=>h
  | x::l,_,h=>by
    obtain⟨c1,c2,e,h1,h2⟩:=h;have h1:c1=[Value.int .u8 x.toNat]:=h1.1;rw[e,h1,rel_u8s h2];rfl
theorem id_val {U N:Nat→Prop} {w:World} {id:Id} {v:Value} (h:idT.val U N w id v):v=keyV id∧id.length=32:=by
  obtain⟨cs,⟨hl,hr⟩,h|h⟩:=h
  · refine⟨?_,hl⟩
    rw[h.2,rel_u8s hr];rfl
  exact absurd h.1 yp
theorem zgN {P:Program} {t e:TypeId} {w:World} (h:arrB P t 32 e 1=true) (ht:tyB P e 1 false=true) (hu:P.underlying e=some (.int .u8)) (id:Id) (hl:id.length=32) (b:Bool) (n:Nat):(Instr.checkKey b (n+2) t (keyV id)).run P w = .ok () w:=by
  obtain⟨hu2,hsz⟩:=zcx h w;unfold keyV;rw[Instr.checkKey];simp only[Sem.run_bind,run_underlying hu2,Result.andThen_ok];rw[Std.Legacy.Range.forIn_eq_forIn_range'];simp only[Std.Legacy.Range.size,Nat.sub_zero,Nat.add_sub_cancel,Nat.div_one,←List.range_eq_range']
  have key : ∀ l : List Nat, (∀ i ∈ l, i < 32) → ((forIn l PUnit.unit fun i _ => (do
      let s ←sizeOf e
      let x ←part e (id.map fun c=>Value.int .u8 c.toNat).toArray (i*s)
      Instr.checkKey b (n+1) e x
      pure (ForInStep.yield PUnit.unit):Sem (ForInStep PUnit))):Sem PUnit).run P w = .ok () w:=by
    intro l
    induction l with
    | nil=>intro _;simp
    | cons i l ih =>
      intro hi;have hi0:=hi i (List.mem_cons_self ..);have hp:=zgd (P:=P) (w:=w) (off:=i) (cs:=id.map fun c=>Value.int .u8 c.toNat) ht (fun _=>rfl) yp (by rw[List.length_map];omega);obtain⟨c,hc⟩:∃c,id[i]?=some c:=yq;have hx:((id.map fun c=>Value.int .u8 c.toNat).drop i).take 1=[Value.int .u8 c.toNat]:=by
        rw[←List.map_drop,←List.map_take]
        have:(id.drop i).take 1=[c]:=by
          obtain⟨hlt,hc2⟩:=ul.1 hc;rw[List.drop_eq_getElem_cons hlt,hc2];rfl
        rw[this];rfl
      rw[hx] at hp;have hk:=MapKept.run_checkKey (w:=w) (P:=P) hu (k:=.int .u8 c.toNat) rfl b n;simp only[List.forIn_cons,Sem.run_bind,hsz,Result.andThen_ok,Nat.mul_one,hp,hk,Sem.run_pure,Bool.false_eq_true,if_false,List.headD_cons];exact ih fun j hj=>hi j (List.mem_cons_of_mem _ hj)
  have:=key (List.range 32) (fun i hi=>List.mem_range.1 hi)
  simp at this ⊢;rw[this];rfl
def entL:Nat→List (Id×Int)→List MapEntry
  | _,[]=>[]
  | n,p::l=>{ key:=keyV p.1,val:=.int .i64 p.2,born:=n }::entL (n+1) l
def cntO (l:List (Id×Int)):Obj:=.map (entL 0 l).toArray l.length
def findC (k:Id):List (Id×Int)→Nat→Option (Nat×Int)
  | [],_=>none
  | p::l,i=>if k=p.1 then some (i,p.2) else findC k l (i+1)
theorem zl8:∀(l:List (Id×Int)) (n:Nat),(entL n l).length=l.length
  | [],_=>rfl
  | _::l,n=>by simp[entL,zl8 l]
theorem zl9 (p:Id×Int):∀(l:List (Id×Int)) (n:Nat),entL n (l++[p])=entL n l++[{ key:=keyV p.1,val:=.int .i64 p.2,born:=n+l.length }]
  | [],n=>by simp[entL]
  | x::l,n=>by simp[entL,zl9 p l (n+1)];omega
theorem zoy:∀(l:List (Id×Int)) (n i:Nat),(entL n l)[i]?=l[i]?.map fun p=>{ key:=keyV p.1,val:=.int .i64 p.2,born:=n+i }
  | [],_,_=>by simp[entL]
  | x::l,n,0=>by simp[entL]
  | x::l,n,i+1=>by simp only[entL,List.getElem?_cons_succ,zoy l];congr 1;funext k;congr 1;omega
theorem rel_key {U N:Nat→Prop} {w:World} {id:Id} (h:id.length=32):idT.rel U N w id (id.map fun c=>Value.int .u8 c.toNat):=by
  refine⟨h,?_⟩;clear h
  induction id with
  | nil=>rfl
  | cons c id ih=>exact⟨[Value.int .u8 c.toNat],_,rfl,⟨rfl,trivial⟩,ih⟩
theorem znW {P:Program} {t:TypeId} {w:World} (he:EqOk P t idT 10000) {k:Id} (hk:k.length=32):∀(l:List (Id×Int)) (n i:Nat),(∀p∈l,p.1.length=32)→(Instr.findAsking t (keyV k) (entL n l) i).run P w = .ok ((findC k l i).map fun x=>(x.1,Value.int .i64 x.2)) w
  | [],_,_,_=>rfl
  | p::l,n,i,h=>by
    have hp:=h p (List.mem_cons_self ..);have he1:=he w (rel_key (U:=fun _=>True) (N:=fun _=>True) (w:=w) hk) (rel_key (U:=fun _=>True) (N:=fun _=>True) (w:=w) hp);have hq:(Op.equal t (keyV k) (keyV p.1)).run P w = .ok (decide (k=p.1)) w:=he1;unfold entL;rw[Instr.findAsking];simp only[Sem.run_bind,hq,Result.andThen_ok];unfold findC;by_cases c:k=p.1
    · rw[ui c,ut c];rfl
    rw[uh c,ur c];exact znW he hk l (n+1) (i+1) fun q hq=>h q (List.mem_cons_of_mem _ hq)
theorem zeS {k:Id}:∀{l:List (Id×Int)} {i:Nat} {j:Nat} {n:Int},findC k l i=some (j,n)→i≤j∧l[j-i]?=some (k,n)
  | [],_,_,_,h=>by cases h
  | p::l,i,j,n,h=>by
    unfold findC at h;by_cases c:k=p.1
    · rw[ut c] at h
      injection h with h;injection h with h1 h2;subst h1;subst h2;exact⟨ug _,by rw[Nat.sub_self,c];rfl⟩
    rw[ur c] at h;obtain⟨h1,h2⟩:=zeS h;refine⟨by omega,?_⟩;rw[show j-i=(j-(i+1))+1 by omega];exact h2
def entC (k:Id) (l:List (Id×Int)):List (Id×Int):=match findC k l 0 with
  | some _=>l
  | none=>l++[(k,0)]
def atC (k:Id) (l:List (Id×Int)):Nat×Int:=(findC k l 0).getD (l.length,0)
section
variable {J:Job} {nx:Nat} {ρ:Nat→Value} {fr:Fr} {hp:Hp} {a:Act} {w w':World} {k:List It} {ops:Array Oper} {rest:List Oper} {o:Oper}
theorem aw_mkmapc {t d:Nat} (ho:o.op = .makeMap t none) (hd:o.dst=some d) (hg:o.guard=none) (hlt:Nat.blt d J.nt=true)
    (H:∀b,AW J (nx+1) (fr.set d (.lit (.map (some b)))) (hp.set nx (.objAt b (cntO []))) (.ops ops rest::k)):AW J nx fr hp (.ops ops (o::rest)::k) :=
  aw_mkmap ho hd hg hlt H
theorem zrx {P:Program} {kt el:TypeId} (ha:arrB P kt 32 el 1=true):(match P.underlying kt with|some (.array _ _)|some (.struct _)=>true|_=>false)=true:=by
  rw[(zcx ha default).1]
theorem zfX {t kt e el n b:Nat} {m x:Operand} {l:List (Id×Int)} {id:Id} (ho:o.op = .lookup t m x false) (hm:fr.ev m = .lit (.map (some b))) (hx:fr.ev x = .val idT id) (hn:hp n = .objAt b (cntO l)) (ht:J.P.underlying t=some (.map kt e))
    (ha:arrB J.P kt 32 el 1=true) (hte:tyB J.P el 1 false=true) (hue:J.P.underlying el=some (.int .u8)) (he:EqTy J.P kt idT) (hz:(J.P.info? e).bind (·.zero)=some (.int .i64 0))
    (hl:∀p∈l,p.1.length=32∧0≤p.2∧p.2≤1000000):OpG J o fr hp (.val i64T (atC id l).2):=by
  refine .of_run (fun {_ _ a w} s hr _=>?_) (fun _ _=>trivial);have em:a.eval m = .map (some b):=by have:=hr m yk;rw[hm] at this;exact this
  have ex:=hr x yk;rw[hx] at ex;obtain⟨ex,hk⟩:=id_val ex;have hh:=s.hrel n;rw[hn] at hh;obtain⟨_,hb⟩:=hh;have hb:w.heap[b]?=some (.map (entL 0 l).toArray l.length):=hb;have hf:=znW (w:=w) he.eq hk l 0 0 (fun p hp=>(hl p hp).1);have hfk:(Instr.findKey kt (keyV id) (entL 0 l).toArray.toList).run J.P w = .ok ((findC id l 0).map fun x=>(x.1,Value.int .i64 x.2)) w:=by
    rw[List.toList_toArray,run_findKey_eq w (zrx ha)];exact hf
  obtain⟨i,h3,h4⟩:=Option.bind_eq_some_iff.1 hz;have hzr:(zeroValue e).run J.P w = .ok (.int .i64 0) w:=by simp[zeroValue,typeInfo,Sem.run_bind,h3,h4]
  refine⟨.int .i64 (atC id l).2,?_,zK.2 ⟨rfl,?_⟩⟩
  · unfold execOp;rw[ho]
    simp only[Instr.lookup,em,ex,Sem.run_bind,run_underlying ht,Result.andThen_ok,MapKept.run_getObj_map hb,zgN ha hte hue id hk _ 9998,Sem.run_pure,hfk];unfold atC;cases hc:findC id l 0 with
    | none=>simp[Sem.run_bind,hzr]
    | some q=>simp[Sem.run_bind]
  unfold atC;cases hc:findC id l 0 with
  | none=>exact zcY.2 (by show -9223372036854775808≤(0:Int)∧(0:Int)≤9223372036854775807;decide)
  | some q =>
    obtain⟨j,v⟩:=q
    have:=hl _ (ud (zeS hc).2)
    exact zcY.2 (by show -9223372036854775808≤v∧v≤9223372036854775807;simp only at this;omega)
theorem zm2:∀(l:List UInt8) (n:Nat),((l.map fun c=>Value.int .u8 c.toNat).zip (l.map fun c=>Value.int .u8 c.toNat)).all (fun (x,y)=>Instr.sameBits n x y)=true
  | [],_=>rfl
  | c::l,n=>by
    simp only[List.map_cons,List.zip_cons_cons,List.all_cons,uk];refine⟨?_,zm2 l n⟩;cases n<;>simp[Instr.sameBits]
theorem same_key (id:Id):Instr.sameBits 10000 (keyV id) (keyV id)=true:=by
  unfold keyV;show Instr.sameBits (9999+1) _ _=true;rw[Instr.sameBits];simp only[List.toList_toArray,beq_self_eq_true,Bool.true_and];exact zm2 id 9999
theorem run_stays {P:Program} {w:World} (id:Id):(Instr.keyThatStays (keyV id) (keyV id)).run P w = .ok (keyV id) w:=by
  simp[Instr.keyThatStays,same_key]
theorem atC_in {id:Id} {l:List (Id×Int)} (hl:∀p∈l,p.1.length=32∧0≤p.2∧p.2≤1000000):0≤(atC id l).2∧(atC id l).2≤1000000∧(atC id l).1≤l.length:=by
  unfold atC;cases hc:findC id l 0 with
  | none=>exact⟨Int.le_refl _,(by show(0:Int)≤1000000;omega),ug _⟩
  | some q =>
    obtain⟨j,v⟩:=q;have h:=(zeS hc).2
    have:=hl _ (ud h)
    have hj:=(ul.1 h).1;exact⟨this.2.1,this.2.2,by show j≤l.length;omega⟩
theorem val_i64 {U N:Nat→Prop} {w:World} {n:Int} (h0:0≤n) (h1:n≤1000000):i64T.val U N w n (.int .i64 n):=zK.2 ⟨rfl,zcY.2 ⟨by omega,by omega⟩⟩
theorem zms {t kt e el n b d:Nat} {m x:Operand} {l:List (Id×Int)} {id:Id} (ho:o.op = .mapEntry t m x) (hd:o.dst=some d) (hg:o.guard=none) (hlt:Nat.blt d J.nt=true) (hm:fr.ev m = .lit (.map (some b))) (hx:fr.ev x = .val idT id) (hn:hp n = .objAt b (cntO l)) (ht:J.P.underlying t=some (.map kt e))
    (ha:arrB J.P kt 32 el 1=true) (hte:tyB J.P el 1 false=true) (hue:J.P.underlying el=some (.int .u8)) (he:EqTy J.P kt idT) (hz:(J.P.info? e).bind (·.zero)=some (.int .i64 0))
    (hl:∀p∈l,p.1.length=32∧0≤p.2∧p.2≤1000000) (hlen:l.length≤1000000)
    (H:AW J nx (fr.set d (.tup2 (.val i64T (atC id l).2) (.val i64T ((atC id l).1:Nat)))) (hp.set n (.objAt b (cntO (entC id l)))) (.ops ops rest::k)):AW J nx fr hp (.ops ops (o::rest)::k):=by
  intro a w ⟨ρ,s⟩;refine zZ hg yv fun K hK=>?_
  have em:a.eval m = .map (some b):=by have:=zas s m;rw[hm] at this;exact this
  have ex:=zas s x;rw[hx] at ex;obtain⟨ex,hk⟩:=id_val ex;have ex:a.eval x=keyV id:=ex;have hb:w.heap[b]?=some (.map (entL 0 l).toArray l.length):=s.getObj hn;have hf:=znW (w:=w) he.eq hk l 0 0 (fun p hp=>(hl p hp).1);have hfk:(Instr.findKey kt (keyV id) (entL 0 l).toArray.toList).run J.P w = .ok ((findC id l 0).map fun x=>(x.1,Value.int .i64 x.2)) w:=by
    rw[List.toList_toArray,run_findKey_eq w (zrx ha)];exact hf
  obtain⟨i,h3,h4⟩:=Option.bind_eq_some_iff.1 hz;have hzr:(zeroValue e).run J.P w = .ok (.int .i64 0) w:=by simp[zeroValue,typeInfo,Sem.run_bind,h3,h4]
  have hrun:(execOp a.eval o).run J.P w = .ok (.value (.tuple #[.int .i64 (atC id l).2,.int .i64 ((atC id l).1:Nat)])) (w.putObj b (cntO (entC id l))):=by
    unfold execOp;rw[ho];simp only[Instr.mapEntry,em,ex,Sem.run_bind,run_underlying ht,Result.andThen_ok,MapKept.run_getObj_map hb,zgN ha hte hue id hk _ 9998,hfk];unfold atC entC;cases hc:findC id l 0 with
    | none =>
      have e2:cntO (l++[(id,0)]) = .map ((entL 0 l).toArray.push { key:=keyV id,val:=.int .i64 0,born:=l.length }) (l.length+1):=by
        unfold cntO;rw[zl9];simp
      simp only[Option.map_none,Sem.run_bind,hzr,Result.andThen_ok,MapKept.run_setObj_map _ hb,Sem.run_pure,goInt,e2];rfl
    | some q =>
      obtain⟨j,v⟩:=q;have hj:=(zeS hc).2;simp only[Nat.sub_zero] at hj;have hej:(entL 0 l)[j]?=some { key:=keyV id,val:=.int .i64 v,born:=j }:=by rw[zoy,hj];simp
      have hea:(entL 0 l).toArray[j]?=some { key:=keyV id,val:=.int .i64 v,born:=j }:=by simpa using hej
      have hmod:((entL 0 l).toArray.modify j fun e=>{ e with key:=keyV id })=(entL 0 l).toArray:=by
        apply Array.ext';rw[Array.toList_modify];apply List.ext_getElem?;intro i;rw[List.getElem?_modify];by_cases c:j=i
        · subst c
          rw[List.toList_toArray,hej];simp
        simp[c]
      simp only[Option.map_some,Sem.run_bind,hea,Option.getD_some,run_stays,Result.andThen_ok,hmod,MapKept.run_setObj_map _ hb,Sem.run_pure,goInt];rfl
  obtain⟨r1,r2,r3⟩:=atC_in (id:=id) hl;unfold Oper.wp;rw[hrun,Oper.upon_value,hd];refine hK _ _ (H _ _ ⟨ρ,((s.putObj hn).2).put yL ⟨_,_,rfl,val_i64 r1 r2,val_i64 ya ya⟩ ⟨trivial,trivial⟩⟩)
def setC (l:List (Id×Int)) (i:Nat) (v:Int):List (Id×Int):=l.modify i fun p=>(p.1,v)
theorem born_at {l:List (Id×Int)} {i:Nat} (hi:i<l.length):(entL 0 l).toArray.findIdx? (fun e=>(e.born:Int)==(i:Int))=some i:=by
  rw[List.findIdx?_toArray,List.findIdx?_eq_some_iff_getElem];have hg:∀j (hj:j<(entL 0 l).length),(entL 0 l)[j].born=j:=fun j hj=>by
    have h:=zoy l 0 j;rw[ub hj] at h;obtain⟨p,_,e⟩:=Option.map_eq_some_iff.1 h.symm;rw[←e];simp
  refine⟨by rw[zl8];exact hi,by rw[hg];simp,fun j hj=>?_⟩;rw[hg];simp;omega
theorem zsI:∀(l:List (Id×Int)) (n i:Nat) (v:Int),(entL n l).modify i (fun e=>{ e with val:=.int .i64 v })=entL n (setC l i v)
  | [],_,i,_=>by cases i<;>rfl
  | p::l,n,0,v=>rfl
  | p::l,n,i+1,v=>by
    show _::(entL (n+1) l).modify i _=_;rw[zsI l (n+1) i v];rfl
theorem zi7 {t n b:Nat} {m s' y:Operand} {l:List (Id×Int)} {i:Nat} {v:Int} (ho:o.op = .entryStore t m s' y) (hd:o.dst=none) (hg:o.guard=none) (hm:fr.ev m = .lit (.map (some b))) (hs:fr.ev s' = .val i64T (i:Int)) (hy:fr.ev y = .val i64T v) (hn:hp n = .objAt b (cntO l)) (hi:i<l.length)
    (H:AW J nx fr (hp.set n (.objAt b (cntO (setC l i v)))) (.ops ops rest::k)):AW J nx fr hp (.ops ops (o::rest)::k):=by
  intro a w ⟨ρ,s⟩;refine zZ hg yv fun K hK=>?_
  have em:a.eval m = .map (some b):=by have:=zas s m;rw[hm] at this;exact this
  have es:a.eval s' = .int .i64 (i:Int):=by have:=zas s s';rw[hs] at this;exact(zK.1 this).1
  have ey:a.eval y = .int .i64 v:=by have:=zas s y;rw[hy] at this;exact(zK.1 this).1
  have hb:w.heap[b]?=some (.map (entL 0 l).toArray l.length):=s.getObj hn;have hrun:(execOp a.eval o).run J.P w = .ok .skip (w.putObj b (cntO (setC l i v))):=by
    unfold execOp;rw[ho];have hset:((entL 0 l).toArray.modify i fun e=>{ e with val:=.int .i64 v })=(entL 0 (setC l i v)).toArray:=by
      apply Array.ext';rw[Array.toList_modify,List.toList_toArray,List.toList_toArray,zsI]
    have hlen:(setC l i v).length=l.length:=by unfold setC;rw[List.length_modify]
    simp only[Instr.entryStore,em,es,ey,Sem.run_bind,Sem.run_pure,Result.andThen_ok,MapKept.run_getObj_map hb,asInt,asIntOf,Sem.run_map,born_at hi,MapKept.run_setObj_map _ hb,hset];unfold cntO;rw[hlen];rfl
  unfold Oper.wp;rw[hrun,Oper.upon_skip,hd];exact hK _ _ (H _ _ ⟨_,(s.putObj hn).2⟩)
end
end Go.Ab
namespace Go.Ab
open Go.RowKit
def nilA:GoT Unit:={ nilT with agg:=true,sc:=fun h=>by cases h }
theorem zero_nilA:Zero nilA () [.slice none 0 0]:=zero_nil
section
variable {J:Job} {nx:Nat} {ρ:Nat→Value} {fr:Fr} {hp:Hp} {a:Act} {w:World} {k:List It} {ops:Array Oper} {rest:List Oper} {o:Oper} {α β:Type} {T:GoT β}
theorem aw_nilboxA (n:Nat) {ty:Nat} (e:Nat) (T:GoT β) (hn:hp n = .box ty nilA ()) (H:AW J (nx+1) fr ((hp.set nx (.row e T [])).set n (.parts ty [.own nx])) k):AW J nx fr hp k:=fun a w ⟨ρ,s⟩=>by
  refine H a w ⟨_,s.nilpart e T (xs:=[]) hn trivial (fun x hx=>by cases hx) fun hr h=>?_⟩;obtain⟨g,cs,e1,e2,e3⟩:=h;obtain⟨e3,_⟩:=e3;subst e3;refine⟨g,[.slice none 0 0],e1,by simpa [Value.cells] using e2,_,[],rfl,hr.symm,rfl,fun u hu=>?_,rfl⟩;simp[Value.cells] at hu;rw[hu];rfl
theorem g_quom {t t':TypeId} {x y:Operand} (ho:o.op = .binOp .quo t x y t') (hx:fr.ev x = .val i64T (-1:Int)) (hy:fr.ev y = .val i64T (2:Int)):OpG J o fr hp (.val i64T (0:Int)) :=
  zdz (Z:=.val i64T _) ho hx hy (fun hu hv=>by
    obtain⟨rfl,_⟩:=zK.1 hu;obtain⟨rfl,_⟩:=zK.1 hv;refine⟨.int .i64 0,?_,zH ..,zK.2 ⟨rfl,by rw[zcY];omega⟩⟩;simp only[binOp,ne_eq,not_true_eq_false,if_false,Op.intDiv,ur (show ¬(2:Int)=0 by omega)];rw[show Int.tdiv (-1) 2=0 from rfl,zaF ya];rfl) (fun _=>trivial)
end
end Go.Ab
set_option maxRecDepth 100000
namespace Go.Proofs.YtgoebfjaaklopaaGreat
open Go.Ab
noncomputable abbrev P:Program:=Go.Proofs.Tryz.prog
theorem ty_3:tyB P 3 1 false=true:=yu
theorem ui_3:P.underlying 3=some (.int .i64):=yu
theorem us_3:(P.underlying 3).isSome=true:=yu
theorem ty_4:tyB P 4 1 false=true:=yu
theorem ze_4:zbf P 4 zu false:=zmN zero_bool yu
theorem ty_5:tyB P 5 1 false=true:=yu
theorem ui_5:P.underlying 5=some (.int .u8):=yu
theorem us_5:(P.underlying 5).isSome=true:=yu
theorem ze_5:zbf P 5 u8T 0:=zmN zero_u8 yu
theorem st_9:P.underlying 9=some .string:=yu
theorem zh0:tyB P 22 1 false=true:=yu
theorem zdC:rowB P 22 37 137 232=true:=yu
theorem zbS:sliceB P 22 37 137=true:=yu
theorem zlM:(match P.underlying 22 with|some (.slice _)=>true|_=>false)=true:=yu
theorem zk5:tyB P 23 1 false=true:=yu
theorem zfm:rowB P 23 3 1 8=true:=yu
theorem zcJ:sliceB P 23 3 1=true:=yu
theorem zkb:(match P.underlying 23 with|some (.slice _)=>true|_=>false)=true:=yu
theorem zbu:tyB P 25 2 true=true:=yu
theorem bd_25:(match P.underlying 25 with|some (.struct fs)=>fs.all fun f=>(P.info? f.type).isSome|_=>false)=true:=yu
theorem zcM:fieldB P 25 0 0 22=true:=yu
theorem zeu:fieldB P 25 1 1 23=true:=yu
theorem zo2:zbf P 25 zar zjX:=zaJ zero_Store yu
theorem zT:tyB P 27 32 true=true:=yu
theorem zc8:arrB P 27 32 5 1=true:=yu
theorem zqB:zbf P 27 idT zId:=zaJ zgJ yu
theorem zaQ:tyB P 28 1 false=true:=yu
theorem zhX:P.underlying 28=some (.int .u64):=yu
theorem us_28:(P.underlying 28).isSome=true:=yu
theorem zV:tyB P 30 4 true=true:=yu
theorem zaO:arrB P 30 4 28 1=true:=yu
theorem zf7:zbf P 30 zL zax:=zaJ ziq yu
theorem zaY:tyB P 31 1 false=true:=yu
theorem ui_31:P.underlying 31=some (.int .u32):=yu
theorem zk3:(P.underlying 31).isSome=true:=yu
theorem za4:tyB P 33 135 true=true:=yu
theorem bd_33:(match P.underlying 33 with|some (.struct fs)=>fs.all fun f=>(P.info? f.type).isSome|_=>false)=true:=yu
theorem zdm:fieldB P 33 0 0 3=true:=yu
theorem zet:fieldB P 33 1 1 27=true:=yu
theorem zes:fieldB P 33 2 33 27=true:=yu
theorem zfH:fieldB P 33 3 65 27=true:=yu
theorem zfG:fieldB P 33 4 97 27=true:=yu
theorem zfF:fieldB P 33 5 129 30=true:=yu
theorem zcf:fieldB P 33 6 133 31=true:=yu
theorem zfE:fieldB P 33 7 134 28=true:=yu
theorem ze_33:zbf P 33 zbU zHead:=zaJ zkY yu
theorem zf8:tyB P 34 1 false=true:=yu
theorem zey:rowB P 34 27 32 32=true:=yu
theorem zdR:sliceB P 34 27 32=true:=yu
theorem zdO:(match P.underlying 34 with|some (.slice _)=>true|_=>false)=true:=yu
theorem zhZ:tyB P 35 1 false=true:=yu
theorem zrP:rowB P 35 112 2 48=true:=yu
theorem zhI:sliceB P 35 112 2=true:=yu
theorem zsk:(match P.underlying 35 with|some (.slice _)=>true|_=>false)=true:=yu
theorem zbg:tyB P 37 137 true=true:=yu
theorem bd_37:(match P.underlying 37 with|some (.struct fs)=>fs.all fun f=>(P.info? f.type).isSome|_=>false)=true:=yu
theorem zah:fieldB P 37 0 0 33=true:=yu
theorem zcD:fieldB P 37 1 135 34=true:=yu
theorem zdl:fieldB P 37 2 136 35=true:=yu
theorem zje:zbf P 37 zt zmO:=zaJ zjd yu
theorem zko:tyB P 53 1 false=true:=yu
theorem zfl:rowB P 53 148 37 72=true:=yu
theorem zeH:sliceB P 53 148 37=true:=yu
theorem zfr:(match P.underlying 53 with|some (.slice _)=>true|_=>false)=true:=yu
theorem zir:tyB P 54 1 false=true:=yu
theorem zfk:rowB P 54 180 35 56=true:=yu
theorem zeq:sliceB P 54 180 35=true:=yu
theorem zlL:(match P.underlying 54 with|some (.slice _)=>true|_=>false)=true:=yu
theorem zaP:tyB P 56 139 true=true:=yu
theorem zi6:(match P.underlying 56 with|some (.struct fs)=>fs.all fun f=>(P.info? f.type).isSome|_=>false)=true:=yu
theorem zdU:fieldB P 56 0 0 37=true:=yu
theorem zfD:fieldB P 56 1 137 53=true:=yu
theorem zjL:fieldB P 56 2 138 54=true:=yu
theorem zep:zbf P 56 tipT zTip:=zaJ zrs yu
theorem ty_78:tyB P 78 1 false=true:=yu
theorem row_78:rowB P 78 84 5 40=true:=yu
theorem zb3:sliceB P 78 84 5=true:=yu
theorem isl_78:(match P.underlying 78 with|some (.slice _)=>true|_=>false)=true:=yu
theorem bd_80:(match P.underlying 80 with|some (.struct fs)=>fs.all fun f=>(P.info? f.type).isSome|_=>false)=true:=yu
theorem zjK:fieldB P 80 0 0 78=true:=yu
theorem zhY:tyB P 84 5 true=true:=yu
theorem bd_84:(match P.underlying 84 with|some (.struct fs)=>fs.all fun f=>(P.info? f.type).isSome|_=>false)=true:=yu
theorem zq2:fieldB P 84 0 0 3=true:=yu
theorem fd_84_1:fieldB P 84 1 1 30=true:=yu
theorem ze_84:zbf P 84 zgM zSTip:=zaJ zero_STip yu
theorem row_89:rowB P 89 56 139 280=true:=yu
theorem sl_89:sliceB P 89 56 139=true:=yu
theorem zpD:P.underlying 90=some (.map 27 3):=yu
theorem zmU:tyB P 101 1 false=true:=yu
theorem zaf:rowB P 101 5 1 1=true:=yu
theorem zch:sliceB P 101 5 1=true:=yu
theorem zco:(match P.underlying 101 with|some (.slice _)=>true|_=>false)=true:=yu
theorem zdN:tyB P 109 1 false=true:=yu
theorem row_109:rowB P 109 120 33 40=true:=yu
theorem zd9:sliceB P 109 120 33=true:=yu
theorem ze4:(match P.underlying 109 with|some (.slice _)=>true|_=>false)=true:=yu
theorem zdp:tyB P 110 1 false=true:=yu
theorem row_110:rowB P 110 123 2 16=true:=yu
theorem zeX:sliceB P 110 123 2=true:=yu
theorem zgY:(match P.underlying 110 with|some (.slice _)=>true|_=>false)=true:=yu
theorem zdM:tyB P 112 2 true=true:=yu
theorem bd_112:(match P.underlying 112 with|some (.struct fs)=>fs.all fun f=>(P.info? f.type).isSome|_=>false)=true:=yu
theorem zbB:fieldB P 112 0 0 109=true:=yu
theorem zbd:fieldB P 112 1 1 110=true:=yu
theorem zkZ:zbf P 112 txT zTx:=zaJ zero_Tx yu
theorem zbI:tyB P 120 33 true=true:=yu
theorem bd_120:(match P.underlying 120 with|some (.struct fs)=>fs.all fun f=>(P.info? f.type).isSome|_=>false)=true:=yu
theorem zcH:fieldB P 120 0 0 27=true:=yu
theorem zbm:fieldB P 120 1 32 3=true:=yu
theorem ze_120:zbf P 120 inT zIn:=zaJ zero_In yu
theorem zeU:tyB P 123 2 true=true:=yu
theorem zb9:fieldB P 123 0 0 3=true:=yu
theorem zcV:fieldB P 123 1 1 3=true:=yu
theorem ze_123:zbf P 123 outT zOut:=zaJ zrt yu
theorem zjt:rowB P 125 101 1 24=true:=yu
theorem zix:sliceB P 125 101 1=true:=yu
theorem zqW:(match P.underlying 125 with|some (.slice _)=>true|_=>false)=true:=yu
theorem bd_139:(match P.underlying 139 with|some (.struct fs)=>fs.all fun f=>(P.info? f.type).isSome|_=>false)=true:=yu
theorem zkQ:fieldB P 139 0 0 56=true:=yu
theorem zgu:fieldB P 139 1 139 37=true:=yu
theorem ziX:fieldB P 139 2 276 33=true:=yu
theorem zsF:fieldB P 139 3 411 54=true:=yu
theorem ze_139:zbf P 139 zd5 zTrial:=zaJ zero_Trial yu
theorem ty_140:tyB P 140 1 false=true:=yu
theorem ty_142:tyB P 142 6 true=true:=yu
theorem ar_142:arrB P 142 6 140 1=true:=yu
theorem ze_142:zbf P 142 (arrT 6 yp fnoT) (List.replicate 6 none):=zaJ (zhh yp zero_fno) yu
theorem row_144:rowB P 144 140 1 8=true:=yu
theorem sl_144:sliceB P 144 140 1=true:=yu
theorem isl_144:(match P.underlying 144 with|some (.slice _)=>true|_=>false)=true:=yu
theorem zaV:tyB P 148 37 true=true:=yu
theorem znK:(match P.underlying 148 with|some (.struct fs)=>fs.all fun f=>(P.info? f.type).isSome|_=>false)=true:=yu
theorem zdg:fieldB P 148 0 0 27=true:=yu
theorem zgt:fieldB P 148 1 32 30=true:=yu
theorem zcG:fieldB P 148 2 36 3=true:=yu
theorem zjW:zbf P 148 zao zrw:=zaJ zero_Total yu
theorem zmT:P.underlying 156=some (.int .u64):=yu
theorem us_156:(P.underlying 156).isSome=true:=yu
theorem zd4:tyB P 180 35 true=true:=yu
theorem bd_180:(match P.underlying 180 with|some (.struct fs)=>fs.all fun f=>(P.info? f.type).isSome|_=>false)=true:=yu
theorem zbc:fieldB P 180 0 0 120=true:=yu
theorem zdf:fieldB P 180 1 33 123=true:=yu
theorem zo3:zbf P 180 zal zCoin:=zaJ zero_Coin yu
theorem ty_194:tyB P 194 1 false=true:=yu
theorem zp_194:(P.info? 194).bind (·.zero)=some (.pointer none):=yu
theorem zrz:tyB P 196 8 true=true:=yu
theorem zdx:arrB P 196 8 31 1=true:=yu
theorem ze_196:zbf P 196 (arrT 8 yp u32T) (List.replicate 8 0):=zaJ (zhh yp znN) yu
theorem zgP:rowB P 207 31 1 4=true:=yu
theorem zaW:sliceB P 207 31 1=true:=yu
theorem ty_227:tyB P 227 64 true=true:=yu
theorem zja:arrB P 227 64 31 1=true:=yu
theorem zru:zbf P 227 (arrT 64 yp u32T) (List.replicate 64 0):=zaJ (zhh yp znN) yu
theorem ar_252:arrB P 252 2 27 32=true:=yu
theorem ze_252:zbf P 252 (arrT 2 yp idT) (List.replicate 2 zId):=zaJ (zhh yp zgJ) yu
theorem row_253:rowB P 253 34 1 24=true:=yu
theorem sl_253:sliceB P 253 34 1=true:=yu
theorem isl_253:(match P.underlying 253 with|some (.slice _)=>true|_=>false)=true:=yu
theorem eqk_3 (d:Nat):EqOk P 3 i64T (d+1):=eq_int yu d
theorem ub_4:P.underlying 4=some .bool:=yu
theorem eqk_5 (d:Nat):EqOk P 5 u8T (d+1):=eq_u8 yu d
theorem znw (d:Nat):EqOk P 27 idT (d+2):=eq_arr zc8 ty_5 (eqk_5 d)
theorem zdw:EqTy P 27 idT:=⟨znw 9998,rfl,by kernel_rfl⟩
theorem eqk_28 (d:Nat):EqOk P 28 u64T (d+1):=eq_u64 yu d
theorem eqk_30 (d:Nat):EqOk P 30 zL (d+2):=eq_arr zaO zaQ (eqk_28 d)
theorem zsH:EqTy P 30 zL:=⟨eqk_30 9998,rfl,by kernel_rfl⟩
theorem eqk_31 (d:Nat):EqOk P 31 u32T (d+1):=eq_u32 yu d
theorem eqk_33 (d:Nat):EqOk P 33 zbU (d+3):=zl7 (n:=8) yu rfl (.cons zdm zat ty_3 (eqk_3 (d+1)) (.cons zet zbz zT (znw (d+0)) (.cons zes zbb zT (znw (d+0)) (.cons zfH zcX zT (znw (d+0)) (.cons zfG zcr zT (znw (d+0)) (.cons zfF zcq zV (eqk_30 (d+0)) (.cons zcf zan zaY (eqk_31 (d+1)) (.cons zfE zb0 zaQ (eqk_28 (d+1)) .nil)))))))) eqx_Head
theorem zsG:EqTy P 33 zbU:=⟨eqk_33 9997,rfl,by kernel_rfl⟩
theorem eqk_120 (d:Nat):EqOk P 120 inT (d+3):=zl7 (n:=2) yu rfl (.cons zcH zd0 zT (znw (d+0)) (.cons zbm zeo ty_3 (eqk_3 (d+1)) .nil)) eqx_In
theorem zl6:EqTy P 120 inT:=⟨eqk_120 9997,rfl,by kernel_rfl⟩
theorem eqk_123 (d:Nat):EqOk P 123 outT (d+2):=zl7 (n:=2) yu rfl (.cons zb9 zdo ty_3 (eqk_3 (d+0)) (.cons zcV zdL ty_3 (eqk_3 (d+0)) .nil)) eqx_Out
theorem eqt_123:EqTy P 123 outT:=⟨eqk_123 9998,rfl,by kernel_rfl⟩
theorem fn_9:fnB P 9=true:=yu
theorem fn_10:fnB P 10=true:=yu
theorem fn_11:fnB P 11=true:=yu
theorem fn_12:fnB P 12=true:=yu
theorem fn_13:fnB P 13=true:=yu
theorem fn_14:fnB P 14=true:=yu
theorem fn_15:fnB P 15=true:=yu
theorem fn_16:fnB P 16=true:=yu
theorem fn_17:fnB P 17=true:=yu
theorem fn_18:fnB P 18=true:=yu
theorem fn_19:fnB P 19=true:=yu
theorem fn_20:fnB P 20=true:=yu
theorem fn_21:fnB P 21=true:=yu
theorem fn_22:fnB P 22=true:=yu
theorem fn_23:fnB P 23=true:=yu
theorem fn_24:fnB P 24=true:=yu
theorem fn_25:fnB P 25=true:=yu
theorem fn_26:fnB P 26=true:=yu
theorem fn_27:fnB P 27=true:=yu
theorem fn_28:fnB P 28=true:=yu
theorem fn_29:fnB P 29=true:=yu
theorem fn_30:fnB P 30=true:=yu
theorem fn_31:fnB P 31=true:=yu
theorem fn_32:fnB P 32=true:=yu
theorem zqZ:fnB P 33=true:=yu
theorem fn_34:fnB P 34=true:=yu
theorem fn_35:fnB P 35=true:=yu
theorem fn_36:fnB P 36=true:=yu
theorem fn_37:fnB P 37=true:=yu
theorem fn_38:fnB P 38=true:=yu
theorem fn_39:fnB P 39=true:=yu
theorem zpY:fnB P 40=true:=yu
theorem fn_41:fnB P 41=true:=yu
theorem fn_42:fnB P 42=true:=yu
theorem fn_43:fnB P 43=true:=yu
theorem fn_44:fnB P 44=true:=yu
theorem fn_45:fnB P 45=true:=yu
theorem fn_46:fnB P 46=true:=yu
theorem fn_47:fnB P 47=true:=yu
theorem fn_48:fnB P 48=true:=yu
theorem fn_49:fnB P 49=true:=yu
theorem fn_50:fnB P 50=true:=yu
theorem fn_51:fnB P 51=true:=yu
theorem fn_52:fnB P 52=true:=yu
theorem fn_53:fnB P 53=true:=yu
theorem fn_54:fnB P 54=true:=yu
theorem fn_55:fnB P 55=true:=yu
theorem fn_56:fnB P 56=true:=yu
theorem fn_57:fnB P 57=true:=yu
theorem fn_58:fnB P 58=true:=yu
theorem fn_60:fnB P 60=true:=yu
theorem fn_61:fnB P 61=true:=yu
theorem fn_62:fnB P 62=true:=yu
theorem fn_63:fnB P 63=true:=yu
theorem fn_64:fnB P 64=true:=yu
theorem fn_65:fnB P 65=true:=yu
theorem fn_66:fnB P 66=true:=yu
theorem fn_67:fnB P 67=true:=yu
theorem fn_68:fnB P 68=true:=yu
theorem fn_69:fnB P 69=true:=yu
theorem fn_70:fnB P 70=true:=yu
theorem fn_71:fnB P 71=true:=yu
theorem fn_72:fnB P 72=true:=yu
theorem fn_73:fnB P 73=true:=yu
theorem fn_74:fnB P 74=true:=yu
theorem fn_75:fnB P 75=true:=yu
theorem fn_76:fnB P 76=true:=yu
theorem fn_77:fnB P 77=true:=yu
theorem fn_78:fnB P 78=true:=yu
theorem fn_79:fnB P 79=true:=yu
theorem fn_80:fnB P 80=true:=yu
theorem fn_81:fnB P 81=true:=yu
theorem fn_82:fnB P 82=true:=yu
theorem fn_83:fnB P 83=true:=yu
theorem fn_84:fnB P 84=true:=yu
theorem fn_85:fnB P 85=true:=yu
theorem zjI:fnB P 86=true:=yu
theorem fn_87:fnB P 87=true:=yu
theorem fn_88:fnB P 88=true:=yu
theorem fn_89:fnB P 89=true:=yu
theorem fn_90:fnB P 90=true:=yu
theorem fn_91:fnB P 91=true:=yu
theorem fn_92:fnB P 92=true:=yu
theorem fn_93:fnB P 93=true:=yu
theorem fn_94:fnB P 94=true:=yu
theorem fn_95:fnB P 95=true:=yu
theorem fn_96:fnB P 96=true:=yu
theorem fn_97:fnB P 97=true:=yu
theorem fn_98:fnB P 98=true:=yu
theorem fn_99:fnB P 99=true:=yu
theorem fn_100:fnB P 100=true:=yu
theorem fn_101:fnB P 101=true:=yu
theorem fn_102:fnB P 102=true:=yu
theorem fn_103:fnB P 103=true:=yu
theorem fn_104:fnB P 104=true:=yu
theorem fn_105:fnB P 105=true:=yu
theorem fn_106:fnB P 106=true:=yu
theorem zsz:fnB P 107=true:=yu
theorem fn_108:fnB P 108=true:=yu
theorem fn_109:fnB P 109=true:=yu
theorem fn_110:fnB P 110=true:=yu
theorem zp3:fnB P 111=true:=yu
theorem fn_112:fnB P 112=true:=yu
theorem zsy:fnB P 113=true:=yu
theorem fn_114:fnB P 114=true:=yu
theorem fn_115:fnB P 115=true:=yu
theorem fn_116:fnB P 116=true:=yu
theorem fn_117:fnB P 117=true:=yu
theorem fn_118:fnB P 118=true:=yu
theorem fn_119:fnB P 119=true:=yu
theorem fn_120:fnB P 120=true:=yu
theorem fn_121:fnB P 121=true:=yu
theorem zp2:fnB P 122=true:=yu
theorem zsx:fnB P 123=true:=yu
theorem fn_124:fnB P 124=true:=yu
theorem fn_125:fnB P 125=true:=yu
theorem fn_126:fnB P 126=true:=yu
theorem fn_127:fnB P 127=true:=yu
theorem fn_128:fnB P 128=true:=yu
theorem fn_129:fnB P 129=true:=yu
theorem fn_130:fnB P 130=true:=yu
theorem fn_131:fnB P 131=true:=yu
theorem fn_132:fnB P 132=true:=yu
theorem fn_133:fnB P 133=true:=yu
theorem fn_134:fnB P 134=true:=yu
theorem fn_135:fnB P 135=true:=yu
theorem fn_136:fnB P 136=true:=yu
theorem fn_137:fnB P 137=true:=yu
theorem fn_138:fnB P 138=true:=yu
theorem fn_139:fnB P 139=true:=yu
theorem zp1:fnB P 140=true:=yu
theorem fn_141:fnB P 141=true:=yu
theorem fn_142:fnB P 142=true:=yu
theorem zsw:fnB P 143=true:=yu
theorem fn_144:fnB P 144=true:=yu
theorem fn_145:fnB P 145=true:=yu
theorem fn_146:fnB P 146=true:=yu
theorem fn_147:fnB P 147=true:=yu
theorem fn_148:fnB P 148=true:=yu
theorem fn_149:fnB P 149=true:=yu
theorem zsv:fnB P 150=true:=yu
theorem fn_151:fnB P 151=true:=yu
theorem fn_152:fnB P 152=true:=yu
theorem fn_153:fnB P 153=true:=yu
theorem fn_154:fnB P 154=true:=yu
theorem fn_155:fnB P 155=true:=yu
theorem fn_156:fnB P 156=true:=yu
theorem fn_157:fnB P 157=true:=yu
theorem fn_158:fnB P 158=true:=yu
theorem fn_159:fnB P 159=true:=yu
theorem fn_160:fnB P 160=true:=yu
theorem fn_161:fnB P 161=true:=yu
theorem fn_162:fnB P 162=true:=yu
theorem fn_163:fnB P 163=true:=yu
theorem fn_164:fnB P 164=true:=yu
theorem znt:fnB P 165=true:=yu
theorem zsu:fnB P 166=true:=yu
theorem fn_167:fnB P 167=true:=yu
theorem fn_168:fnB P 168=true:=yu
theorem fn_169:fnB P 169=true:=yu
theorem fn_170:fnB P 170=true:=yu
theorem fn_171:fnB P 171=true:=yu
theorem fn_172:fnB P 172=true:=yu
theorem fn_173:fnB P 173=true:=yu
theorem fn_174:fnB P 174=true:=yu
theorem fn_175:fnB P 175=true:=yu
theorem fn_176:fnB P 176=true:=yu
theorem fn_177:fnB P 177=true:=yu
theorem zst:fnB P 178=true:=yu
theorem fn_179:fnB P 179=true:=yu
theorem fn_180:fnB P 180=true:=yu
theorem fn_181:fnB P 181=true:=yu
theorem zkg:fnB P 182=true:=yu
theorem fn_183:fnB P 183=true:=yu
theorem fn_184:fnB P 184=true:=yu
theorem fn_185:fnB P 185=true:=yu
theorem fn_186:fnB P 186=true:=yu
theorem fn_187:fnB P 187=true:=yu
theorem fn_188:fnB P 188=true:=yu
theorem fn_189:fnB P 189=true:=yu
theorem fn_190:fnB P 190=true:=yu
theorem fn_191:fnB P 191=true:=yu
theorem fn_192:fnB P 192=true:=yu
theorem fn_193:fnB P 193=true:=yu
theorem fn_194:fnB P 194=true:=yu
theorem fn_196:fnB P 196=true:=yu
theorem fn_197:fnB P 197=true:=yu
theorem fn_198:fnB P 198=true:=yu
theorem fn_199:fnB P 199=true:=yu
theorem fn_200:fnB P 200=true:=yu
theorem fn_201:fnB P 201=true:=yu
theorem fn_202:fnB P 202=true:=yu
theorem fn_203:fnB P 203=true:=yu
theorem zhS:fnB P 204=true:=yu
theorem fn_205:fnB P 205=true:=yu
theorem fn_206:fnB P 206=true:=yu
theorem fn_207:fnB P 207=true:=yu
theorem fn_208:fnB P 208=true:=yu
theorem fn_209:fnB P 209=true:=yu
theorem fn_210:fnB P 210=true:=yu
theorem fn_211:fnB P 211=true:=yu
theorem fn_212:fnB P 212=true:=yu
theorem fn_213:fnB P 213=true:=yu
theorem zss:fnB P 214=true:=yu
theorem fn_215:fnB P 215=true:=yu
theorem zl2:fnB P 216=true:=yu
theorem fn_217:fnB P 217=true:=yu
theorem fn_218:fnB P 218=true:=yu
theorem fn_219:fnB P 219=true:=yu
theorem fn_220:fnB P 220=true:=yu
theorem fn_221:fnB P 221=true:=yu
theorem fn_222:fnB P 222=true:=yu
theorem fn_223:fnB P 223=true:=yu
theorem fn_224:fnB P 224=true:=yu
theorem fn_225:fnB P 225=true:=yu
theorem fn_226:fnB P 226=true:=yu
theorem fn_227:fnB P 227=true:=yu
theorem fn_228:fnB P 228=true:=yu
theorem fn_229:fnB P 229=true:=yu
theorem fn_230:fnB P 230=true:=yu
theorem fn_231:fnB P 231=true:=yu
theorem fn_232:fnB P 232=true:=yu
theorem fn_233:fnB P 233=true:=yu
theorem fn_234:fnB P 234=true:=yu
theorem fn_235:fnB P 235=true:=yu
theorem fn_236:fnB P 236=true:=yu
theorem fn_237:fnB P 237=true:=yu
theorem fn_238:fnB P 238=true:=yu
theorem fn_239:fnB P 239=true:=yu
theorem fn_240:fnB P 240=true:=yu
theorem fn_241:fnB P 241=true:=yu
theorem fn_242:fnB P 242=true:=yu
theorem fn_243:fnB P 243=true:=yu
theorem fn_244:fnB P 244=true:=yu
theorem fn_245:fnB P 245=true:=yu
theorem fn_246:fnB P 246=true:=yu
theorem fn_247:fnB P 247=true:=yu
theorem fn_248:fnB P 248=true:=yu
theorem fn_252:fnB P 252=true:=yu
theorem fn_253:fnB P 253=true:=yu
theorem fn_255:fnB P 255=true:=yu
theorem zp0:fnB P 286=true:=yu
theorem fn_287:fnB P 287=true:=yu
theorem fn_288:fnB P 288=true:=yu
theorem zpZ:fnB P 289=true:=yu
theorem mixed:P.follows .mixedOrders=true:=yu
structure Hid (C:Prop):Prop where
  out:C
section
variable {A C:Prop}
theorem qaa (h:C) (t:Hid C→A:=by intro h;refine G2 ?_;refine G2 ?_;refine G2 ?_;refine G2 ?_;refine G2 ?_;refine G2 ?_;refine G2 ?_;refine G2 ?_;exact h.1):A:=t ⟨h⟩
theorem qab (h:C) (t:Hid C→A:=by intro h;refine A0 yR ?_;refine A0 yZ ?_;exact h.1):A:=t ⟨h⟩
theorem qac (h:C) (t:Hid C→A:=by intro h;refine A2 ?_;refine A2 ?_;refine A2 ?_;exact h.1):A:=t ⟨h⟩
theorem qad (h:C) (t:Hid C→A:=by intro h;refine A0 aV ?_;refine CN ?_;exact h.1):A:=t ⟨h⟩
theorem qae (h:C) (t:Hid C→A:=by intro h;refine G3 ?_;refine G3 ?_;refine G3 ?_;refine G3 ?_;refine G3 ?_;refine G3 ?_;refine G3 ?_;refine G3 ?_;refine G3 ?_;exact h.1):A:=t ⟨h⟩
theorem qaf (h:C) (t:Hid C→A:=by intro h;refine CQR ?_;refine zmu rfl rfl rfl rfl rfl ?_;exact h.1):A:=t ⟨h⟩
theorem qag (h:C) (t:Hid C→A:=by intro h;refine zg rfl rfl rfl rfl rfl (Lens.self _) zV rfl ?_;exact h.1):A:=t ⟨h⟩
theorem qah (h:C) (t:Hid C→A:=by intro h;refine A0 aV ?_;refine CNQQR ?_;refine A0 mV ?_;exact h.1):A:=t ⟨h⟩
theorem qai (h:C) (t:Hid C→A:=by intro h;refine A0 mV ?_;refine A0 mV ?_;exact h.1):A:=t ⟨h⟩
theorem qaj (h:C) (t:Hid C→A:=by intro h;refine A0 aV ?_;refine CNQR ?_;exact h.1):A:=t ⟨h⟩
theorem qak (h:C) (t:Hid C→A:=by intro h;refine A0 mV ?_;refine A0 zbh ?_;refine qad ?_;exact h.1):A:=t ⟨h⟩
theorem qal (h:C) (t:Hid C→A:=by intro h;refine X0 mP ?_;refine X0 (g_nc rfl rfl) ?_;refine X0 (oFp zjK) ?_;refine X0 (zbW rfl rfl rfl rfl rfl ty_78) ?_;exact h.1):A:=t ⟨h⟩
theorem qam (h:C) (t:Hid C→A:=by intro h;refine qac ?_;refine A2 ?_;refine A0 oK ?_;refine A0 mV ?_;refine qac ?_;refine A2 ?_;exact h.1):A:=t ⟨h⟩
theorem qan (h:C) (t:Hid C→A:=by intro h;refine A0 zbh ?_;refine A0 mV ?_;refine CN ?_;exact h.1):A:=t ⟨h⟩
theorem qao (h:C) (t:Hid C→A:=by intro h;refine zg rfl rfl rfl rfl rfl (Lens.self _) zT rfl ?_;exact h.1):A:=t ⟨h⟩
theorem qap (h:C) (t:Hid C→A:=by intro h;refine zg rfl rfl rfl rfl rfl (Lens.self _) zaP rfl ?_;exact h.1):A:=t ⟨h⟩
theorem qaq (h:C) (t:Hid C→A:=by intro h;refine CQR ?_;refine qad ?_;exact h.1):A:=t ⟨h⟩
theorem qar (h:C) (t:Hid C→A:=by intro h;refine A0 oK ?_;refine CN ?_;exact h.1):A:=t ⟨h⟩
theorem qas (h:C) (t:Hid C→A:=by intro h;refine CQR ?_;refine A0 zbK ?_;refine CNQ ?_;exact h.1):A:=t ⟨h⟩
theorem qat (h:C) (t:Hid C→A:=by intro h;refine A0 oK ?_;refine A0 mV ?_;exact h.1):A:=t ⟨h⟩
theorem qau (h:C) (t:Hid C→A:=by intro h;refine zP zf7 rfl rfl rfl rfl ?_;exact h.1):A:=t ⟨h⟩
theorem qav (h:C) (t:Hid C→A:=by intro h;refine A0 (zs (i:=0) rfl rfl rfl yh zaO ya) ?_;refine A0 (zl rfl rfl rfl (Lens.elem (i:=0) ya u64T) zaQ) ?_;refine A0 (zfC rfl rfl rfl) ?_;refine A0 (zs (i:=0) rfl rfl rfl yh zaO ya) ?_;refine zg rfl rfl rfl rfl rfl (Lens.elem (i:=0) ya u64T) zaQ rfl ?_;exact h.1):A:=t ⟨h⟩
theorem qaw (h:C) (t:Hid C→A:=by intro h;refine qaf ?_;refine zmu rfl rfl rfl rfl rfl ?_;exact h.1):A:=t ⟨h⟩
theorem qax (h:C) (t:Hid C→A:=by intro h;refine G0 (zbA rfl rfl rfl rfl yj (Lens.self _) zaY) ?_;exact h.1):A:=t ⟨h⟩
theorem qay (h:C) (t:Hid C→A:=by intro h;refine A0 (oLs rfl rfl rfl zV) ?_;exact h.1):A:=t ⟨h⟩
theorem qaz (h:C) (t:Hid C→A:=by intro h;refine A0 (zW (T:=u8T) (xs:=[_]) rfl zch zaf yz rfl rfl) ?_;exact h.1):A:=t ⟨h⟩
theorem qa0 (h:C) (t:Hid C→A:=by intro h;refine CQR ?_;refine A0 mV ?_;exact h.1):A:=t ⟨h⟩
theorem qa1 (h:C) (t:Hid C→A:=by intro h;refine A0 zbK ?_;refine CN ?_;exact h.1):A:=t ⟨h⟩
theorem qa2 (h:C) (t:Hid C→A:=by intro h;refine CNQQR ?_;refine A0 aV ?_;refine CNB ?_;exact h.1):A:=t ⟨h⟩
theorem qa3 (h:C) (t:Hid C→A:=by intro h;refine A0 (oFp zbB) ?_;refine A0 (oLb zbY zdN) ?_;refine A0 (zaZ rfl rfl ze4) ?_;exact h.1):A:=t ⟨h⟩
theorem qa4 (h:C) (t:Hid C→A:=by intro h;refine G0 mP ?_;refine G0 (g_nc rfl rfl) ?_;refine G0 (oFp zjK) ?_;refine G0 (zbW rfl rfl rfl rfl rfl ty_78) ?_;refine G0 mV ?_;exact h.1):A:=t ⟨h⟩
theorem qa5 (h:C) (t:Hid C→A:=by intro h;refine G1 mP ?_;refine G1 (g_nc rfl rfl) ?_;refine G1 (oFp zjK) ?_;refine G1 (zbW rfl rfl rfl rfl rfl ty_78) ?_;refine G1 mV ?_;exact h.1):A:=t ⟨h⟩
theorem qa6 (h:C) (t:Hid C→A:=by intro h;refine G0 aV ?_;refine GK.nil ?_;exact h.1):A:=t ⟨h⟩
theorem qa7 (h:C) (t:Hid C→A:=by intro h;refine CE ?_;refine CQR ?_;refine A0 mO ?_;refine A0 aO ?_;refine CN ?_;exact h.1):A:=t ⟨h⟩
theorem qa8 (h:C) (t:Hid C→A:=by intro h;refine A0 (oFp zcM) ?_;refine A0 (oLb zen zh0) ?_;exact h.1):A:=t ⟨h⟩
theorem qa9 (h:C) (t:Hid C→A:=by intro h;refine A0 mV ?_;exact h.1):A:=t ⟨h⟩
theorem qaA (h:C) (t:Hid C→A:=by intro h;refine zg rfl rfl rfl rfl rfl (Lens.self _) zbu rfl ?_;exact h.1):A:=t ⟨h⟩
theorem qaB (h:C) (t:Hid C→A:=by intro h;refine CQR ?_;refine A0 aL ?_;exact h.1):A:=t ⟨h⟩
theorem qaC (h:C) (t:Hid C→A:=by intro h;refine G3 ?_;refine G3 ?_;refine G3 ?_;refine G3 ?_;refine G3 ?_;exact h.1):A:=t ⟨h⟩
theorem qaD (h:C) (t:Hid C→A:=by intro h;refine CS ?_;refine CQ ?_;refine CB ?_;exact h.1):A:=t ⟨h⟩
theorem qaE (h:C) (t:Hid C→A:=by intro h;refine G2 ?_;refine G2 ?_;refine G2 ?_;exact h.1):A:=t ⟨h⟩
theorem qaF (h:C) (t:Hid C→A:=by intro h;refine G0 (znr rfl rfl fd_84_1 rfl) ?_;refine G0 (zbA rfl rfl rfl rfl yj zmA zV) ?_;exact h.1):A:=t ⟨h⟩
theorem qaG (h:C) (t:Hid C→A:=by intro h;refine G1 (znr rfl rfl zq2 rfl) ?_;refine G1 (zbA rfl rfl rfl rfl yj zjV ty_3) ?_;exact h.1):A:=t ⟨h⟩
theorem qaH (h:C) (t:Hid C→A:=by intro h;refine CQ ?_;refine CD mixed ?_;exact h.1):A:=t ⟨h⟩
theorem qaI (h:C) (t:Hid C→A:=by intro h;refine zP zqB rfl rfl rfl rfl ?_;exact h.1):A:=t ⟨h⟩
theorem qaJ (h:C) (t:Hid C→A:=by intro h;refine A0 aV ?_;refine CNQ ?_;exact h.1):A:=t ⟨h⟩
theorem qaK (h:C) (t:Hid C→A:=by intro h;refine CQQR ?_;refine qa9 ?_;exact h.1):A:=t ⟨h⟩
theorem qaL (h:C) (t:Hid C→A:=by intro h;refine CQR ?_;refine xa ?_;refine qag ?_;exact h.1):A:=t ⟨h⟩
theorem qaM (h:C) (t:Hid C→A:=by intro h;refine A0 mX ?_;refine qab ?_;exact h.1):A:=t ⟨h⟩
theorem qaN (h:C) (t:Hid C→A:=by intro h;refine A0 (oLs rfl rfl rfl zbu) ?_;exact h.1):A:=t ⟨h⟩
theorem qaO (h:C) (t:Hid C→A:=by intro h;refine A0 (g_cvi rfl (ui_3) (us_5) rfl (by first|exact zaF ya|rfl)) ?_;refine A0 zbh ?_;refine qad ?_;exact h.1):A:=t ⟨h⟩
theorem qaP (h:C) (t:Hid C→A:=by intro h;refine A0 (oFp zbd) ?_;refine A0 (oLb zaU zdp) ?_;refine A0 (zaZ rfl rfl zgY) ?_;exact h.1):A:=t ⟨h⟩
theorem qaQ (h:C) (t:Hid C→A:=by intro h;refine A0 oN ?_;refine CN ?_;exact h.1):A:=t ⟨h⟩
theorem qaR (h:C) (t:Hid C→A:=by intro h;refine CSQBQR ?_;refine A0 (zbj rfl rfl rfl sl_144 yj) ?_;refine A0 (zh rfl rfl ty_140) ?_;refine A0 aX ?_;refine CNQR ?_;refine A0 mX ?_;exact h.1):A:=t ⟨h⟩
theorem qaS (h:C) (t:Hid C→A:=by intro h;refine qaj ?_;refine qa9 ?_;exact h.1):A:=t ⟨h⟩
theorem qaT (h:C) (t:Hid C→A:=by intro h;refine A0 zeb ?_;refine CN ?_;exact h.1):A:=t ⟨h⟩
theorem qaU (h:C) (t:Hid C→A:=by intro h;refine CQR ?_;refine xb ?_;refine qap ?_;refine qad ?_;exact h.1):A:=t ⟨h⟩
theorem qaV (h:C) (t:Hid C→A:=by intro h;refine zg rfl rfl rfl rfl rfl (Lens.self _) zaV rfl ?_;exact h.1):A:=t ⟨h⟩
theorem qaW (h:C) (t:Hid C→A:=by intro h;refine zg rfl rfl rfl rfl rfl (Lens.self _) zbg rfl ?_;exact h.1):A:=t ⟨h⟩
theorem qaX (h:C) (t:Hid C→A:=by intro h;refine A0 (oFp zeu) ?_;refine A0 (oLb zfh zk5) ?_;exact h.1):A:=t ⟨h⟩
theorem qaY (h:C) (t:Hid C→A:=by intro h;refine A0 (zD (i:=0) rfl rfl rfl ya zhI yj) ?_;refine A0 (zh rfl rfl zdM) ?_;exact h.1):A:=t ⟨h⟩
theorem qaZ (h:C) (t:Hid C→A:=by intro h;refine A2 ?_;refine qar ?_;exact h.1):A:=t ⟨h⟩
theorem qba (h:C) (t:Hid C→A:=by intro h;refine xc ?_;refine CI ?_;refine CR ?_;exact h.1):A:=t ⟨h⟩
theorem qbb (h:C) (t:Hid C→A:=by intro h;refine X0 (zbA rfl rfl rfl rfl yj (Lens.self _) zaY) ?_;exact h.1):A:=t ⟨h⟩
theorem qbc (h:C) (t:Hid C→A:=by intro h;refine X0 (zbA rfl rfl rfl rfl yj (Lens.self _) zhY) ?_;exact h.1):A:=t ⟨h⟩
theorem qbd (h:C) (t:Hid C→A:=by intro h;refine A0 aO ?_;refine CNQR ?_;refine A0 mO ?_;exact h.1):A:=t ⟨h⟩
theorem qbe (h:C) (t:Hid C→A:=by intro h;refine CSQBQR ?_;refine qa9 ?_;exact h.1):A:=t ⟨h⟩
theorem qbf (h:C) (t:Hid C→A:=by intro h;refine A0 (zaZ rfl rfl zlM) ?_;exact h.1):A:=t ⟨h⟩
theorem qbg (h:C) (t:Hid C→A:=by intro h;refine A1 mV ?_;refine A1 (zD (i:=0) rfl rfl rfl ya zhI yj) ?_;refine A1 (oFr zbB zbY) ?_;refine A1 (zh rfl rfl zdN) ?_;refine A1 (by first|exact zaZ rfl rfl ze4|exact za9 rfl rfl rfl ze4|exact zef rfl rfl ze4) ?_;exact h.1):A:=t ⟨h⟩
theorem qbh (h:C) (t:Hid C→A:=by intro h;refine A0 mP ?_;refine A0 (g_nc rfl rfl) ?_;refine A0 (oFp zjK) ?_;refine A0 (zbW rfl rfl rfl rfl rfl ty_78) ?_;exact h.1):A:=t ⟨h⟩
theorem qbi (h:C) (t:Hid C→A:=by intro h;refine A0 oK ?_;refine qad ?_;exact h.1):A:=t ⟨h⟩
theorem qbj (h:C) (t:Hid C→A:=by intro h;refine A0 (g_rem rfl rfl rfl ybz (by first|decide|omega) rfl) ?_;exact h.1):A:=t ⟨h⟩
theorem qbk (h:C) (t:Hid C→A:=by intro h;refine G0 mV ?_;refine G0 mV ?_;exact h.1):A:=t ⟨h⟩
theorem qbl (h:C) (t:Hid C→A:=by intro h;refine A1 (oFp zbd) ?_;refine A1 (oLb zaU zdp) ?_;refine A1 (zaZ rfl rfl zgY) ?_;exact h.1):A:=t ⟨h⟩
theorem qbm (h:C) (t:Hid C→A:=by intro h;refine G0 mO ?_;refine G0 (zI (i:=4) rfl rfl rfl rfl yh zaW yd) ?_;refine qax ?_;exact h.1):A:=t ⟨h⟩
theorem qbn (h:C) (t:Hid C→A:=by intro h;refine A1 (oFp zcM) ?_;refine A1 (oLb zen zh0) ?_;refine A1 (zaZ rfl rfl zlM) ?_;exact h.1):A:=t ⟨h⟩
theorem qbo (h:C) (t:Hid C→A:=by intro h;refine A0 (zbj rfl rfl rfl zhI yj) ?_;refine A0 (zh rfl rfl zdM) ?_;refine zP zkZ rfl rfl rfl rfl ?_;exact h.1):A:=t ⟨h⟩
theorem qbp (h:C) (t:Hid C→A:=by intro h;refine qa9 ?_;refine CNB ?_;exact h.1):A:=t ⟨h⟩
theorem qbq (h:C) (t:Hid C→A:=by intro h;refine A0 (zW (T:=idT) (xs:=[_]) rfl zdR zey yz rfl rfl) ?_;refine zo rfl rfl rfl rfl rfl rfl rfl zey yG ?_;refine A0 aO ?_;refine CNIR ?_;exact h.1):A:=t ⟨h⟩
theorem qbr (h:C) (t:Hid C→A:=by intro h;refine G0 mO ?_;refine G0 (zI (i:=0) rfl rfl rfl rfl yh zaW yd) ?_;refine qax ?_;exact h.1):A:=t ⟨h⟩
theorem qbs (h:C) (t:Hid C→A:=by intro h;refine CQR ?_;refine qay ?_;refine qag ?_;refine CN ?_;exact h.1):A:=t ⟨h⟩
theorem qbt (h:C) (t:Hid C→A:=by intro h;refine A0 (zW (T:=i64T) (xs:=[_]) rfl zcJ zfm yz rfl rfl) ?_;refine zo rfl rfl rfl rfl rfl rfl rfl zfm yE ?_;exact h.1):A:=t ⟨h⟩
theorem qbu (h:C) (t:Hid C→A:=by intro h;refine X0 (zh rfl rfl ty_5) ?_;refine X0 (g_cv32 rfl (ui_31) (us_5) rfl) ?_;exact h.1):A:=t ⟨h⟩
theorem qbv (h:C) (t:Hid C→A:=by intro h;refine A0 (zW (T:=zt) (xs:=[_]) rfl zbS zdC yz rfl rfl) ?_;exact h.1):A:=t ⟨h⟩
theorem qbw (h:C) (t:Hid C→A:=by intro h;refine A0 (oLs rfl rfl rfl zT) ?_;exact h.1):A:=t ⟨h⟩
theorem qbx (h:C) (t:Hid C→A:=by intro h;refine A0 (g_quo rfl rfl rfl ybz (by first|decide|omega) rfl) ?_;exact h.1):A:=t ⟨h⟩
theorem qby (h:C) (t:Hid C→A:=by intro h;refine A1 (oFp zeu) ?_;refine A1 (oLb zfh zk5) ?_;exact h.1):A:=t ⟨h⟩
theorem qbz (h:C) (t:Hid C→A:=by intro h;refine qaE ?_;refine qae ?_;refine qaC ?_;refine G3 ?_;refine G3 ?_;refine G3 ?_;refine G2 ?_;refine G0 oK ?_;refine qa6 ?_;exact h.1):A:=t ⟨h⟩
theorem qb0 (h:C) (t:Hid C→A:=by intro h;refine A0 (oLs rfl rfl rfl zdM) ?_;exact h.1):A:=t ⟨h⟩
theorem qb1 (h:C) (t:Hid C→A:=by intro h;refine qab ?_;refine A0 e32 ?_;refine A0 aO ?_;refine A0 aX ?_;refine A0 aX ?_;exact h.1):A:=t ⟨h⟩
theorem qb2 (h:C) (t:Hid C→A:=by intro h;refine CNQQR ?_;refine qa9 ?_;exact h.1):A:=t ⟨h⟩
theorem qb3 (h:C) (t:Hid C→A:=by intro h;refine CNIR ?_;refine qak ?_;exact h.1):A:=t ⟨h⟩
theorem qb4 (h:C) (t:Hid C→A:=by intro h;refine G0 mV ?_;refine G0 (oCl (zrT _ _) rfl fn_197 yf) ?_;exact h.1):A:=t ⟨h⟩
theorem qb5 (h:C) (t:Hid C→A:=by intro h;refine qaJ ?_;refine CD mixed ?_;exact h.1):A:=t ⟨h⟩
theorem qb6 (h:C) (t:Hid C→A:=by intro h;refine A0 aV ?_;refine qad ?_;exact h.1):A:=t ⟨h⟩
theorem qb7 (h:C) (t:Hid C→A:=by intro h;refine X0 mV ?_;refine X0 mV ?_;exact h.1):A:=t ⟨h⟩
theorem qb8 (h:C) (t:Hid C→A:=by intro h;refine zg rfl rfl rfl rfl rfl (Lens.self _) za4 rfl ?_;exact h.1):A:=t ⟨h⟩
theorem qb9 (h:C) (t:Hid C→A:=by intro h;refine CQQR ?_;refine qai ?_;exact h.1):A:=t ⟨h⟩
theorem qbA (h:C) (t:Hid C→A:=by intro h;refine A0 (zaZ rfl rfl zdO) ?_;exact h.1):A:=t ⟨h⟩
theorem qbB (h:C) (t:Hid C→A:=by intro h;refine A0 (zh rfl rfl ty_3) ?_;exact h.1):A:=t ⟨h⟩
theorem qbC (h:C) (t:Hid C→A:=by intro h;refine A0 (zhL rfl (ui_5) (us_28) rfl) ?_;exact h.1):A:=t ⟨h⟩
theorem qbD (h:C) (t:Hid C→A:=by intro h;refine A0 (zW (T:=zal) (xs:=[_]) rfl zeq zfk yz rfl rfl) ?_;exact h.1):A:=t ⟨h⟩
theorem qbE (h:C) (t:Hid C→A:=by intro h;refine qaM ?_;refine xd ?_;refine qap ?_;exact h.1):A:=t ⟨h⟩
theorem qbF (h:C) (t:Hid C→A:=by intro h;refine CSIR ?_;refine qan ?_;exact h.1):A:=t ⟨h⟩
theorem qbG (h:C) (t:Hid C→A:=by intro h;refine A0 (zaZ rfl rfl zsk) ?_;exact h.1):A:=t ⟨h⟩
theorem qbH (h:C) (t:Hid C→A:=by intro h;refine qat ?_;refine qac ?_;exact h.1):A:=t ⟨h⟩
theorem qbI (h:C) (t:Hid C→A:=by intro h;refine zP zjW rfl rfl rfl rfl ?_;exact h.1):A:=t ⟨h⟩
theorem qbJ (h:C) (t:Hid C→A:=by intro h;refine A0 (zlV rfl rfl zc8 rfl rfl) ?_;exact h.1):A:=t ⟨h⟩
theorem qbK (h:C) (t:Hid C→A:=by intro h;refine A0 aO ?_;refine CN ?_;exact h.1):A:=t ⟨h⟩
theorem qbL (h:C) (t:Hid C→A:=by intro h;refine CSQR ?_;refine qa9 ?_;exact h.1):A:=t ⟨h⟩
theorem qbM (h:C) (t:Hid C→A:=by intro h;refine X0 (oFp zdU) ?_;refine X0 (oFp zah) ?_;exact h.1):A:=t ⟨h⟩
theorem qbN (h:C) (t:Hid C→A:=by intro h;refine A0 (oFp zdm) ?_;refine A0 (oLb zat ty_3) ?_;exact h.1):A:=t ⟨h⟩
theorem qbO (h:C) (t:Hid C→A:=by intro h;refine qaf ?_;refine A0 aL ?_;exact h.1):A:=t ⟨h⟩
theorem qbP (h:C) (t:Hid C→A:=by intro h;refine A0 zec ?_;refine CN ?_;exact h.1):A:=t ⟨h⟩
theorem qbQ (h:C) (t:Hid C→A:=by intro h;refine CE ?_;refine CQR ?_;exact h.1):A:=t ⟨h⟩
theorem qbR (h:C) (t:Hid C→A:=by intro h;refine A0 aV ?_;refine qa2 ?_;exact h.1):A:=t ⟨h⟩
theorem qbS (h:C) (t:Hid C→A:=by intro h;refine zcj 2 1 3 rfl rfl rfl rfl rfl rfl ?_;exact h.1):A:=t ⟨h⟩
theorem qbT (h:C) (t:Hid C→A:=by intro h;refine A0 (zkO rfl rfl yb) ?_;exact h.1):A:=t ⟨h⟩
theorem qbU (h:C) (t:Hid C→A:=by intro h;refine A0 (zh rfl rfl zbg) ?_;refine zP zje rfl rfl rfl rfl ?_;exact h.1):A:=t ⟨h⟩
theorem qbV (h:C) (t:Hid C→A:=by intro h;refine G0 oK ?_;refine GK.nil ?_;exact h.1):A:=t ⟨h⟩
theorem qbW (h:C) (t:Hid C→A:=by intro h;refine qaj ?_;refine qai ?_;exact h.1):A:=t ⟨h⟩
theorem qbX (h:C) (t:Hid C→A:=by intro h;refine CNQR ?_;refine qa9 ?_;exact h.1):A:=t ⟨h⟩
theorem qbY (h:C) (t:Hid C→A:=by intro h;refine G0 (zlU rfl rfl rfl) ?_;exact h.1):A:=t ⟨h⟩
theorem qbZ (h:C) (t:Hid C→A:=by intro h;refine CSIR ?_;refine qak ?_;exact h.1):A:=t ⟨h⟩
theorem qca (h:C) (t:Hid C→A:=by intro h;refine zg rfl rfl rfl rfl rfl (Lens.self _) zdM rfl ?_;exact h.1):A:=t ⟨h⟩
theorem qcb (h:C) (t:Hid C→A:=by intro h;refine qao ?_;refine CN ?_;exact h.1):A:=t ⟨h⟩
theorem qcc (h:C) (t:Hid C→A:=by intro h;refine CE ?_;refine qaq ?_;exact h.1):A:=t ⟨h⟩
theorem qcd (h:C) (t:Hid C→A:=by intro h;refine X0 (zW (T:=(bsl u8T)) (xs:=[_,_,_]) rfl zix zjt ⟨rfl,rfl,rfl,rfl,rfl,rfl,trivial⟩ rfl rfl) ?_;exact h.1):A:=t ⟨h⟩
theorem qce (h:C) (t:Hid C→A:=by intro h;refine CSQQR ?_;refine qa9 ?_;exact h.1):A:=t ⟨h⟩
theorem qcf (h:C) (t:Hid C→A:=by intro h;refine CQR ?_;refine qaJ ?_;refine qaH ?_;refine G0 mR ?_;refine G0 (zke rfl rfl) ?_;refine G0 (oFr zgu zff) ?_;refine G0 (oFr zah zE) ?_;exact h.1):A:=t ⟨h⟩
theorem qcg (h:C) (t:Hid C→A:=by intro h;refine qa0 ?_;refine qad ?_;exact h.1):A:=t ⟨h⟩
theorem qch (h:C) (t:Hid C→A:=by intro h;refine qaa ?_;refine qaa ?_;refine G2 ?_;refine G1 oK ?_;refine G0 oK ?_;refine qa6 ?_;exact h.1):A:=t ⟨h⟩
theorem qci (h:C) (t:Hid C→A:=by intro h;refine A0 aV ?_;refine CNR ?_;exact h.1):A:=t ⟨h⟩
theorem qcj (h:C) (t:Hid C→A:=by intro h;refine qab ?_;refine A0 aO ?_;refine A0 aX ?_;exact h.1):A:=t ⟨h⟩
theorem qck (h:C) (t:Hid C→A:=by intro h;refine A0 (zW (T:=(bsl u8T)) (xs:=[_,_]) rfl zix zjt yaJ rfl rfl) ?_;exact h.1):A:=t ⟨h⟩
theorem qcl (h:C) (t:Hid C→A:=by intro h;refine qaM ?_;refine qau ?_;refine qag ?_;exact h.1):A:=t ⟨h⟩
theorem qcm (h:C) (t:Hid C→A:=by intro h;refine X0 (oLs rfl rfl rfl zV) ?_;exact h.1):A:=t ⟨h⟩
theorem qcn (h:C) (t:Hid C→A:=by intro h;refine A0 aV ?_;refine CNB ?_;exact h.1):A:=t ⟨h⟩
theorem qco (h:C) (t:Hid C→A:=by intro h;refine qa9 ?_;refine A0 za1 ?_;exact h.1):A:=t ⟨h⟩
theorem qcp (h:C) (t:Hid C→A:=by intro h;refine A0 (oLs rfl rfl rfl za4) ?_;exact h.1):A:=t ⟨h⟩
theorem qcq (h:C) (t:Hid C→A:=by intro h;refine X0 (zdT rfl rfl rfl) ?_;exact h.1):A:=t ⟨h⟩
theorem qcr (h:C) (t:Hid C→A:=by intro h;refine X0 yaO ?_;exact h.1):A:=t ⟨h⟩
theorem qcs (h:C) (t:Hid C→A:=by intro h;refine CQR ?_;refine A0 mX ?_;refine A0 aX ?_;refine CN ?_;exact h.1):A:=t ⟨h⟩
theorem qct (h:C) (t:Hid C→A:=by intro h;refine X0 mO ?_;refine X0 mV ?_;exact h.1):A:=t ⟨h⟩
theorem qcu (h:C) (t:Hid C→A:=by intro h;refine X0 (zkf (T:=sl u8T) (S:=bsl u8T) (zb7 (zF (zmm _ 4 yp)) rfl fn_112 yf rfl)) ?_;exact h.1):A:=t ⟨h⟩
theorem qcv (h:C) (t:Hid C→A:=by intro h;refine zP zo2 rfl rfl rfl rfl ?_;exact h.1):A:=t ⟨h⟩
theorem qcw (h:C) (t:Hid C→A:=by intro h;refine A0 (zh rfl rfl zeU) ?_;refine zP ze_123 rfl rfl rfl rfl ?_;refine zg rfl rfl rfl rfl rfl (Lens.self _) zeU rfl ?_;exact h.1):A:=t ⟨h⟩
theorem qcx (h:C) (t:Hid C→A:=by intro h;refine A3 ?_;refine A3 ?_;refine A3 ?_;refine A3 ?_;exact h.1):A:=t ⟨h⟩
theorem qcy (h:C) (t:Hid C→A:=by intro h;refine X0 (zlV rfl rfl zc8 rfl rfl) ?_;exact h.1):A:=t ⟨h⟩
theorem qcz (h:C) (t:Hid C→A:=by intro h;refine qaM ?_;refine A0 aV ?_;refine qah ?_;refine qaQ ?_;exact h.1):A:=t ⟨h⟩
theorem qc0 (h:C) (t:Hid C→A:=by intro h;refine X0 mX ?_;refine X0 yR ?_;exact h.1):A:=t ⟨h⟩
theorem qc1 (h:C) (t:Hid C→A:=by intro h;refine A2 ?_;refine qaZ ?_;exact h.1):A:=t ⟨h⟩
theorem qc2 (h:C) (t:Hid C→A:=by intro h;refine qa6 ?_;refine qaH ?_;refine G0 mV ?_;refine G0 zcm ?_;refine G0 mV ?_;exact h.1):A:=t ⟨h⟩
theorem qc3 (h:C) (t:Hid C→A:=by intro h;refine X0 mV ?_;refine X0 (oCl (zrT _ _) rfl fn_197 yf) ?_;exact h.1):A:=t ⟨h⟩
theorem qc4 (h:C) (t:Hid C→A:=by intro h;refine A0 (oLs rfl rfl rfl zbg) ?_;exact h.1):A:=t ⟨h⟩
theorem qc5 (h:C) (t:Hid C→A:=by intro h;refine A0 zcm ?_;refine CN ?_;exact h.1):A:=t ⟨h⟩
theorem qc6 (h:C) (t:Hid C→A:=by intro h;refine A0 (zbj rfl rfl rfl zd9 yj) ?_;refine A0 (zh rfl rfl zbI) ?_;refine zP ze_120 rfl rfl rfl rfl ?_;exact h.1):A:=t ⟨h⟩
theorem qc7 (h:C) (t:Hid C→A:=by intro h;refine A0 (oFp zbB) ?_;refine A0 (oLb zbY zdN) ?_;exact h.1):A:=t ⟨h⟩
theorem qc8 (h:C) (t:Hid C→A:=by intro h;refine CNQ ?_;refine zej (d:=1) rfl rfl (Lens.self _) ?_;exact h.1):A:=t ⟨h⟩
theorem qc9 (h:C) (t:Hid C→A:=by intro h;refine A0 (oFp zgt) ?_;refine A0 (oLb zfg zV) ?_;exact h.1):A:=t ⟨h⟩
theorem qcA (h:C) (t:Hid C→A:=by intro h;refine A0 (zaZ rfl rfl zkb) ?_;exact h.1):A:=t ⟨h⟩
theorem qcB (h:C) (t:Hid C→A:=by intro h;refine qaG ?_;refine G1 zbK ?_;refine G1 oK ?_;refine G0 oK ?_;refine qa6 ?_;exact h.1):A:=t ⟨h⟩
theorem qcC (h:C) (t:Hid C→A:=by intro h;refine A0 zct ?_;refine CN ?_;exact h.1):A:=t ⟨h⟩
theorem qcD (h:C) (t:Hid C→A:=by intro h;refine CNIR ?_;refine qan ?_;exact h.1):A:=t ⟨h⟩
theorem qcE (h:C) (t:Hid C→A:=by intro h;refine A0 (oFp zdl) ?_;refine A0 (oLb zda zhZ) ?_;exact h.1):A:=t ⟨h⟩
theorem qcF (h:C) (t:Hid C→A:=by intro h;refine G1 (oFp zcM) ?_;refine G1 (oLb zen zh0) ?_;exact h.1):A:=t ⟨h⟩
theorem qcG (h:C) (t:Hid C→A:=by intro h;refine A0 aX ?_;refine CNQR ?_;refine A0 mX ?_;refine qaT ?_;exact h.1):A:=t ⟨h⟩
theorem qcH (h:C) (t:Hid C→A:=by intro h;refine A0 aV ?_;refine CNQQR ?_;exact h.1):A:=t ⟨h⟩
theorem qcI (h:C) (t:Hid C→A:=by intro h;refine A2 ?_;refine A2 ?_;exact h.1):A:=t ⟨h⟩
theorem qcJ (h:C) (t:Hid C→A:=by intro h;refine CQR ?_;refine qah ?_;exact h.1):A:=t ⟨h⟩
theorem qcK (h:C) (t:Hid C→A:=by intro h;refine qaD ?_;refine qaH ?_;exact h.1):A:=t ⟨h⟩
theorem qcL (h:C) (t:Hid C→A:=by intro h;refine X0 (zkf (T:=sl u8T) (S:=bsl u8T) (zW (T:=u8T) (xs:=[_]) rfl zch zaf yz rfl rfl)) ?_;exact h.1):A:=t ⟨h⟩
theorem qcM (h:C) (t:Hid C→A:=by intro h;refine qal ?_;refine X0 mV ?_;exact h.1):A:=t ⟨h⟩
theorem qcN (h:C) (t:Hid C→A:=by intro h;refine CQR ?_;refine A0 mC ?_;exact h.1):A:=t ⟨h⟩
theorem qcO (h:C) (t:Hid C→A:=by intro h;refine qaN ?_;refine qaA ?_;refine qad ?_;exact h.1):A:=t ⟨h⟩
theorem qcP (h:C) (t:Hid C→A:=by intro h;refine A0 (zaZ rfl rfl zlL) ?_;exact h.1):A:=t ⟨h⟩
theorem qcQ (h:C) (t:Hid C→A:=by intro h;refine zcA rfl rfl rfl rfl rfl rfl zfm yE ?_;refine qbd ?_;refine qa9 ?_;refine qbt ?_;exact h.1):A:=t ⟨h⟩
theorem qcR (h:C) (t:Hid C→A:=by intro h;refine zP ze_33 rfl rfl rfl rfl ?_;exact h.1):A:=t ⟨h⟩
theorem qcS (h:C) (t:Hid C→A:=by intro h;refine qay ?_;refine qay ?_;exact h.1):A:=t ⟨h⟩
theorem qcT (h:C) (t:Hid C→A:=by intro h;refine qac ?_;refine qac ?_;exact h.1):A:=t ⟨h⟩
theorem qcU (h:C) (t:Hid C→A:=by intro h;refine CQR ?_;refine qaj ?_;refine qbh ?_;refine A0 (za9 rfl rfl rfl isl_78) ?_;refine qad ?_;refine zaM rfl ?_;exact h.1):A:=t ⟨h⟩
end
set_option maxRecDepth 20000
theorem zsl (x:Int):Tells P 255 [.val i64T x] (.val zu false):=by
 refine zc Tryz.func255 rfl rfl rfl (fun ext w hext=>?_);refine ze (d:=0) rfl zab (fun hin0=>?_);refine CQR ?_;refine qbW ?_;refine A0 zeb ?_;refine qad ?_;exact za rfl rfl (zcL (by simp[Fr.set]))
def zg7 (x y:Int):Int:=if x<y then -1 else if y<x then 1 else 0
theorem cmpInt_ok (x y:Int):Tells P 243 [.val i64T x,.val i64T y] (.val i64T (zg7 x y)):=by
 refine zc Tryz.func243 rfl rfl rfl (fun ext w hext=>?_);refine ze (d:=0) rfl zab (fun hin0=>?_);refine ze (d:=1) rfl zab (fun hin1=>?_);refine CQR ?_;refine qaS ?_;refine A0 (oCl (zsl _) rfl fn_255 ye) ?_;refine qaS ?_;refine A0 (oCl (zsl _) rfl fn_255 ye) ?_;refine qah ?_;refine CN ?_;refine Cg ?_;refine qce ?_;refine CN ?_;refine Cg ?_;refine CSQQR ?_;refine qai ?_;refine qa1 ?_;refine zk (p:=x<y) rfl (rfl) (fun ht16=>?_) (fun ht16=>?_)
 ·
  refine qaq ?_;exact za rfl rfl (zb rfl y9)
 refine CSQQR ?_;refine qai ?_;refine qc5 ?_;refine zk (p:=y<x) rfl (rfl) (fun ht19=>?_) (fun ht19=>?_)
 ·
  refine qaq ?_;exact za rfl rfl (zb rfl y9)
 refine CSQR ?_;refine qad ?_;exact za rfl rfl (zb rfl y9)
def idx {α:Type} (p:α→Bool):List α→Int
  | []=>-1
  | x::l=>if p x then 0 else if idx p l<0 then -1 else idx p l+1
def shift (k:Nat) (n:Int):Int:=if n<0 then -1 else n+k
theorem zgZ {α:Type} (p:α→Bool):∀l,-1≤idx p l
  | []=>by simp[idx]
  | x::l=>by have:=zgZ p l;unfold idx;split<;>first|omega|(split<;>omega)
theorem zia {α:Type} {p:α→Bool} {l:List α} {k:Nat} {x:α} (h:l[k]?=some x) (hp:p x=true):shift k (idx p (l.drop k))=k:=by
  obtain⟨hk,rfl⟩:=ul.1 h;rw[List.drop_eq_getElem_cons hk];simp[idx,hp,shift]
theorem zlN {α:Type} {p:α→Bool} {l:List α} {k:Nat} {x:α} (h:l[k]?=some x) (hp:¬p x=true):shift k (idx p (l.drop k))=shift (k+1) (idx p (l.drop (k+1))):=by
  obtain⟨hk,rfl⟩:=ul.1 h;rw[List.drop_eq_getElem_cons hk];have h2:=zgZ p (l.drop (k+1));simp only[idx,ur hp];generalize idx p (l.drop (k+1))=n at *;unfold shift;by_cases c:n<0
  · rw[ut c,ut c];rfl
  rw[ur c,ur c,ur ya];omega
theorem zeP {α:Type} (p:α→Bool) (l:List α):idx p l=shift 0 (idx p (l.drop 0)):=by
  have:=zgZ p l
  unfold shift;simp only[List.drop_zero]
  split<;>omega
theorem zib {α:Type} {p:α→Bool} {l:List α} {k:Nat} (h:l.length≤k):shift k (idx p (l.drop k)) = -1:=by
  rw[List.drop_of_length_le h];simp[idx,shift]
theorem zlO {α:Type} (p:α→Bool):∀l,decide (0≤idx p l)=l.any p
  | []=>by simp[idx]
  | x::l=>by
    have ih:=zlO p l
    have:=zgZ p l
    rw[List.any_cons,←ih];by_cases c:p x=true
    · simp[idx,c]
    simp only[idx,ur c,Bool.not_eq_true] at *;rw[c,Bool.false_or,uo]
    split<;>omega
theorem zaX {α:Type} [DecidableEq α] {l m:List α} {k:Nat} {x y:α} (hx:l[k]?=some x) (hy:m[k]?=some y) (h:l.take k=m.take k) (e:x=y):l.take (k+1)=m.take (k+1):=by
  rw[un,un,h,hx,hy,e]
theorem zde {α:Type} {l m:List α} {k:Nat} {x y:α} (hx:l[k]?=some x) (hy:m[k]?=some y) (e:¬x=y):¬l=m:=fun h=>e (by rw[h,hy] at hx;injection hx with hx;exact hx.symm)
theorem zoo (l:List Coin) (p:Coin→Bool):Tells P 248 [.val (bsl zal) l,.fn1 P zal zu p] (.val i64T (idx p l)):=by
 refine zc Tryz.func248 rfl rfl rfl (fun ext w hext=>?_);refine ze (d:=0) rfl zm (fun hsl0=>?_);refine qcJ ?_;refine qcP ?_;refine qbp ?_;refine Lp (ι:=Nat) 0 (fun (k:Nat)=>(((((Fr.none).set 0 (.val (bsl zal) l)).set 1 (.fn1 P zal zu p)).set 6 (.val (bsl zal) l)).set 7 (.val i64T (l.length:Int))).set 8 (.val i64T (k:Int))) (fun (k:Nat)=>Hp.none) (fun (k:Nat)=>k≤l.length∧idx p l=shift k (idx p (l.drop k))) (fun (k:Nat)=>l.length-k) (0) (⟨uf _,zeP p l⟩) ?_;intro k hinv;refine qas ?_;refine Cf (p:=k<l.length) (fun ht9=>?_) (fun ht9=>?_)
 ·
  obtain⟨x,hx⟩:∃x,l[k]?=some x:=ya0;refine qbe ?_;refine qaj ?_;refine A0 mF ?_;refine qai ?_;refine A0 (zbj rfl rfl rfl zeq yj) ?_;refine A0 (zh rfl rfl zd4) ?_;refine qbT ?_;refine CN ?_;refine zk (p:=p x=true) rfl yx (fun ht16=>?_) (fun ht16=>?_)
  ·
   refine qcg ?_;exact za rfl rfl (zb rfl (hinv.2.trans (zia hx ht16)).symm)
  refine qbF ?_;exact Nx (k+1) (⟨by omega,hinv.2.trans (zlN hx ht16)⟩) ya
 refine qcc ?_;exact za rfl rfl (zb rfl (hinv.2.trans (zib ya)).symm)
theorem zkw (l:List Coin) (p:Coin→Bool):Tells P 222 [.val (bsl zal) l,.fn1 P zal zu p] (.val zu (l.any p)):=by
 refine zc Tryz.func222 rfl rfl rfl (fun ext w hext=>?_);refine ze (d:=0) rfl zm (fun hsl0=>?_);refine CQR ?_;refine qaS ?_;refine A0 mF ?_;refine A0 (oCl (zoo _ _) rfl fn_248 ⟨yl,(z8 rfl rfl),trivial⟩) ?_;refine A0 zec ?_;refine qad ?_;exact za rfl rfl (zb rfl (zlO p l))
theorem zpN (l:List Out) (p:Out→Bool):Tells P 247 [.val (bsl outT) l,.fn1 P outT zu p] (.val i64T (idx p l)):=by
 refine zc Tryz.func247 rfl rfl rfl (fun ext w hext=>?_);refine ze (d:=0) rfl zm (fun hsl0=>?_);refine qcJ ?_;refine A0 (zaZ rfl rfl zgY) ?_;refine qbp ?_;refine Lp (ι:=Nat) 0 (fun (k:Nat)=>(((((Fr.none).set 0 (.val (bsl outT) l)).set 1 (.fn1 P outT zu p)).set 6 (.val (bsl outT) l)).set 7 (.val i64T (l.length:Int))).set 8 (.val i64T (k:Int))) (fun (k:Nat)=>Hp.none) (fun (k:Nat)=>k≤l.length∧idx p l=shift k (idx p (l.drop k))) (fun (k:Nat)=>l.length-k) (0) (⟨uf _,zeP p l⟩) ?_;intro k hinv;refine qas ?_;refine Cf (p:=k<l.length) (fun ht9=>?_) (fun ht9=>?_)
 ·
  obtain⟨x,hx⟩:∃x,l[k]?=some x:=ya0;refine qbe ?_;refine qaj ?_;refine A0 mF ?_;refine qai ?_;refine A0 (zbj rfl rfl rfl zeX yj) ?_;refine A0 (zh rfl rfl zeU) ?_;refine qbT ?_;refine CN ?_;refine zk (p:=p x=true) rfl yx (fun ht16=>?_) (fun ht16=>?_)
  ·
   refine qcg ?_;exact za rfl rfl (zb rfl (hinv.2.trans (zia hx ht16)).symm)
  refine qbF ?_;exact Nx (k+1) (⟨by omega,hinv.2.trans (zlN hx ht16)⟩) ya
 refine qcc ?_;exact za rfl rfl (zb rfl (hinv.2.trans (zib ya)).symm)
theorem zmf (l:List Out) (p:Out→Bool):Tells P 221 [.val (bsl outT) l,.fn1 P outT zu p] (.val zu (l.any p)):=by
 refine zc Tryz.func221 rfl rfl rfl (fun ext w hext=>?_);refine ze (d:=0) rfl zm (fun hsl0=>?_);refine CQR ?_;refine qaS ?_;refine A0 mF ?_;refine A0 (oCl (zpN _ _) rfl fn_247 ⟨yl,(z8 rfl rfl),trivial⟩) ?_;refine A0 zec ?_;refine qad ?_;exact za rfl rfl (zb rfl (zlO p l))
theorem zg8 (l:List Coin) (hl:l.length*56≤140737488355328∧l.length≤9223372036854775807):Tells P 140 [.val (bsl zal) l] (.fresh 180 zal l):=by
 refine zc Tryz.func140 rfl rfl rfl (fun ext w hext=>?_);refine ze (d:=0) rfl zm (fun hsl0=>?_);refine qaB ?_;refine qb2 ?_;refine zfy rfl rfl rfl rfl rfl zlL (fun c4 hc4=>?_);refine CN ?_;refine zk (p:=c4=true) rfl yx (fun ht4=>?_) (fun ht4=>?_)
 ·
  obtain rfl:=hc4 ht4;refine qaB ?_;refine CN ?_;exact za rfl rfl (zr rfl)
 refine CSQR ?_;refine zbk (T:=zal) (xs:=[]) rfl rfl rfl rfl zeq zfk trivial rfl rfl ?_;refine qa9 ?_;refine zo rfl rfl rfl rfl rfl rfl rfl zfk yaC ?_;refine qbK ?_;exact za rfl rfl (zf rfl rfl yx)
theorem ext_bcmp:ExtAt P 254 Extern.BytealgCompare.compare:=⟨_,rfl,rfl,rfl,rfl,rfl⟩
def orL:List Int→Int
  | []=>0
  | x::l=>if x=0 then orL l else x
theorem orL_step {l:List Int} {k:Nat} {x:Int} (h:l[k]?=some x) (e:¬x≠0):orL (l.drop k)=orL (l.drop (k+1)):=by
  obtain⟨hk,rfl⟩:=ul.1 h;rw[List.drop_eq_getElem_cons hk];simp[orL,ua e]
theorem orL_hit {l:List Int} {k:Nat} {x:Int} (h:l[k]?=some x) (e:x≠0):orL (l.drop k)=x:=by
  obtain⟨hk,rfl⟩:=ul.1 h;rw[List.drop_eq_getElem_cons hk];simp[orL,e]
theorem orInt (l:List Int):Tells P 62 [.val (bsl i64T) l] (.val i64T (orL l)):=by
 refine zc Tryz.func62 rfl rfl rfl (fun ext w hext=>?_);refine ze (d:=0) rfl zm (fun hsl0=>?_);refine CQR ?_;refine qaj ?_;refine qah ?_;refine qcA ?_;refine qbp ?_;refine Lp (ι:=Nat) 0 (fun (k:Nat)=>((((Fr.none).set 3 (.val i64T 0)).set 6 (.val (bsl i64T) l)).set 7 (.val i64T (l.length:Int))).set 8 (.val i64T (k:Int))) (fun (k:Nat)=>Hp.none) (fun (k:Nat)=>k≤l.length∧orL l=orL (l.drop k)) (fun (k:Nat)=>l.length-k) (0) (⟨uf _,rfl⟩) ?_;intro k hinv;refine qas ?_;refine Cf (p:=k<l.length) (fun ht9=>?_) (fun ht9=>?_)
 ·
  obtain⟨x,hx⟩:∃x,l[k]?=some x:=ya0;refine CSQBQR ?_;refine A0 (zbj rfl rfl rfl zcJ yj) ?_;refine qbB ?_;refine A0 aX ?_;refine CNQR ?_;refine A0 mX ?_;refine qa9 ?_;refine qaT ?_;refine zk (p:=x≠0) rfl yF (fun ht14=>?_) (fun ht14=>?_)
  ·
   refine qcs ?_;exact za rfl rfl (zb rfl (hinv.2.trans (orL_hit hx ht14)).symm)
  refine qbF ?_;exact Nx (k+1) (⟨by omega,hinv.2.trans (orL_step hx ht14)⟩) ya
 refine CE ?_;refine qcg ?_;exact za rfl rfl (zb rfl (by rw[hinv.2,List.drop_of_length_le ya];rfl))
theorem bcompare (a b:List UInt8):Tells P 242 [.val (bsl u8T) a,.val (bsl u8T) b] (.val i64T (Lib.compareBytes a b)):=by
 refine zc Tryz.func242 rfl rfl rfl (fun ext w hext=>?_);refine ze (d:=0) rfl zm (fun hsl0=>?_);refine ze (d:=1) rfl zm (fun hsl1=>?_);refine CQR ?_;refine qbW ?_;refine A0 (g_bcmp rfl ext_bcmp rfl rfl) ?_;refine A0 aX ?_;refine CN ?_;exact za rfl rfl yy
def zaI (a b:In):Int:=orL [Lib.compareBytes a.tx b.tx,zg7 a.i b.i]
theorem zn6 (a b:In):Tells P 215 [.val inT a,.val inT b] (.val i64T (zaI a b)):=by
 refine zc Tryz.func215 rfl rfl rfl (fun ext w hext=>?_);refine qaw ?_;refine qb5 ?_;refine G0 (oFp zcH) ?_;refine G0 (zlW rfl rfl zc8 rfl rfl) ?_;refine G0 (oFp zcH) ?_;refine G0 (zlW rfl rfl zc8 rfl rfl) ?_;refine G0 (oCl (bcompare _ _) rfl fn_242 ⟨(by exact arg_vw rfl rfl zd0),(by exact arg_vw rfl rfl zd0),trivial⟩) ?_;refine G0 (oFp zbm) ?_;refine G0 (oLb zeo ty_3) ?_;refine G0 (oFp zbm) ?_;refine G0 (oLb zeo ty_3) ?_;refine G0 (oCl (cmpInt_ok _ _) rfl fn_243 yf) ?_;refine G0 (zW (T:=i64T) (xs:=[_,_]) rfl zcJ zfm yaJ rfl rfl) ?_;refine G0 (oCl (orInt _) rfl fn_62 ye) ?_;refine qa6 ?_;exact za rfl rfl yy
theorem zcB {p:Nat→Bool} {k:Nat} (h:(List.range k).all p=true) (hk:p k=true):(List.range (k+1)).all p=true:=by
  rw[List.range_succ,List.all_append,h];simp[hk]
theorem zd3 {p:Nat→Bool} {k n:Nat} (hk:k<n) (h:p k=false):(List.range n).all p=false:=by
  rw[List.all_eq_false];exact⟨k,by simpa using hk,by simp[h]⟩
def zfu (c:Coin):Bool:=decide (0≤c.inn.i∧c.inn.i<3∧1≤c.out.v∧c.out.v≤1099511627776∧0≤c.out.to∧c.out.to≤255)
def zg6 (p:List Coin) (k:Nat):Bool:=match p[k]? with
  | none=>true
  | some c=>zfu c&&(match k with|0=>true|k+1=>match p[k]? with|none=>true|some b=>decide (zaI b.inn c.inn<0))
def zak (p:List Coin):Bool:=(List.range p.length).all (zg6 p)&&decide (p.length≤48)
theorem zbQ {p:List Coin} {k:Nat} {c:Coin} (h:p[k]?=some c) (hk:k<p.length) (hb:¬(0≤c.inn.i∧c.inn.i<3∧1≤c.out.v∧c.out.v≤1099511627776∧0≤c.out.to∧c.out.to≤255)):zak p=false:=by
  unfold zak;rw[zd3 hk (by unfold zg6 zfu;rw[h];simp only[uh hb,Bool.false_and]),Bool.false_and]
theorem zg5 {p:List Coin} {k:Nat} {b c:Coin} (h:p[k]?=some c) (hk:k<p.length) (h0:0<k) (hb:p[k-1]?=some b) (ho:¬zaI b.inn c.inn<0):zak p=false:=by
  unfold zak;obtain⟨m,rfl⟩:∃m,k=m+1:=⟨k-1,by omega⟩;simp only[Nat.add_sub_cancel] at hb;rw[zd3 hk (by unfold zg6;rw[h];simp only[hb,uh ho,Bool.and_false]),Bool.false_and]
theorem zfv {p:List Coin} {c:Coin} (h:p[0]?=some c) (hb:0≤c.inn.i∧c.inn.i<3∧1≤c.out.v∧c.out.v≤1099511627776∧0≤c.out.to∧c.out.to≤255):zg6 p 0=true:=by
  unfold zg6 zfu;rw[h];simp only[ui hb,Bool.and_self]
theorem zgy {p:List Coin} {k:Nat} {b c:Coin} (h:p[k]?=some c) (h0:0<k) (hb:p[k-1]?=some b) (ho:zaI b.inn c.inn<0) (hc:0≤c.inn.i∧c.inn.i<3∧1≤c.out.v∧c.out.v≤1099511627776∧0≤c.out.to∧c.out.to≤255):zg6 p k=true:=by
  obtain⟨m,rfl⟩:∃m,k=m+1:=⟨k-1,by omega⟩;simp only[Nat.add_sub_cancel] at hb;unfold zg6 zfu;rw[h];simp only[hb,ui ho,ui hc,Bool.and_self]
theorem may_ok (p:List Coin):Tells P 183 [.val (bsl zal) p] (.val zu (zak p)):=by
 refine zc Tryz.func183 rfl rfl rfl (fun ext w hext=>?_);refine ze (d:=0) rfl zm (fun hsl0=>?_);refine qcJ ?_;refine qcP ?_;refine qbp ?_;refine Lp (ι:=Nat) 0 (fun (k:Nat)=>((((Fr.none).set 0 (.val (bsl zal) p)).set 5 (.val (bsl zal) p)).set 6 (.val i64T (p.length:Int))).set 7 (.val i64T (k:Int))) (fun (k:Nat)=>Hp.none) (fun (k:Nat)=>k≤p.length∧(List.range k).all (zg6 p)=true) (fun (k:Nat)=>p.length-k) (0) (⟨uf _,rfl⟩) ?_;intro k hinv;refine qas ?_;refine Cf (p:=k<p.length) (fun ht8=>?_) (fun ht8=>?_)
 ·
  obtain⟨c,hc⟩:∃c,p[k]?=some c:=⟨_,ub ht8⟩;refine qbe ?_;refine A0 (zbj rfl rfl rfl zeq yj) ?_;refine A0 (zh rfl rfl zd4) ?_;refine zP zo3 rfl rfl rfl rfl ?_;refine A0 aV ?_;refine zg rfl rfl rfl rfl rfl (Lens.self _) zd4 rfl ?_;refine CNQQR ?_;refine A0 (oFp zbc) ?_;refine A0 (oFp zbm) ?_;refine A0 (oLb (zau.comp zeo) ty_3) ?_;refine A0 zbK ?_;refine qa9 ?_;refine Sp (d:=16) (p:=c.inn.i<0) (fun g16=>?_) (fun g16=>?_)
  ·
   refine qam ?_;refine qat ?_;refine qam ?_;refine qbH ?_;refine qaZ ?_;refine Ct ?_;refine qaq ?_;exact za rfl rfl (zb rfl (zbQ hc ht8 ya).symm)
  refine A1 (oFp zbc) ?_;refine A1 (oFp zbm) ?_;refine A1 (oLb (zau.comp zeo) ty_3) ?_;refine A1 zec ?_;refine qat ?_;refine Sp (d:=22) (p:=3≤c.inn.i) (fun g22=>?_) (fun g22=>?_)
  ·
   refine qam ?_;refine qat ?_;refine qam ?_;refine qar ?_;refine Ct ?_;refine qaq ?_;exact za rfl rfl (zb rfl (zbQ hc ht8 ya).symm)
  refine A1 (oFp zdf) ?_;refine A1 (oFp zb9) ?_;refine A1 (oLb (zbR.comp zdo) ty_3) ?_;refine A1 zbK ?_;refine qat ?_;refine Sp (d:=28) (p:=c.out.v<1) (fun g28=>?_) (fun g28=>?_)
  ·
   refine qam ?_;refine qbH ?_;refine qaZ ?_;refine Ct ?_;refine qaq ?_;exact za rfl rfl (zb rfl (zbQ hc ht8 ya).symm)
  refine A1 (oFp zdf) ?_;refine A1 (oFp zb9) ?_;refine A1 (oLb (zbR.comp zdo) ty_3) ?_;refine A1 zcm ?_;refine qat ?_;refine Sp (d:=34) (p:=1099511627776<c.out.v) (fun g34=>?_) (fun g34=>?_)
  ·
   refine qam ?_;refine qar ?_;refine Ct ?_;refine qaq ?_;exact za rfl rfl (zb rfl (zbQ hc ht8 ya).symm)
  refine A1 (oFp zdf) ?_;refine A1 (oFp zcV) ?_;refine A1 (oLb (zbR.comp zdL) ty_3) ?_;refine A1 zbK ?_;refine qat ?_;refine Sp (d:=40) (p:=c.out.to<0) (fun g40=>?_) (fun g40=>?_)
  ·
   refine qac ?_;refine qaZ ?_;refine Ct ?_;refine qaq ?_;exact za rfl rfl (zb rfl (zbQ hc ht8 ya).symm)
  refine A1 (oFp zdf) ?_;refine A1 (oFp zcV) ?_;refine A1 (oLb (zbR.comp zdL) ty_3) ?_;refine A1 zcm ?_;refine A0 oK ?_;refine Sp (d:=45) (p:=255<c.out.to) (fun g45=>?_) (fun g45=>?_)
  ·
   refine CN ?_;refine Ct ?_;refine qaq ?_;exact za rfl rfl (zb rfl (zbQ hc ht8 ya).symm)
  refine CN ?_;refine Cg ?_;refine CS ?_;refine qaH ?_;refine G0 mV ?_;refine G0 zcm ?_;refine G0 mV ?_;refine zaq (d:=48) (p:=0<k) rfl yr (fun g48=>?_) (fun g48=>?_)
  ·
   obtain⟨b,hb⟩:∃b,p[k-1]?=some b:=yq;refine G1 mV ?_;refine G1 mV ?_;refine G1 za1 ?_;refine G1 (zD (i:=k-1) rfl rfl rfl ya zeq yj) ?_;refine G1 (oFr zbc zau) ?_;refine G1 (zh rfl rfl zbI) ?_;refine G1 (oFp zbc) ?_;refine G1 (oLb zau zbI) ?_;refine G1 (oCl (zn6 _ _) rfl fn_215 ybF) ?_;refine G1 zec ?_;refine G0 oK ?_;refine zaq (d:=59) (p:=¬zaI b.inn c.inn<0) rfl yr (fun g59=>?_) (fun g59=>?_)
   ·
    refine GK.nil ?_;refine Ct ?_;refine qaq ?_;exact za rfl rfl (zb rfl (zg5 hc ht8 ya hb g59).symm)
   refine GK.nil ?_;refine Cg ?_;refine qbF ?_;exact Nx (k+1) (⟨by omega,zcB hinv.2 yaZ⟩) ya
  refine qaa ?_;refine G2 ?_;refine G2 ?_;refine qbV ?_;refine Cg ?_;refine qbF ?_;exact Nx (k+1) (⟨by omega,zcB hinv.2 yaZ⟩) ya
 refine CE ?_;refine qa0 ?_;refine qcP ?_;refine A0 zhK ?_;refine qad ?_;exact za rfl rfl (zb rfl yaY)
def zcs {α:Type} (f:α→Int) (l:List α):Int:=l.foldl (fun n x=>IntKind.i64.wrap (n+f x)) 0
theorem zmP {α:Type} {f:α→Int} {l:List α} {k:Nat} {x:α} (h:l[k]?=some x):zcs f (l.take (k+1))=IntKind.i64.wrap (zcs f (l.take k)+f x):=by
  unfold zcs;rw[un,h,List.foldl_append];rfl
theorem worthOut (l:List Out) (f:Out→Int):Tells P 226 [.val (bsl outT) l,.fn1 P outT i64T f] (.val i64T (zcs f l)):=by
 refine zc Tryz.func226 rfl rfl rfl (fun ext w hext=>?_);refine ze (d:=0) rfl zm (fun hsl0=>?_);refine CQR ?_;refine qaj ?_;refine qah ?_;refine A0 (zaZ rfl rfl zgY) ?_;refine qbp ?_;refine Lp (ι:=Nat) 0 (fun (k:Nat)=>(((((Fr.none).set 1 (.fn1 P outT i64T f)).set 5 (.val i64T (zcs f (l.take k)))).set 8 (.val (bsl outT) l)).set 9 (.val i64T (l.length:Int))).set 10 (.val i64T (k:Int))) (fun (k:Nat)=>Hp.none) (fun (k:Nat)=>k≤l.length) (fun (k:Nat)=>l.length-k) (0) (uf _) ?_;intro k hinv;refine qas ?_;refine Cf (p:=k<l.length) (fun ht11=>?_) (fun ht11=>?_)
 ·
  obtain⟨x,hx⟩:∃x,l[k]?=some x:=⟨_,ub ht11⟩;refine CSQBQR ?_;refine A0 (zbj rfl rfl rfl zeX yj) ?_;refine qcw ?_;refine CNR ?_;refine qa9 ?_;refine A0 mF ?_;refine A0 (oLs rfl rfl rfl zeU) ?_;refine A0 (zkO rfl rfl yl) ?_;refine A0 zbh ?_;refine A0 aV ?_;refine qcD ?_;refine zi (d:=5) rfl (zmP hx).symm ?_;exact Nx (k+1) ya ya
 refine CE ?_;refine qcg ?_;exact za rfl rfl (zb rfl yak)
theorem zr1 (o:Out):Tells P 227 [.val outT o] (.val i64T o.v):=by
 refine zc Tryz.func227 rfl rfl rfl (fun ext w hext=>?_);refine qaf ?_;refine qaj ?_;refine A0 (oFp zb9) ?_;refine A0 (oLb zdo ty_3) ?_;refine qad ?_;exact za rfl rfl yy
theorem outs_ok (t:Tx):Tells P 187 [.val txT t] (.val i64T (zcs (·.v) t.outs)):=by
 refine zc Tryz.func187 rfl rfl rfl (fun ext w hext=>?_);refine qaf ?_;refine qaj ?_;refine A0 (oFp zbd) ?_;refine A0 (oLb zaU zdp) ?_;refine A0 (oCl (worthOut _ _) rfl fn_226 ⟨yl,(by first|exact zdY (Cs:=[]) rfl fn_227 yJ trivial rfl (fun x=>zr1 _)|exact zdX (Cs:=[]) rfl fn_227 yJ trivial rfl (fun x y=>zr1 _)|exact zdZ rfl),trivial⟩) ?_;refine qad ?_;exact za rfl rfl yy
theorem zsc (id:Ab.Id) (c:Coin):Tells P 223 [.val zal c,.rptr idT id] (.val zu (decide (c.inn.tx=id))):=by
 refine zc Tryz.func223 rfl rfl rfl (fun ext w hext=>?_);refine qaf ?_;refine qaj ?_;refine A0 (oFp zbc) ?_;refine A0 (oFp zcH) ?_;refine A0 (oLb (zau.comp zd0) zT) ?_;refine A0 (zh rfl rfl zT) ?_;refine A0 (zfY rfl rfl rfl (zdw)) ?_;refine qad ?_;exact za rfl rfl yy
theorem made2_ok (a b:Coin):Tells P 225 [.val zal a,.val zal b] (.val i64T (zaI a.inn b.inn)):=by
 refine zc Tryz.func225 rfl rfl rfl (fun ext w hext=>?_);refine qaw ?_;refine qaj ?_;refine A0 (oFp zbc) ?_;refine A0 (oLb zau zbI) ?_;refine A0 (oFp zbc) ?_;refine A0 (oLb zau zbI) ?_;refine A0 (oCl (zn6 _ _) rfl fn_215 yf) ?_;refine qad ?_;exact za rfl rfl yy
theorem zpA (c:Coin) (x:In):Tells P 245 [.val zal c,.val inT x] (.val i64T (zaI c.inn x)):=by
 refine zc Tryz.func245 rfl rfl rfl (fun ext w hext=>?_);refine qaw ?_;refine qaj ?_;refine A0 (oFp zbc) ?_;refine A0 (oLb zau zbI) ?_;refine A0 (oLs rfl rfl rfl zbI) ?_;refine A0 (oCl (zn6 _ _) rfl fn_215 yf) ?_;refine qad ?_;exact za rfl rfl yy
theorem indexIn (l:List In) (v:In):Tells P 246 [.val (bsl inT) l,.val inT v] (.val i64T (idx (fun c=>decide (v=c)) l)):=by
 refine zc Tryz.func246 rfl rfl rfl (fun ext w hext=>?_);refine ze (d:=0) rfl zm (fun hsl0=>?_);refine qaf ?_;refine qah ?_;refine A0 (zaZ rfl rfl ze4) ?_;refine qbp ?_;refine Lp (ι:=Nat) 1 (fun (k:Nat)=>(((((Fr.none).set 0 (.val (bsl inT) l)).set 3 (.ptr 0 0)).set 6 (.val (bsl inT) l)).set 7 (.val i64T (l.length:Int))).set 8 (.val i64T (k:Int))) (fun (k:Nat)=>(Hp.none).set 0 (.box 120 inT v)) (fun (k:Nat)=>k≤l.length∧idx (fun c=>decide (v=c)) l=shift k (idx (fun c=>decide (v=c)) (l.drop k))) (fun (k:Nat)=>l.length-k) (0) (⟨uf _,zeP _ l⟩) ?_;intro k hinv;refine qas ?_;refine Cf (p:=k<l.length) (fun ht9=>?_) (fun ht9=>?_)
 ·
  obtain⟨x,hx⟩:∃x,l[k]?=some x:=ya0;refine qbe ?_;refine qb5 ?_;refine G0 (oLs rfl rfl rfl zbI) ?_;refine qbk ?_;refine G0 (zbj rfl rfl rfl zd9 yj) ?_;refine G0 (zh rfl rfl zbI) ?_;refine G0 (zfY rfl rfl rfl (zl6)) ?_;refine GK.nil ?_;refine zk (p:=decide (v=x)=true) rfl yx (fun ht16=>?_) (fun ht16=>?_)
  ·
   refine qcg ?_;exact za rfl rfl (zb rfl (hinv.2.trans (zia hx ht16)).symm)
  refine qbF ?_;exact Nx (k+1) (⟨by omega,hinv.2.trans (zlN hx ht16)⟩) ya
 refine qcc ?_;exact za rfl rfl (zb rfl (hinv.2.trans (zib ya)).symm)
theorem containsIn (l:List In) (v:In):Tells P 219 [.val (bsl inT) l,.val inT v] (.val zu (l.any fun c=>decide (v=c))):=by
 refine zc Tryz.func219 rfl rfl rfl (fun ext w hext=>?_);refine ze (d:=0) rfl zm (fun hsl0=>?_);refine qaf ?_;refine qaS ?_;refine A0 (oLs rfl rfl rfl zbI) ?_;refine A0 (oCl (indexIn _ _) rfl fn_246 yf) ?_;refine A0 zec ?_;refine qad ?_;exact za rfl rfl (zb rfl (zlO _ l))
theorem odd_ok (o:Out):Tells P 220 [.val outT o] (.val zu (decide (o.v<1∨1099511627776<o.v∨o.to<0∨255<o.to))):=by
 refine zc Tryz.func220 rfl rfl rfl (fun ext w hext=>?_);refine qaf ?_;refine qaj ?_;refine A0 (oFp zb9) ?_;refine A0 (oLb zdo ty_3) ?_;refine A0 zbK ?_;refine qa9 ?_;refine Sp (d:=6) (p:=o.v<1) (fun g6=>?_) (fun g6=>?_)
 ·
  refine qac ?_;refine qbH ?_;refine qbH ?_;refine qbi ?_;exact za rfl rfl (zb rfl yap)
 refine A1 (oFp zb9) ?_;refine A1 (oLb zdo ty_3) ?_;refine A1 zcm ?_;refine qat ?_;refine Sp (d:=11) (p:=1099511627776<o.v) (fun g11=>?_) (fun g11=>?_)
 ·
  refine qac ?_;refine qbH ?_;refine qbi ?_;exact za rfl rfl (zb rfl yap)
 refine A1 (oFp zcV) ?_;refine A1 (oLb zdL ty_3) ?_;refine A1 zbK ?_;refine qat ?_;refine Sp (d:=16) (p:=o.to<0) (fun g16=>?_) (fun g16=>?_)
 ·
  refine qac ?_;refine qbi ?_;exact za rfl rfl (zb rfl yap)
 refine A1 (oFp zcV) ?_;refine A1 (oLb zdL ty_3) ?_;refine A1 zcm ?_;refine A0 oK ?_;refine Sp (d:=20) (p:=255<o.to) (fun g20=>?_) (fun g20=>?_)
 ·
  refine qad ?_;exact za rfl rfl (zb rfl yap)
 refine qad ?_;exact za rfl rfl (zb rfl yap)
def zj6 (o:Out):Bool:=decide (o.v<1∨1099511627776<o.v∨o.to<0∨255<o.to)
def inAt (t:Tx) (k:Nat):Bool:=match t.ins[k]? with
  | none=>true
  | some x=>decide (0≤x.i∧x.i<3) && !((t.ins.take k).any fun c=>decide (x=c))
def zaz (t:Tx):Bool:=(List.range t.ins.length).all (inAt t)&&(decide (t.ins.length≤3)&&(decide (0<t.outs.length)&&(decide (t.outs.length≤3) && !(t.outs.any zj6))))
theorem zcU {t:Tx} {k:Nat} {x:In} (h:t.ins[k]?=some x) (hk:k<t.ins.length) (hb:¬(0≤x.i∧x.i<3)):zaz t=false:=by
  unfold zaz;rw[zd3 hk (by unfold inAt;rw[h];simp only[uh hb,Bool.false_and]),Bool.false_and]
theorem zbO {t:Tx} {k:Nat} {x:In} (h:t.ins[k]?=some x) (hk:k<t.ins.length) (hb:((t.ins.take k).any fun c=>decide (x=c))=true):zaz t=false:=by
  unfold zaz;rw[zd3 hk (by unfold inAt;rw[h];simp only[hb,Bool.not_true,Bool.and_false]),Bool.false_and]
theorem zpO {t:Tx} {k:Nat} {x:In} (h:t.ins[k]?=some x) (hb:0≤x.i∧x.i<3) (hc:¬((t.ins.take k).any fun c=>decide (x=c))=true):inAt t k=true:=by
  unfold inAt;rw[h];simp only[ui hb,Bool.true_and];cases hh:((t.ins.take k).any fun c=>decide (x=c)) with
  | true=>exact absurd hh hc
  | false=>rfl
theorem zof (t:Tx):Tells P 185 [.val txT t] (.val zu (zaz t)):=by
 refine zc Tryz.func185 rfl rfl rfl (fun ext w hext=>?_);refine qaf ?_;refine qcH ?_;refine qa3 ?_;refine qbp ?_;refine Lp (ι:=Nat) 1 (fun (k:Nat)=>((((Fr.none).set 1 (.ptr 0 0)).set 7 (.val (sl inT) t.ins)).set 8 (.val i64T (t.ins.length:Int))).set 9 (.val i64T (k:Int))) (fun (k:Nat)=>(Hp.none).set 0 (.box 112 txT t)) (fun (k:Nat)=>k≤t.ins.length∧(List.range k).all (inAt t)=true) (fun (k:Nat)=>t.ins.length-k) (0) (⟨uf _,rfl⟩) ?_;intro k hinv;refine ze (d:=7) rfl zm (fun hsi=>?_);refine qas ?_;refine Cf (p:=k<t.ins.length) (fun ht10=>?_) (fun ht10=>?_)
 ·
  obtain⟨x,hx⟩:∃x,t.ins[k]?=some x:=⟨_,ub ht10⟩;refine qbe ?_;refine qc6 ?_;refine A0 aV ?_;refine zg rfl rfl rfl rfl rfl (Lens.self _) zbI rfl ?_;refine CNQ ?_;refine CD mixed ?_;refine G0 (oFp zbm) ?_;refine G0 (oLb zeo ty_3) ?_;refine G0 zbK ?_;refine G0 mV ?_;refine zaq (d:=17) (p:=x.i<0) rfl yr (fun g17=>?_) (fun g17=>?_)
  ·
   refine qaE ?_;refine G0 oK ?_;refine G0 mV ?_;refine qaE ?_;refine qaE ?_;refine qbV ?_;refine Ct ?_;refine qaq ?_;exact za rfl rfl (zb rfl (zcU hx ht10 ya).symm)
  refine G1 (oFp zbm) ?_;refine G1 (oLb zeo ty_3) ?_;refine G1 zec ?_;refine G0 oK ?_;refine G0 mV ?_;refine zaq (d:=22) (p:=3≤x.i) rfl yr (fun g22=>?_) (fun g22=>?_)
  ·
   refine qaE ?_;refine qaE ?_;refine qbV ?_;refine Ct ?_;refine qaq ?_;exact za rfl rfl (zb rfl (zcU hx ht10 ya).symm)
  refine G1 (oFp zbB) ?_;refine G1 (oLb zbY zdN) ?_;refine G1 mV ?_;refine G1 (by first|exact zd2 rfl rfl rfl yar zd9|exact zhR rfl rfl rfl zd9 yd) ?_;refine G1 (oLs rfl rfl rfl zbI) ?_;refine G1 (oCl (containsIn _ _) rfl fn_219 yf) ?_;refine qbV ?_;refine zk (p:=((t.ins.take k).any fun c=>decide (x=c))=true) rfl (Bool.decide_eq_true.symm) (fun ht29=>?_) (fun ht29=>?_)
  ·
   refine qaq ?_;exact za rfl rfl (zb rfl (zbO hx ht10 ht29).symm)
  refine qbF ?_;exact Nx (k+1) (⟨by omega,zcB hinv.2 (zpO hx ya ht29)⟩) ya
 refine qbQ ?_;refine A0 aC ?_;refine CNQR ?_;refine qa3 ?_;refine A0 zhK ?_;refine qa9 ?_;refine Sp (d:=35) (p:=t.ins.length≤3) (fun g35=>?_) (fun g35=>?_)
 ·
  refine qbl ?_;refine A1 zcm ?_;refine qat ?_;refine Sp (d:=41) (p:=0<t.outs.length) (fun g41=>?_) (fun g41=>?_)
  ·
   refine qbl ?_;refine A1 zhK ?_;refine qat ?_;refine Sp (d:=47) (p:=t.outs.length≤3) (fun g47=>?_) (fun g47=>?_)
   ·
    refine A1 (oFp zbd) ?_;refine A1 (oLb zaU zdp) ?_;refine A1 mC ?_;refine A1 (oCl (zmf _ _) rfl fn_221 ⟨yl,(by first|exact zdY (Cs:=[]) rfl fn_220 yJ trivial rfl (fun x=>odd_ok _)|exact zdX (Cs:=[]) rfl fn_220 yJ trivial rfl (fun x y=>odd_ok _)|exact zdZ rfl),trivial⟩) ?_;refine A1 oN ?_;refine qbi ?_;exact za rfl rfl (zb rfl (by rw[show k=t.ins.length by omega] at hinv;unfold zaz;rw[hinv.2,ui g35,ui g41,ui g47];rfl))
   refine qac ?_;refine qcI ?_;refine qbi ?_;exact za rfl rfl (zb rfl (by unfold zaz;simp only[uh g47,Bool.false_and,Bool.and_false]))
  refine qam ?_;refine A2 ?_;refine qbi ?_;exact za rfl rfl (zb rfl (by unfold zaz;simp only[uh g41,Bool.false_and,Bool.and_false]))
 refine qam ?_;refine qbH ?_;refine qcI ?_;refine qbi ?_;exact za rfl rfl (zb rfl (by unfold zaz;simp only[uh g35,Bool.false_and,Bool.and_false]))
def halves {α:Type} (c:α→Int) (l:List α) (lo hi:Nat):Nat :=
  if h:lo<hi then
    match l[(lo+hi)/2]? with
    | none=>lo
    | some x=>if c x<0 then halves c l ((lo+hi)/2+1) hi else halves c l lo ((lo+hi)/2)
  else lo
termination_by hi-lo
theorem zpQ {α:Type} {c:α→Int} {l:List α} {lo hi:Nat} {x:α} (h:lo<hi) (hx:l[(lo+hi)/2]?=some x) (hc:c x<0):halves c l lo hi=halves c l ((lo+hi)/2+1) hi:=by
  rw[halves,dif_pos h];simp only[hx,ut hc]
theorem zpR {α:Type} {c:α→Int} {l:List α} {lo hi:Nat} {x:α} (h:lo<hi) (hx:l[(lo+hi)/2]?=some x) (hc:¬c x<0):halves c l lo hi=halves c l lo ((lo+hi)/2):=by
  rw[halves,dif_pos h];simp only[hx,ur hc]
theorem zhu {α:Type} {c:α→Int} {l:List α} {lo:Nat}:halves c l lo lo=lo:=by rw[halves,dif_neg (Nat.lt_irrefl _)]
def zjH {α:Type} (c:α→Int) (l:List α) (i:Nat):Bool:=match l[i]? with|none=>false|some x=>decide (c x=0)
theorem mid_eq {lo hi:Nat} (h:lo+hi<18446744073709551616):IntKind.i64.wrap (IntL.toI u64T (zaB (z6 (IntL.toI i64T ((lo:Int)+(hi:Int)))) (IntL.toI u64T (1:UInt64)).toNat))=(((lo+hi)/2:Nat):Int):=by
  have e1:(z6 ((lo:Int)+(hi:Int))).toNat=lo+hi:=by
    unfold z6;rw[UInt64.toNat_ofNat_of_lt' (by show(((lo:Int)+hi)%18446744073709551616).toNat<18446744073709551616;omega)];omega
  have e2:(zaB (z6 ((lo:Int)+(hi:Int))) 1).toNat=(lo+hi)/2:=by
    unfold zaB;rw[e1,UInt64.toNat_ofNat_of_lt' (by show(lo+hi)/2^min 1 64<18446744073709551616;rw[show min 1 64=1 from rfl];omega)];rfl
  show IntKind.i64.wrap (((zaB (z6 ((lo:Int)+(hi:Int))) 1).toNat:Nat):Int)=_;rw[e2];exact zaF ya
theorem bsearch (l:List Coin) (y:In) (f:Coin→In→Int) (hl:l.length<4611686018427387904):Tells P 244 [.val (bsl zal) l,.val inT y,.fn2 P zal inT i64T f] (.tup2 (.val i64T (halves (fun x=>f x y) l 0 l.length:Nat)) (.val zu (zjH (fun x=>f x y) l (halves (fun x=>f x y) l 0 l.length)))):=by
 refine zc Tryz.func244 rfl rfl rfl (fun ext w hext=>?_);refine ze (d:=0) rfl zm (fun hsl0=>?_);refine qaf ?_;refine A0 aV ?_;refine qaS ?_;refine qcP ?_;refine qaS ?_;refine A0 aV ?_;refine qaJ ?_;refine CB ?_;refine Lp (ι:=Nat×Nat) 1 (fun(lo,hi)=>(((((Fr.none.set 0 (.val (bsl zal) l)).set 2 (.fn2 P zal inT i64T f)).set 4 (.ptr 0 0)).set 8 (.val i64T (l.length:Int))).set 9 (.val i64T (lo:Int))).set 10 (.val i64T (hi:Int))) (fun(lo,hi)=>Hp.none.set 0 (.box 120 inT y)) (fun(lo,hi)=>lo≤hi∧hi≤l.length∧halves (fun x=>f x y) l 0 l.length=halves (fun x=>f x y) l lo hi) (fun(lo,hi)=>hi-lo) ((0,l.length)) (⟨uf _,ug _,rfl⟩) ?_;intro⟨lo,hi⟩ hinv;dsimp only at hinv;refine qb9 ?_;refine qa1 ?_;refine Cf (p:=lo<hi) (fun ht17=>?_) (fun ht17=>?_)
 ·
  obtain⟨x,hx⟩:∃x,l[(lo+hi)/2]?=some x:=yq;refine CS ?_;refine CB ?_;refine CQR ?_;refine qai ?_;refine A0 zbh ?_;refine xe ?_;refine xf ?_;refine A0 (g_cvi rfl (ui_3) (us_156) rfl (mid_eq ya)) ?_;refine qb5 ?_;refine G0 mH ?_;refine qbk ?_;refine G0 (zbj rfl rfl rfl zeq yj) ?_;refine G0 (zh rfl rfl zd4) ?_;refine G0 (oLs rfl rfl rfl zbI) ?_;refine G0 (zkN rfl rfl yb yl) ?_;refine G0 zbK ?_;refine GK.nil ?_;refine Cf (p:=f x y<0) (fun ht31=>?_) (fun ht31=>?_)
  ·
   refine CR ?_;refine qak ?_;refine CI ?_;exact Nx (((lo+hi)/2+1,hi)) yaF ybe
  refine CR ?_;refine qa9 ?_;refine qad ?_;refine CI ?_;exact Nx ((lo,(lo+hi)/2)) yaF ybe
 refine CE ?_;refine qaH ?_;refine qbk ?_;refine G0 mV ?_;refine G0 zbK ?_;refine G0 mV ?_;refine zaq (d:=39) (p:=lo<l.length) rfl yr (fun g39=>?_) (fun g39=>?_)
 ·
  obtain⟨x,hx⟩:∃x,l[lo]?=some x:=⟨_,ub g39⟩;refine G1 mH ?_;refine G1 mV ?_;refine G1 mV ?_;refine G1 (zbj rfl rfl rfl zeq yj) ?_;refine G1 (zh rfl rfl zd4) ?_;refine G1 (oLs rfl rfl rfl zbI) ?_;refine G1 (zkN rfl rfl yb yl) ?_;refine G1 zct ?_;refine G0 oK ?_;refine G0 aV ?_;refine qa6 ?_;exact zac rfl rfl (zb rfl (by rw[hinv.2.2,show hi=lo by omega,zhu])) (zb rfl (by rw[hinv.2.2,show hi=lo by omega,zhu];unfold zjH;rw[hx];rfl))
 refine qaa ?_;refine G0 oK ?_;refine G0 aV ?_;refine qa6 ?_;exact zac rfl rfl (zb rfl (by rw[hinv.2.2,show hi=lo by omega,zhu])) (zb rfl (by rw[hinv.2.2,show hi=lo by omega,zhu];unfold zjH;rw[List.getElem?_eq_none ya]))
def placeOf (p:List Coin) (x:In):Nat:=halves (fun c=>zaI c.inn x) p 0 p.length
def zjF (p:List Coin) (x:In):Bool:=zjH (fun c=>zaI c.inn x) p (placeOf p x)
theorem place_ok (p:List Coin) (x:In) (hl:p.length<4611686018427387904):Tells P 217 [.val (bsl zal) p,.val inT x] (.tup2 (.val i64T (placeOf p x:Nat)) (.val zu (zjF p x))):=by
 refine zc Tryz.func217 rfl rfl rfl (fun ext w hext=>?_);refine ze (d:=0) rfl zm (fun hsl0=>?_);refine qaf ?_;refine A0 aV ?_;refine qaS ?_;refine A0 (oLs rfl rfl rfl zbI) ?_;refine A0 (oCl (bsearch p x (fun c x=>zaI c.inn x) hl) rfl fn_244 ⟨yl,yl,(by first|exact zdY (Cs:=[]) rfl fn_245 yJ trivial rfl (fun x=>zpA _ _)|exact zdX (Cs:=[]) rfl fn_245 yJ trivial rfl (fun x y=>zpA _ _)|exact zdZ rfl),trivial⟩) ?_;refine qab ?_;refine qb6 ?_;exact zac rfl rfl (zcL rfl) (zcL rfl)
theorem delete_ok (l:List Coin) (i:Nat) (hi:i<l.length):zfz P 218 (.row 180 zal l) [.own 0,.val i64T (i:Int),.val i64T ((i:Int)+1)] (.fresh 180 zal (l.take i++l.drop (i+1))) (.none_):=by
 refine zfZ trivial Tryz.func218 rfl rfl ⟨Nat.one_pos,⟨trivial,⟨trivial,trivial⟩⟩⟩ (fun ext pg w hext hgr=>?_);refine ze (d:=1) rfl zab (fun hin1=>?_);refine ze (d:=2) rfl zab (fun hin2=>?_);refine zjS (n:=0) rfl (fun hrl=>?_);refine qaB ?_;refine CNQR ?_;refine A0 mO ?_;refine qai ?_;refine A0 mO ?_;refine A0 (za9 rfl rfl rfl zlL) ?_;refine A0 (g_os_chk (p:=i) (q:=i+1) (r:=l.length) rfl rfl rfl rfl rfl rfl zeq yh yh yh yd) ?_;refine CNQQR ?_;refine qai ?_;refine A0 zct ?_;refine zgG (d:=16) rfl yaq ?_;refine CN ?_;refine Cg ?_;refine CSQR ?_;refine A0 mO ?_;refine A0 (za9 rfl rfl rfl zlL) ?_;refine qaJ ?_;refine xg ?_;refine qct ?_;refine X0 (znp (q:=i) rfl rfl rfl rfl zeq yh yd) ?_;refine qct ?_;refine X0 (g_os_l (p:=i+1) rfl rfl rfl rfl zeq yh yd) ?_;refine XK.e (fun fr' hfr kk H=>by exact zqu rfl rfl rfl rfl ((hfr 22 yc).trans rfl) ((hfr 25 yc).trans rfl) rfl zfk ya (zp H)) ?_;refine X0 aS ?_;refine xc ?_;refine CQR ?_;refine A0 mS ?_;refine A0 mS ?_;refine A0 (g_len_s rfl rfl ya zlL) ?_;refine qa9 ?_;refine A0 (g_os_lh (p:=i+(l.length-(i+1))) (q:=l.length) rfl rfl rfl rfl rfl zeq yh yh yd) ?_;refine aw_clear rfl rfl rfl rfl rfl zfk zo3 yG ?_;refine CNQR ?_;refine A0 mS ?_;refine A0 aS ?_;refine CN ?_;exact zeN rfl rfl rfl rfl rfl zfW (zps rfl rfl yG (by rw[List.take_append_of_le_length yG,List.take_take,Nat.min_self,List.take_append_of_le_length yG];exact uc yG))
end Go.Proofs.YtgoebfjaaklopaaGreat
