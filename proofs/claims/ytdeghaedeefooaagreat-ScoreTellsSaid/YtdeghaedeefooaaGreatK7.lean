/- Parts of the proof: the layer that reads Go values as data, and what the functions of the program tell. -/
import Derived.Test.YtdeghaedeefooaaGreatK6
set_option linter.unusedVariables false
set_option linter.unusedSimpArgs false
set_option maxRecDepth 20000
namespace Go.Proofs.YtdeghaedeefooaaGreat
open Go.Ab Go.RowKit
theorem toI_u32 {a b:UInt32}:IntL.toI u32T a=IntL.toI u32T b↔a=b:=⟨fun h=>UInt32.toNat_inj.1 (Int.ofNat.inj h),fun h=>by rw [h]⟩
def idsP (p:Proof):List Ab.Id:=p.p.map fun x=>headId x.h
def levelsP (p:Proof):List Int:=p.p.map fun x=>headLevel x.h
def leadsB (l:List Ab.Id) (prev id:Ab.Id):Bool:=decide (prev=id)||l.any fun x=>decide (id=x)
def prevF (y z:Part) (last:Prop) [Decidable last] (d:Ab.Id):Int :=
  if y.h.height≤z.h.height∨¬y.h.bits=z.h.bits∨last∧(¬y.h.height=IntKind.i64.wrap (z.h.height+1)∨¬y.h.prev=d) then 5 else 0
def linkF (y:Part) (c d:Ab.Id):Int :=
  if y.l.length=0∨32<y.l.length∨¬y.l.getD 0 zId=c∨leadsB y.l y.h.prev d=false∨¬linkRoot y.l=y.h.links then 6 else 0
def workF (y:Part):Int:=if ¬headMay y.h=true then 4 else 0
def zPartD:Part:=⟨zHead,[]⟩
def yOf (x:CTrial):Part:=x.p.p.getD x.at_.toNat zPartD
def zOf (x:CTrial):Part:=x.p.p.getD (x.at_.toNat-1) zPartD
def dOf (x:CTrial):Ab.Id:=x.ids.getD (x.at_.toNat-1) zId
def cOf (x:CTrial):Ab.Id:=x.ids.getD 0 zId
def prevC (x:CTrial):Int:=prevF (yOf x) (zOf x) ((x.p.p.length:Int)-x.p.k≤x.at_) (dOf x)
def linkC (x:CTrial):Int:=linkF (yOf x) (cOf x) (dOf x)
def workC (x:CTrial):Int:=workF (yOf x)
def TrOk (x:CTrial):Prop:=1≤x.at_∧x.at_<x.p.p.length∧x.ids.length=x.p.p.length∧x.p.p.length≤100∧1≤x.p.k∧x.p.k≤20
theorem yOf_at {x:CTrial} {y:Part} (h:x.p.p[x.at_.toNat]?=some y):yOf x=y:=by unfold yOf;simp [h]
theorem zOf_at {x:CTrial} {y:Part} (h:x.p.p[x.at_.toNat-1]?=some y):zOf x=y:=by unfold zOf;simp [h]
theorem dOf_at {x:CTrial} {y:Ab.Id} (h:x.ids[x.at_.toNat-1]?=some y):dOf x=y:=by unfold dOf;simp [h]
theorem cOf_at {x:CTrial} {y:Ab.Id} (h:x.ids[0]?=some y):cOf x=y:=by unfold cOf;simp [h]
theorem zc9 {x : CTrial} {y z : Part} {d : Ab.Id} (hy : x.p.p[x.at_.toNat]? = some y) (hz : x.p.p[x.at_.toNat - 1]? = some z) (hd : x.ids[x.at_.toNat - 1]? = some d)
    (h:y.h.height≤z.h.height∨¬y.h.bits=z.h.bits∨((x.p.p.length:Int)-x.p.k≤x.at_)∧(¬y.h.height=IntKind.i64.wrap (z.h.height+1)∨¬y.h.prev=d)):prevC x=5:=by
  unfold prevC prevF;rw [yOf_at hy,zOf_at hz,dOf_at hd,if_pos h]
theorem prevC_no {x : CTrial} {y z : Part} {d : Ab.Id} (hy : x.p.p[x.at_.toNat]? = some y) (hz : x.p.p[x.at_.toNat - 1]? = some z) (hd : x.ids[x.at_.toNat - 1]? = some d)
    (h:¬(y.h.height≤z.h.height∨¬y.h.bits=z.h.bits∨((x.p.p.length:Int)-x.p.k≤x.at_)∧(¬y.h.height=IntKind.i64.wrap (z.h.height+1)∨¬y.h.prev=d))):prevC x=0:=by
  unfold prevC prevF;rw [yOf_at hy,zOf_at hz,dOf_at hd,if_neg h]
theorem zci {x : CTrial} {y : Part} {c d : Ab.Id} (hy : x.p.p[x.at_.toNat]? = some y) (hc : x.ids[0]? = some c) (hd : x.ids[x.at_.toNat - 1]? = some d)
    (h:y.l.length=0∨32<y.l.length∨¬y.l.getD 0 zId=c∨leadsB y.l y.h.prev d=false∨¬linkRoot y.l=y.h.links):linkC x=6:=by
  unfold linkC linkF;rw [yOf_at hy,cOf_at hc,dOf_at hd,if_pos h]
theorem linkC_no {x : CTrial} {y : Part} {c d : Ab.Id} (hy : x.p.p[x.at_.toNat]? = some y) (hc : x.ids[0]? = some c) (hd : x.ids[x.at_.toNat - 1]? = some d)
    (h:¬(y.l.length=0∨32<y.l.length∨¬y.l.getD 0 zId=c∨leadsB y.l y.h.prev d=false∨¬linkRoot y.l=y.h.links)):linkC x=0:=by
  unfold linkC linkF;rw [yOf_at hy,cOf_at hc,dOf_at hd,if_neg h]
def three:List (Option Nat):=[some 43,some 44,some 45]
def askC (f:Option Nat) (x:CTrial):Int:=if f=some 43 then prevC x else if f=some 44 then linkC x else workC x
def firstC:List (Option Nat)→CTrial→Int
  | [],_=>0
  | f::l,x=>if askC f x=0 then firstC l x else askC f x
theorem firstC_three (x:CTrial):firstC three x=if ¬prevC x=0 then prevC x else if ¬linkC x=0 then linkC x else workC x:=by
  have e1:askC (some 43) x=prevC x:=by unfold askC;rw [if_pos rfl]
  have e2:askC (some 44) x=linkC x:=by unfold askC;rw [if_neg (by decide),if_pos rfl]
  have e3:askC (some 45) x=workC x:=by unfold askC;rw [if_neg (by decide),if_neg (by decide)]
  unfold three
  simp only [firstC,e1,e2,e3]
  by_cases h1:prevC x=0
  · by_cases h2:linkC x=0
    · by_cases h3:workC x=0<;>simp [h1,h2,h3]
    · simp [h1,h2]
  · simp [h1]
theorem firstC_step {l:List (Option Nat)} {j:Nat} {f:Option Nat} {x:CTrial} (h:l[j]?=some f) (h0:askC f x=0):firstC (l.drop j) x=firstC (l.drop (j+1)) x:=by
  obtain ⟨hj,rfl⟩:=List.getElem?_eq_some_iff.1 h
  rw [List.drop_eq_getElem_cons hj]
  show (if _ then _ else _)=_
  rw [if_pos h0]
theorem zcU {l:List (Option Nat)} {j:Nat} {f:Option Nat} {x:CTrial} (h:l[j]?=some f) (h0:¬askC f x=0):firstC (l.drop j) x=askC f x:=by
  obtain ⟨hj,rfl⟩:=List.getElem?_eq_some_iff.1 h
  rw [List.drop_eq_getElem_cons hj]
  show (if _ then _ else _)=_
  rw [if_neg h0]
def trialsE (p:Proof) (ids:List Ab.Id):Nat→Nat→Int
  | 0,_=>0
  | n+1,i=>if firstC three ⟨p,ids,i⟩=0 then trialsE p ids n (i+1) else firstC three ⟨p,ids,i⟩
theorem trials_go {p:Proof} {ids:List Ab.Id} {i:Nat} (hi:i<p.p.length) (h:firstC three ⟨p,ids,i⟩=0):trialsE p ids (p.p.length-i) i=trialsE p ids (p.p.length-(i+1)) (i+1):=by
  rw [show p.p.length-i=(p.p.length-(i+1))+1 by omega]
  show (if _ then _ else _)=_
  rw [if_pos h]
theorem zcR {p:Proof} {ids:List Ab.Id} {i:Nat} (hi:i<p.p.length) (h:¬firstC three ⟨p,ids,i⟩=0):trialsE p ids (p.p.length-i) i=firstC three ⟨p,ids,i⟩:=by
  rw [show p.p.length-i=(p.p.length-(i+1))+1 by omega]
  show (if _ then _ else _)=_
  rw [if_neg h]
def checkP (p:Proof):Int :=
  if p.m<1∨20<p.m∨p.k<1∨20<p.k then 1
  else if 100<p.p.length∨(p.p.length:Int)≤p.k then 3
  else if tgtOk (p.p.getD 0 zPartD).h.bits=false∨0<(p.p.getD 0 zPartD).l.length∨¬(p.p.getD 0 zPartD).h=(firstTip (p.p.getD 0 zPartD).h.bits).b.h then 12
  else trialsE p (idsP p) (p.p.length-1) 1
def fewPr (p:Proof):Bool:=p.p.all (fun x=>decide (x.l.length≤40))&&decide (p.p.length≤110)
theorem ids_ok (p:Proof) (hl:p.p.length≤1000000000000):Tells P 28 [.val proofT p] (.fresh 49 idT (idsP p)):=by
 refine zc Tryz.func28 rfl rfl rfl (fun ext w hext=>?_)
 refine CQR ?_;refine zj rfl rfl rfl rfl rfl ?_;refine A0 aL ?_;refine CNQR ?_;refine A0 aL ?_;refine CNQQR ?_;refine A0 (oFp zac) ?_;refine A0 (oLb zP zbh) ?_;refine A0 (zA rfl rfl zbL) ?_;refine A0 mV ?_
 refine CNB ?_;refine zbp (T:=idT) (d:=3) 49 rfl ?_
 refine Lp (ι:=Nat) 2 (fun (k:Nat)=>((((Fr.none).set 3 (.own 1)).set 7 (.val (sl partT) p.p)).set 8 (.val i64T (p.p.length:Int))).set 9 (.val i64T (k:Int))) (fun (k:Nat)=>(Hp.none).set 1 (.row 49 idT ((p.p.take k).map fun x=>headId x.h))) (fun (k:Nat)=>k≤p.p.length) (fun (k:Nat)=>p.p.length-k) (0) (Nat.zero_le _) ?_
 intro k hinv
 refine CQR ?_;refine A0 zC ?_;refine CNQ ?_
 refine Cf (p:=k<p.p.length) (fun ht10=>?_) (fun ht10=>?_)
 ·
  obtain ⟨x,hx⟩:∃x,p.p[k]?=some x:=⟨_,List.getElem?_eq_getElem ht10⟩
  refine CSQBQR ?_;refine A0 (zaq rfl rfl rfl zcf (by assumption)) ?_;refine A0 (zg rfl rfl ty_58) ?_;refine zf ze_58 rfl rfl rfl rfl ?_;refine za rfl rfl rfl rfl rfl (Lens.self _) ty_58 rfl ?_;refine CNR ?_
  refine A0 mO ?_;refine A0 (oFp zaU) ?_;refine A0 (oLb zaH zai) ?_;refine A0 (oCl (headId_ok x.h) rfl fn_53 ⟨(ze rfl),trivial⟩) ?_;refine A0 (zr (T:=idT) (xs:=[_]) rfl za5 zca ⟨rfl,rfl,trivial⟩ rfl rfl) ?_
  refine zu rfl rfl rfl rfl rfl rfl rfl zca (by simp;omega) ?_;refine A0 aO ?_;refine CNIR ?_;refine A0 zs ?_;refine A0 mV ?_;refine CN ?_;refine zaQ 3 1 4 rfl rfl rfl rfl rfl rfl ?_
  refine zO (n:=1) (y:=(p.p.take (k+1)).map fun x=>headId x.h) rfl (by rw [List.take_add_one,hx,List.map_append];simp) ?_
  exact Nx (k+1) (by omega) (by omega)
 ·
  refine CE ?_;refine CQR ?_;refine A0 mO ?_;refine A0 aO ?_;refine CN ?_
  exact zb rfl rfl (zi rfl rfl (by rw [List.take_of_length_le (by omega)];rfl))
theorem levelsP_ok (p:Proof) (hl:p.p.length≤1000000000000):Tells P 37 [.val proofT p] (.fresh 3 i64T (levelsP p)):=by
 refine zc Tryz.func37 rfl rfl rfl (fun ext w hext=>?_)
 refine CQR ?_;refine zj rfl rfl rfl rfl rfl ?_;refine A0 aL ?_;refine CNQR ?_;refine A0 aL ?_;refine CNQQR ?_;refine A0 (oFp zac) ?_;refine A0 (oLb zP zbh) ?_;refine A0 (zA rfl rfl zbL) ?_;refine A0 mV ?_
 refine CNB ?_;refine zbp (T:=i64T) (d:=3) 3 rfl ?_
 refine Lp (ι:=Nat) 2 (fun (k:Nat)=>((((Fr.none).set 3 (.own 1)).set 7 (.val (sl partT) p.p)).set 8 (.val i64T (p.p.length:Int))).set 9 (.val i64T (k:Int))) (fun (k:Nat)=>(Hp.none).set 1 (.row 3 i64T ((p.p.take k).map fun x=>headLevel x.h))) (fun (k:Nat)=>k≤p.p.length) (fun (k:Nat)=>p.p.length-k) (0) (Nat.zero_le _) ?_
 intro k hinv
 refine CQR ?_;refine A0 zC ?_;refine CNQ ?_
 refine Cf (p:=k<p.p.length) (fun ht10=>?_) (fun ht10=>?_)
 ·
  obtain ⟨x,hx⟩:∃x,p.p[k]?=some x:=⟨_,List.getElem?_eq_getElem ht10⟩
  refine CSQBQR ?_;refine A0 (zaq rfl rfl rfl zcf (by assumption)) ?_;refine A0 (zg rfl rfl ty_58) ?_;refine zf ze_58 rfl rfl rfl rfl ?_;refine za rfl rfl rfl rfl rfl (Lens.self _) ty_58 rfl ?_;refine CNR ?_
  refine A0 mO ?_;refine A0 (oFp zaU) ?_;refine A0 (oLb zaH zai) ?_;refine A0 (oCl (zd6 x.h) rfl fn_56 ⟨(ze rfl),trivial⟩) ?_
  refine A0 (zr (T:=i64T) (xs:=[_]) rfl zdq zc8 ⟨rfl,rfl,trivial⟩ rfl rfl) ?_;refine zu rfl rfl rfl rfl rfl rfl rfl zc8 (by simp;omega) ?_;refine A0 aO ?_;refine CNIR ?_;refine A0 zs ?_;refine A0 mV ?_
  refine CN ?_;refine zaQ 3 1 4 rfl rfl rfl rfl rfl rfl ?_;refine zO (n:=1) (y:=(p.p.take (k+1)).map fun x=>headLevel x.h) rfl (by rw [List.take_add_one,hx,List.map_append];simp) ?_
  exact Nx (k+1) (by omega) (by omega)
 ·
  refine CE ?_;refine CQR ?_;refine A0 mO ?_;refine A0 aO ?_;refine CN ?_
  exact zb rfl rfl (zi rfl rfl (by rw [List.take_of_length_le (by omega)];rfl))
theorem cprev_ok (x:CTrial) (h:TrOk x):Tells P 43 [.rptr cTrialT x] (.val i64T (prevC x)):=by
 obtain ⟨h1,h2,h3,h4,h5,h6⟩:=h
 obtain ⟨y,hy⟩:∃y,x.p.p[x.at_.toNat]?=some y:=⟨_,List.getElem?_eq_getElem (by omega)⟩
 obtain ⟨z,hz⟩:∃z,x.p.p[x.at_.toNat-1]?=some z:=⟨_,List.getElem?_eq_getElem (by omega)⟩
 obtain ⟨d,hd⟩:∃d,x.ids[x.at_.toNat-1]?=some d:=⟨_,List.getElem?_eq_getElem (by omega)⟩
 refine zc Tryz.func43 rfl rfl rfl (fun ext w hext=>?_)
 refine CQR ?_;refine A0 aV ?_;refine CNQ ?_
 refine aw_drawf 25 (.box 55 headT zHead) [some 1000001,some 1000001,some 1000001,some 1000001,some 1000001,some 1000001,some 1000001,some 1000001,some 1000001,some 1000001,some 1000001,some 1000001,some 1000001,some 1000001,some 1000001,some 1000001,some 1000001,some 1000001,some 1000001,some 1000001,some 1000001,some 1000001,some 1000001,some 1000001,some 1000001,some 1000001,none,none,none] mixed (by decide +kernel) rfl ?_
 refine XKF.ga rfl (fun _=>g_mr (.inl rfl) rfl) rfl rfl rfl rfl ?_;refine XKF.ga rfl (fun _=>zbG rfl rfl) rfl rfl rfl rfl ?_;refine XKF.ga rfl (fun _=>g_fa_r rfl rfl fd_84_0 zc0) rfl rfl rfl rfl ?_
 refine XKF.ga rfl (fun _=>g_fa_r rfl rfl zac zP) rfl rfl rfl rfl ?_;refine XKF.ga rfl (fun _=>zg rfl rfl zbh) rfl rfl rfl rfl ?_;refine XKF.ga rfl (fun _=>g_mr (.inl rfl) rfl) rfl rfl rfl rfl ?_
 refine XKF.ga rfl (fun _=>zbG rfl rfl) rfl rfl rfl rfl ?_;refine XKF.ga rfl (fun _=>g_fa_r rfl rfl zdO zaX) rfl rfl rfl rfl ?_;refine XKF.ga rfl (fun _=>zg rfl rfl ty_3) rfl rfl rfl rfl ?_
 refine XKF.ga rfl (fun _=>zD (i:=x.at_.toNat) rfl rfl rfl (by omega) zcf (by assumption)) rfl rfl rfl rfl ?_;refine XKF.ga rfl (fun _=>g_fa_r rfl rfl zaU zaH) rfl rfl rfl rfl ?_
 refine XKF.ga rfl (fun _=>zg rfl rfl zai) rfl rfl rfl rfl ?_;refine XKF.ga rfl (fun _=>g_mr (.inl rfl) rfl) rfl rfl rfl rfl ?_;refine XKF.ga rfl (fun _=>zbG rfl rfl) rfl rfl rfl rfl ?_
 refine XKF.ga rfl (fun _=>g_fa_r rfl rfl fd_84_0 zc0) rfl rfl rfl rfl ?_;refine XKF.ga rfl (fun _=>g_fa_r rfl rfl zac zP) rfl rfl rfl rfl ?_;refine XKF.ga rfl (fun _=>zg rfl rfl zbh) rfl rfl rfl rfl ?_
 refine XKF.ga rfl (fun _=>g_mr (.inl rfl) rfl) rfl rfl rfl rfl ?_;refine XKF.ga rfl (fun _=>zbG rfl rfl) rfl rfl rfl rfl ?_;refine XKF.ga rfl (fun _=>g_fa_r rfl rfl zdO zaX) rfl rfl rfl rfl ?_
 refine XKF.ga rfl (fun _=>zg rfl rfl ty_3) rfl rfl rfl rfl ?_;refine XKF.ga rfl (fun _=>by first|exact g_sub rfl rfl rfl (zaa (by first|omega|(simp;omega)))|exact g_sub rfl rfl rfl rfl) rfl rfl rfl rfl ?_
 refine XKF.ga rfl (fun _=>zD (i:=x.at_.toNat-1) rfl rfl rfl (by omega) zcf (by assumption)) rfl rfl rfl rfl ?_;refine XKF.ga rfl (fun _=>g_fa_r rfl rfl zaU zaH) rfl rfl rfl rfl ?_
 refine XKF.ga rfl (fun _=>zg rfl rfl zai) rfl rfl rfl rfl ?_;refine XKF.f rfl ze_55 rfl rfl rfl rfl rfl rfl ?_
 refine XKF.e rfl (fun fr' hfr kk H=>by exact zf ze_55 rfl rfl rfl rfl (zG H)) (EffA.conv (fun fr' hfr kk H=>by exact zf ze_55 rfl rfl rfl rfl (zG H)) (by first|exact hp_out rfl|exact hp_out2 rfl rfl|exact hp_out3 rfl rfl rfl|rfl)) (by exact rfl) (by exact rfl) (by exact rfl) (by (repeat refine av_set ?_ rfl);exact fun _ _=>rfl) ?_
 refine XKF.ew (x:=.idk) rfl (by decide +kernel) (fun fr' hfr kk H=>by exact za rfl rfl rfl ((hfr 3 (by decide +kernel)).trans rfl) rfl (Lens.self _) zai ((hfr 17 (by decide +kernel)).trans rfl) (zG H)) (by exact rfl) (by (repeat refine av_set ?_ rfl);exact fun _ _=>rfl) ?_
 refine XKF.ew (x:=.idk) rfl (by decide +kernel) (fun fr' hfr kk H=>by exact za rfl rfl rfl ((hfr 4 (by decide +kernel)).trans rfl) rfl (Lens.self _) zai ((hfr 30 (by decide +kernel)).trans rfl) (zG H)) (by exact rfl) (by (repeat refine av_set ?_ rfl);exact fun _ _=>rfl) ?_
 refine XKF.nilp trivial ?_;refine CQ ?_;refine CD mixed ?_;refine G0 mR ?_;refine G0 (zbG rfl rfl) ?_;refine G0 (oFr zdO zaX) ?_;refine G0 (zg rfl rfl ty_3) ?_;refine G0 mR ?_;refine G0 (zbG rfl rfl) ?_
 refine G0 (oFr fd_84_0 zc0) ?_;refine G0 (oFr zac zP) ?_;refine G0 (zg rfl rfl zbh) ?_;refine G0 (by first|exact zA rfl rfl zbL|exact zbi rfl rfl rfl zbL|exact zbY rfl rfl zbL) ?_
 refine G0 mR ?_;refine G0 (zbG rfl rfl) ?_;refine G0 (oFr fd_84_0 zc0) ?_;refine G0 (oFr zbS za3) ?_;refine G0 (zg rfl rfl ty_3) ?_;refine G0 zap ?_;refine G0 zbf ?_;refine G0 aV ?_;refine GK.nil ?_
 refine CQ ?_;refine CQ ?_;refine CD mixed ?_;refine G0 (oFp za0) ?_;refine G0 (oLb zM ty_3) ?_;refine G0 (oFp za0) ?_;refine G0 (oLb zM ty_3) ?_;refine G0 o_leq ?_;refine G0 mV ?_
 refine zag (d:=53) (p:=y.h.height≤z.h.height) rfl (by first|rfl|(rw [decide_eq_decide];simp only [IntL.toI,id_eq];omega)|(simp [IntL.toI];done)|(simp [IntL.toI];omega)) (fun g53=>?_) (fun g53=>?_)
 ·
  refine G2 ?_;refine G2 ?_;refine G2 ?_;refine G2 ?_;refine G2 ?_;refine G0 oK ?_;refine G0 mV ?_;refine G2 ?_;refine G2 ?_;refine G3 ?_;refine G3 ?_;refine G3 ?_;refine G3 ?_;refine G3 ?_;refine G3 ?_;refine G3 ?_;refine G3 ?_
  refine G3 ?_;refine G3 ?_;refine G3 ?_;refine G3 ?_;refine G3 ?_;refine G3 ?_;refine G3 ?_;refine G3 ?_;refine G3 ?_;refine G3 ?_;refine G3 ?_;refine G3 ?_;refine G3 ?_;refine G3 ?_;refine G2 ?_;refine G0 oK ?_
  refine GK.nil ?_;refine Ct ?_;refine CQR ?_;refine A0 aV ?_;refine CN ?_
  exact zb rfl rfl (zd rfl ((zc9 hy hz hd (.inl g53)).symm))
 ·
  refine G1 (oFp zby) ?_;refine G1 (oLb zam zae) ?_;refine G1 (oFp zby) ?_;refine G1 (oLb zam zae) ?_;refine G1 zaz ?_;refine G0 oK ?_;refine G0 mV ?_
  refine zag (d:=60) (p:=¬y.h.bits=z.h.bits) rfl (by simp [toI_u32]) (fun g60=>?_) (fun g60=>?_)
  ·
   refine G2 ?_;refine G2 ?_;refine G3 ?_;refine G3 ?_;refine G3 ?_;refine G3 ?_;refine G3 ?_;refine G3 ?_;refine G3 ?_;refine G3 ?_;refine G3 ?_;refine G3 ?_;refine G3 ?_;refine G3 ?_;refine G3 ?_;refine G3 ?_;refine G3 ?_
   refine G3 ?_;refine G3 ?_;refine G3 ?_;refine G3 ?_;refine G3 ?_;refine G3 ?_;refine G3 ?_;refine G2 ?_;refine G0 oK ?_;refine GK.nil ?_;refine Ct ?_;refine CQR ?_;refine A0 aV ?_;refine CN ?_
   exact zb rfl rfl (zd rfl ((zc9 hy hz hd (.inr (.inl g60))).symm))
  ·
   refine G1 mV ?_;refine G1 mV ?_
   refine zag (d:=62) (p:=(x.p.p.length:Int)-x.p.k≤x.at_) rfl (by first|rfl|(rw [decide_eq_decide];simp only [IntL.toI,id_eq];omega)|(simp [IntL.toI];done)|(simp [IntL.toI];omega)) (fun g62=>?_) (fun g62=>?_)
   ·
    refine G1 (oFp za0) ?_;refine G1 (oLb zM ty_3) ?_;refine G1 (oFp za0) ?_;refine G1 (oLb zM ty_3) ?_;refine G1 zs ?_;refine G1 zaz ?_;refine G1 mV ?_
    refine zag (d:=69) (p:=¬y.h.height=IntKind.i64.wrap (z.h.height+1)) rfl (by simp [IntL.toI]) (fun g69=>?_) (fun g69=>?_)
    ·
     refine G2 ?_;refine G2 ?_;refine G2 ?_;refine G2 ?_;refine G2 ?_;refine G2 ?_;refine G2 ?_;refine G2 ?_;refine G2 ?_;refine G2 ?_;refine G2 ?_;refine G2 ?_;refine G2 ?_;refine G2 ?_;refine G1 oK ?_;refine G1 oK ?_
     refine G0 oK ?_;refine GK.nil ?_;refine Ct ?_;refine CQR ?_;refine A0 aV ?_;refine CN ?_
     exact zb rfl rfl (zd rfl ((zc9 hy hz hd (.inr (.inr ⟨g62,.inl g69⟩))).symm))
    ·
     refine G1 (oFp zdQ) ?_;refine G1 (oLb zbz zx) ?_;refine G1 mR ?_;refine G1 (zbG rfl rfl) ?_;refine G1 (oFr fd_84_1 zee) ?_;refine G1 (zg rfl rfl zbC) ?_;refine G1 mR ?_;refine G1 (zbG rfl rfl) ?_
     refine G1 (oFr zdO zaX) ?_;refine G1 (zg rfl rfl ty_3) ?_;refine G1 zap ?_;refine G1 (zD (i:=x.at_.toNat-1) rfl rfl rfl (by omega) za5 (by assumption)) ?_;refine G1 (zg rfl rfl zx) ?_
     refine G1 (zdc rfl rfl rfl (zdd)) ?_;refine G1 oK ?_;refine G1 oK ?_;refine G0 oK ?_;refine GK.nil ?_
     refine zo (p:=¬y.h.prev=d) rfl (by simp) (fun ht86=>?_) (fun ht86=>?_)
     ·
      refine CQR ?_;refine A0 aV ?_;refine CN ?_
      exact zb rfl rfl (zd rfl ((zc9 hy hz hd (.inr (.inr ⟨g62,.inr ht86⟩))).symm))
     ·
      refine CSQR ?_;refine A0 aV ?_;refine CN ?_
      exact zb rfl rfl (zd rfl ((prevC_no hy hz hd (fun h=>h.elim g53 (fun h=>h.elim g60 (fun h=>h.2.elim g69 ht86)))).symm))
   ·
    refine G2 ?_;refine G2 ?_;refine G2 ?_;refine G2 ?_;refine G2 ?_;refine G2 ?_;refine G2 ?_;refine G3 ?_;refine G3 ?_;refine G3 ?_;refine G3 ?_;refine G3 ?_;refine G3 ?_;refine G3 ?_;refine G3 ?_;refine G3 ?_;refine G3 ?_
    refine G3 ?_;refine G3 ?_;refine G3 ?_;refine G3 ?_;refine G2 ?_;refine G1 oK ?_;refine G0 oK ?_;refine GK.nil ?_;refine Cg ?_;refine CSQR ?_;refine A0 aV ?_;refine CN ?_
    exact zb rfl rfl (zd rfl ((prevC_no hy hz hd (fun h=>h.elim g53 (fun h=>h.elim g60 (fun h=>g62 h.1)))).symm))
theorem clink_ok (x:CTrial) (h:TrOk x):Tells P 44 [.rptr cTrialT x] (.val i64T (linkC x)):=by
 obtain ⟨h1,h2,h3,h4,h5,h6⟩:=h
 obtain ⟨y,hy⟩:∃y,x.p.p[x.at_.toNat]?=some y:=⟨_,List.getElem?_eq_getElem (by omega)⟩
 obtain ⟨d,hd⟩:∃d,x.ids[x.at_.toNat-1]?=some d:=⟨_,List.getElem?_eq_getElem (by omega)⟩
 obtain ⟨c,hc⟩:∃c,x.ids[0]?=some c:=⟨_,List.getElem?_eq_getElem (by omega)⟩
 refine zc Tryz.func44 rfl rfl rfl (fun ext w hext=>?_)
 refine CQR ?_;refine A0 aV ?_;refine CNQ ?_
 refine zB [some 1000001,some 1000001,some 1000001,some 1000001,some 1000001,some 1000001,some 1000001,some 1000001,some 1000001,some 1000001,some 1000001,none,none] mixed (by decide +kernel) ?_
 refine XK.ga (fun _=>g_mr (.inl rfl) rfl) rfl rfl rfl ?_;refine XK.ga (fun _=>zbG rfl rfl) rfl rfl rfl ?_;refine XK.ga (fun _=>g_fa_r rfl rfl fd_84_0 zc0) rfl rfl rfl ?_
 refine XK.ga (fun _=>g_fa_r rfl rfl zac zP) rfl rfl rfl ?_;refine XK.ga (fun _=>zg rfl rfl zbh) rfl rfl rfl ?_;refine XK.ga (fun _=>g_mr (.inl rfl) rfl) rfl rfl rfl ?_
 refine XK.ga (fun _=>zbG rfl rfl) rfl rfl rfl ?_;refine XK.ga (fun _=>g_fa_r rfl rfl zdO zaX) rfl rfl rfl ?_;refine XK.ga (fun _=>zg rfl rfl ty_3) rfl rfl rfl ?_
 refine XK.ga (fun _=>zD (i:=x.at_.toNat) rfl rfl rfl (by omega) zcf (by assumption)) rfl rfl rfl ?_;refine XK.ga (fun _=>zg rfl rfl ty_58) rfl rfl rfl ?_
 refine XK.e (fun fr' hfr kk H=>by exact zf ze_58 rfl rfl rfl rfl (zG H)) ?_
 refine XK.e (x:=.idk) (fun fr' hfr kk H=>by exact za rfl rfl rfl ((hfr 3 (by decide +kernel)).trans rfl) rfl (Lens.self _) ty_58 ((hfr 14 (by decide +kernel)).trans rfl) (zG H)) ?_;refine XK.nil' ?_;refine CQ ?_
 refine CQ ?_;refine CD mixed ?_;refine G0 (oFp zbx) ?_;refine G0 (oLb zaZ zbC) ?_;refine G0 (zA rfl rfl zat) ?_;refine G0 zbb ?_;refine G0 mV ?_
 refine zag (d:=19) (p:=y.l.length=0) rfl (by rw [decide_eq_decide];simp [IntL.toI]) (fun g19=>?_) (fun g19=>?_)
 ·
  refine G2 ?_;refine G2 ?_;refine G2 ?_;refine G2 ?_;refine G0 oK ?_;refine G0 mV ?_;refine G2 ?_;refine G2 ?_;refine G2 ?_;refine G2 ?_;refine G2 ?_;refine G2 ?_;refine G2 ?_;refine G2 ?_;refine G2 ?_;refine G2 ?_;refine G2 ?_
  refine G0 oK ?_;refine G0 mV ?_;refine G2 ?_;refine G2 ?_;refine G2 ?_;refine G2 ?_;refine G2 ?_;refine G2 ?_;refine G2 ?_;refine G2 ?_;refine G2 ?_;refine G2 ?_;refine G2 ?_;refine G2 ?_;refine G2 ?_;refine G2 ?_;refine G2 ?_
  refine G2 ?_;refine G2 ?_;refine G2 ?_;refine G0 oK ?_;refine G0 mV ?_;refine G2 ?_;refine G2 ?_;refine G2 ?_;refine G2 ?_;refine G2 ?_;refine G2 ?_;refine G2 ?_;refine G0 oK ?_;refine GK.nil ?_;refine Ct ?_;refine CQR ?_
  refine A0 aV ?_;refine CN ?_
  exact zb rfl rfl (zd rfl ((zci hy hc hd (.inl g19)).symm))
 ·
  refine G1 (oFp zbx) ?_;refine G1 (oLb zaZ zbC) ?_;refine G1 (zA rfl rfl zat) ?_;refine G1 zaP ?_;refine G0 oK ?_;refine G0 mV ?_
  refine zag (d:=25) (p:=32<y.l.length) rfl (by first|rfl|(rw [decide_eq_decide];simp only [IntL.toI,id_eq];omega)|(simp [IntL.toI];done)|(simp [IntL.toI];omega)) (fun g25=>?_) (fun g25=>?_)
  ·
   refine G2 ?_;refine G2 ?_;refine G2 ?_;refine G2 ?_;refine G2 ?_;refine G2 ?_;refine G2 ?_;refine G2 ?_;refine G2 ?_;refine G2 ?_;refine G2 ?_;refine G0 oK ?_;refine G0 mV ?_;refine G2 ?_;refine G2 ?_;refine G2 ?_;refine G2 ?_
   refine G2 ?_;refine G2 ?_;refine G2 ?_;refine G2 ?_;refine G2 ?_;refine G2 ?_;refine G2 ?_;refine G2 ?_;refine G2 ?_;refine G2 ?_;refine G2 ?_;refine G2 ?_;refine G2 ?_;refine G2 ?_;refine G0 oK ?_;refine G0 mV ?_;refine G2 ?_
   refine G2 ?_;refine G2 ?_;refine G2 ?_;refine G2 ?_;refine G2 ?_;refine G2 ?_;refine G0 oK ?_;refine GK.nil ?_;refine Ct ?_;refine CQR ?_;refine A0 aV ?_;refine CN ?_
   exact zb rfl rfl (zd rfl ((zci hy hc hd (.inr (.inl g25))).symm))
  ·
   obtain ⟨e,he⟩:∃e,y.l[0]?=some e:=⟨_,List.getElem?_eq_getElem (by omega)⟩
   have hel:y.l.getD 0 zId=e:=by simp [he]
   refine G1 (oFp zbx) ?_;refine G1 (oLb zaZ zbC) ?_;refine G1 (zD (i:=0) rfl rfl rfl (by omega) za5 (by assumption)) ?_;refine G1 (zg rfl rfl zx) ?_;refine G1 mR ?_;refine G1 (zbG rfl rfl) ?_
   refine G1 (oFr fd_84_1 zee) ?_;refine G1 (zg rfl rfl zbC) ?_;refine G1 (zD (i:=0) rfl rfl rfl (by omega) za5 (by assumption)) ?_;refine G1 (zg rfl rfl zx) ?_;refine G1 (zdc rfl rfl rfl (zdd)) ?_
   refine G0 oK ?_;refine G0 mV ?_
   refine zag (d:=38) (p:=¬e=c) rfl (by simp) (fun g38=>?_) (fun g38=>?_)
   ·
    refine G2 ?_;refine G2 ?_;refine G2 ?_;refine G2 ?_;refine G2 ?_;refine G2 ?_;refine G2 ?_;refine G2 ?_;refine G2 ?_;refine G2 ?_;refine G2 ?_;refine G2 ?_;refine G2 ?_;refine G2 ?_;refine G2 ?_;refine G2 ?_;refine G2 ?_
    refine G2 ?_;refine G0 oK ?_;refine G0 mV ?_;refine G2 ?_;refine G2 ?_;refine G2 ?_;refine G2 ?_;refine G2 ?_;refine G2 ?_;refine G2 ?_;refine G0 oK ?_;refine GK.nil ?_;refine Ct ?_;refine CQR ?_;refine A0 aV ?_;refine CN ?_
    exact zb rfl rfl (zd rfl ((zci hy hc hd (.inr (.inr (.inl (by rw [hel];exact g38))))).symm))
   ·
    refine G1 (oFp zbx) ?_;refine G1 (oLb zaZ zbC) ?_;refine G1 (oFp zaU) ?_;refine G1 (oFp zdQ) ?_;refine G1 (oLb (zaH.comp zbz) zx) ?_;refine G1 mR ?_;refine G1 (zbG rfl rfl) ?_
    refine G1 (oFr fd_84_1 zee) ?_;refine G1 (zg rfl rfl zbC) ?_;refine G1 mR ?_;refine G1 (zbG rfl rfl) ?_;refine G1 (oFr zdO zaX) ?_;refine G1 (zg rfl rfl ty_3) ?_;refine G1 zap ?_
    refine G1 (zD (i:=x.at_.toNat-1) rfl rfl rfl (by omega) za5 (by assumption)) ?_;refine G1 (zg rfl rfl zx) ?_
    refine G1 (oCl (leads_ok y.l y.h.prev d) rfl fn_71 ⟨(ze rfl),(ze rfl),(by first|exact zI rfl|exact zW rfl|exact zQ rfl rfl|exact zU rfl|exact zJ rfl|exact zak rfl rfl|exact zV rfl),trivial⟩) ?_
    refine G1 oN ?_;refine G0 oK ?_;refine G0 mV ?_
    refine zag (d:=58) (p:=leadsB y.l y.h.prev d=false) rfl (by show (!(leadsB y.l y.h.prev d))=_;cases leadsB y.l y.h.prev d<;>rfl) (fun g58=>?_) (fun g58=>?_)
    ·
     refine G2 ?_;refine G2 ?_;refine G2 ?_;refine G2 ?_;refine G2 ?_;refine G2 ?_;refine G2 ?_;refine G0 oK ?_;refine GK.nil ?_;refine Ct ?_;refine CQR ?_;refine A0 aV ?_;refine CN ?_
     exact zb rfl rfl (zd rfl ((zci hy hc hd (.inr (.inr (.inr (.inl g58))))).symm))
    ·
     refine G1 (oFp zbx) ?_;refine G1 (oLb zaZ zbC) ?_;refine G1 (oCl (linkRoot_ok y.l (by omega)) rfl fn_66 ⟨(ze rfl),trivial⟩) ?_;refine G1 (oFp zaU) ?_;refine G1 (oFp zdP) ?_
     refine G1 (oLb (zaH.comp za8) zx) ?_;refine G1 (zdc rfl rfl rfl (zdd)) ?_;refine G0 oK ?_;refine GK.nil ?_
     refine zo (p:=¬linkRoot y.l=y.h.links) rfl (by simp) (fun ht66=>?_) (fun ht66=>?_)
     ·
      refine CQR ?_;refine A0 aV ?_;refine CN ?_
      exact zb rfl rfl (zd rfl ((zci hy hc hd (.inr (.inr (.inr (.inr ht66))))).symm))
     ·
      refine CSQR ?_;refine A0 aV ?_;refine CN ?_
      exact zb rfl rfl (zd rfl ((linkC_no hy hc hd (fun h=>h.elim g19 (fun h=>h.elim g25 (fun h=>h.elim (by rw [hel];exact g38) (fun h=>h.elim g58 ht66))))).symm))
theorem cwork_ok (x:CTrial) (h:TrOk x):Tells P 45 [.rptr cTrialT x] (.val i64T (workC x)):=by
 obtain ⟨h1,h2,h3,h4,h5,h6⟩:=h
 obtain ⟨y,hy⟩:∃y,x.p.p[x.at_.toNat]?=some y:=⟨_,List.getElem?_eq_getElem (by omega)⟩
 refine zc Tryz.func45 rfl rfl rfl (fun ext w hext=>?_)
 refine CQR ?_;refine A0 aV ?_;refine CNQ ?_;refine CQ ?_;refine CD mixed ?_;refine G0 mR ?_;refine G0 (zbG rfl rfl) ?_;refine G0 (oFr fd_84_0 zc0) ?_;refine G0 (oFr zac zP) ?_
 refine G0 (zg rfl rfl zbh) ?_;refine G0 mR ?_;refine G0 (zbG rfl rfl) ?_;refine G0 (oFr zdO zaX) ?_;refine G0 (zg rfl rfl ty_3) ?_
 refine G0 (zD (i:=x.at_.toNat) rfl rfl rfl (by omega) zcf (by assumption)) ?_;refine G0 (oFr zaU zaH) ?_;refine G0 (zg rfl rfl zai) ?_
 refine G0 (oCl (headMay_ok y.h) rfl fn_72 ⟨(by first|exact zI rfl|exact zW rfl|exact zQ rfl rfl|exact zU rfl|exact zJ rfl|exact zak rfl rfl|exact zV rfl),trivial⟩) ?_;refine G0 oN ?_
 refine GK.nil ?_
 refine zo (p:=¬headMay y.h=true) rfl (by cases headMay y.h<;>rfl) (fun ht16=>?_) (fun ht16=>?_)
 ·
  refine CQR ?_;refine A0 aV ?_;refine CN ?_
  exact zb rfl rfl (zd rfl (by unfold workC workF;rw [yOf_at hy,if_pos ht16]))
 ·
  refine CSQR ?_;refine A0 aV ?_;refine CN ?_
  exact zb rfl rfl (zd rfl (by unfold workC workF;rw [yOf_at hy,if_neg ht16]))
theorem checkP_ok (p:Proof):Tells P 24 [.val proofT p] (.val i64T (checkP p)):=by
 refine zc Tryz.func24 rfl rfl rfl (fun ext w hext=>?_)
 refine CQR ?_;refine zj rfl rfl rfl rfl rfl ?_;refine A0 aV ?_;refine CNQQR ?_;refine A0 (oFp zbZ) ?_;refine A0 (oLb zbd ty_3) ?_;refine A0 zC ?_;refine A0 mV ?_
 refine Sp (d:=12) (p:=p.m<1) (fun g12=>?_) (fun g12=>?_)
 ·
  refine A2 ?_;refine A2 ?_;refine A2 ?_;refine A0 oK ?_;refine A0 mV ?_;refine A2 ?_;refine A2 ?_;refine A2 ?_;refine A0 oK ?_;refine A0 mV ?_;refine A2 ?_;refine A2 ?_;refine A2 ?_;refine A0 oK ?_;refine CN ?_;refine Ct ?_
  refine CQR ?_;refine A0 aV ?_;refine CN ?_
  exact zb rfl rfl (zd rfl ((by unfold checkP;rw [if_pos (by omega)])))
 ·
  refine A1 (oFp zbZ) ?_;refine A1 (oLb zbd ty_3) ?_;refine A1 zaP ?_;refine A0 oK ?_;refine A0 mV ?_
  refine Sp (d:=17) (p:=20<p.m) (fun g17=>?_) (fun g17=>?_)
  ·
   refine A2 ?_;refine A2 ?_;refine A2 ?_;refine A0 oK ?_;refine A0 mV ?_;refine A2 ?_;refine A2 ?_;refine A2 ?_;refine A0 oK ?_;refine CN ?_;refine Ct ?_;refine CQR ?_;refine A0 aV ?_;refine CN ?_
   exact zb rfl rfl (zd rfl ((by unfold checkP;rw [if_pos (by omega)])))
  ·
   refine A1 (oFp zbS) ?_;refine A1 (oLb za3 ty_3) ?_;refine A1 zC ?_;refine A0 oK ?_;refine A0 mV ?_
   refine Sp (d:=22) (p:=p.k<1) (fun g22=>?_) (fun g22=>?_)
   ·
    refine A2 ?_;refine A2 ?_;refine A2 ?_;refine A0 oK ?_;refine CN ?_;refine Ct ?_;refine CQR ?_;refine A0 aV ?_;refine CN ?_
    exact zb rfl rfl (zd rfl ((by unfold checkP;rw [if_pos (by omega)])))
   ·
    refine A1 (oFp zbS) ?_;refine A1 (oLb za3 ty_3) ?_;refine A1 zaP ?_;refine A0 oK ?_;refine CN ?_
    refine Cf (p:=20<p.k) (fun ht26=>?_) (fun ht26=>?_)
    ·
     refine CQR ?_;refine A0 aV ?_;refine CN ?_
     exact zb rfl rfl (zd rfl ((by unfold checkP;rw [if_pos (by omega)])))
    ·
     refine CSQQR ?_;refine A0 (oFp zac) ?_;refine A0 (oLb zP zbh) ?_;refine A0 (zA rfl rfl zbL) ?_;refine A0 zaP ?_;refine A0 mV ?_
     refine Sp (d:=31) (p:=100<p.p.length) (fun g31=>?_) (fun g31=>?_)
     ·
      refine A2 ?_;refine A2 ?_;refine A2 ?_;refine A2 ?_;refine A2 ?_;refine A2 ?_;refine A0 oK ?_;refine CN ?_;refine Ct ?_;refine CQR ?_;refine A0 aV ?_;refine CN ?_
      exact zb rfl rfl (zd rfl ((by unfold checkP;rw [if_neg (by omega),if_pos (by omega)])))
     ·
      refine A1 (oFp zac) ?_;refine A1 (oLb zP zbh) ?_;refine A1 (zA rfl rfl zbL) ?_;refine A1 (oFp zbS) ?_;refine A1 (oLb za3 ty_3) ?_;refine A1 o_leq ?_;refine A0 oK ?_;refine CN ?_
      refine Cf (p:=(p.p.length:Int)≤p.k) (fun ht38=>?_) (fun ht38=>?_)
      ·
       refine CQR ?_;refine A0 aV ?_;refine CN ?_
       exact zb rfl rfl (zd rfl ((by unfold checkP;rw [if_neg (by omega),if_pos (by omega)])))
      ·
       obtain ⟨a,ha⟩:∃a,p.p[0]?=some a:=⟨_,List.getElem?_eq_getElem (by omega)⟩
       have hag:p.p.getD 0 zPartD=a:=by simp [ha]
       refine CSQR ?_;refine A0 (oFp zac) ?_;refine A0 (oLb zP zbh) ?_;refine A0 (zD (i:=0) rfl rfl rfl (by omega) zcf (by assumption)) ?_;refine A0 (oFr zaU zaH) ?_;refine A0 (oFr zby zam) ?_
       refine A0 (zg rfl rfl zae) ?_
       refine A0 (oCl (firstTip_ok a.h.bits) rfl fn_42 ⟨(by first|exact zI rfl|exact zW rfl|exact zQ rfl rfl|exact zU rfl|exact zJ rfl|exact zak rfl rfl|exact zV rfl),trivial⟩) ?_;refine A0 mX ?_
       refine A0 (by first|exact z6 rfl rfl|exact zY rfl rfl) ?_;refine A0 (by first|exact z8 rfl rfl|exact z7 rfl rfl) ?_;refine zf zek rfl rfl rfl rfl ?_
       refine za rfl rfl rfl rfl rfl (Lens.self _) zbg rfl ?_;refine A0 aV ?_;refine CNQ ?_;refine CQ ?_;refine CD mixed ?_;refine G0 mV ?_;refine G0 oN ?_;refine G0 mV ?_
       refine zag (d:=51) (p:=tgtOk a.h.bits=false) rfl (by cases tgtOk a.h.bits<;>rfl) (fun g51=>?_) (fun g51=>?_)
       ·
        refine G2 ?_;refine G2 ?_;refine G2 ?_;refine G2 ?_;refine G2 ?_;refine G2 ?_;refine G2 ?_;refine G0 oK ?_;refine G0 mV ?_;refine G2 ?_;refine G2 ?_;refine G2 ?_;refine G2 ?_;refine G2 ?_;refine G2 ?_;refine G2 ?_;refine G2 ?_
        refine G2 ?_;refine G0 oK ?_;refine GK.nil ?_;refine Ct ?_;refine CQR ?_;refine A0 aV ?_;refine CN ?_
        exact zb rfl rfl (zd rfl ((by unfold checkP;rw [if_neg (by omega),if_neg (by omega),hag,if_pos (.inl g51)])))
       ·
        refine G1 (oFp zac) ?_;refine G1 (oLb zP zbh) ?_;refine G1 (zD (i:=0) rfl rfl rfl (by omega) zcf (by assumption)) ?_;refine G1 (oFr zbx zaZ) ?_;refine G1 (zg rfl rfl zbC) ?_
        refine G1 (by first|exact zA rfl rfl zat|exact zbi rfl rfl rfl zat|exact zbY rfl rfl zat) ?_;refine G1 zaP ?_;refine G0 oK ?_;refine G0 mV ?_
        refine zag (d:=60) (p:=0<a.l.length) rfl (by first|rfl|(rw [decide_eq_decide];simp only [IntL.toI,id_eq];omega)|(simp [IntL.toI];done)|(simp [IntL.toI];omega)) (fun g60=>?_) (fun g60=>?_)
        ·
         refine G2 ?_;refine G2 ?_;refine G2 ?_;refine G2 ?_;refine G2 ?_;refine G2 ?_;refine G2 ?_;refine G2 ?_;refine G2 ?_;refine G0 oK ?_;refine GK.nil ?_;refine Ct ?_;refine CQR ?_;refine A0 aV ?_;refine CN ?_
         exact zb rfl rfl (zd rfl ((by unfold checkP;rw [if_neg (by omega),if_neg (by omega),hag,if_pos (.inr (.inl g60))])))
        ·
         refine G1 (oFp zac) ?_;refine G1 (oLb zP zbh) ?_;refine G1 (zD (i:=0) rfl rfl rfl (by omega) zcf (by assumption)) ?_;refine G1 (oFr zaU zaH) ?_;refine G1 (zg rfl rfl zai) ?_
         refine G1 (oFp zcs) ?_;refine G1 (oFp zbc) ?_;refine G1 (oLb (zct.comp zax) zai) ?_;refine G1 (zdc rfl rfl rfl (eqt_55)) ?_;refine G0 oK ?_;refine GK.nil ?_
         refine zo (p:=¬a.h=(firstTip a.h.bits).b.h) rfl (by simp) (fun ht70=>?_) (fun ht70=>?_)
         ·
          refine CQR ?_;refine A0 aV ?_;refine CN ?_
          exact zb rfl rfl (zd rfl ((by unfold checkP;rw [if_neg (by omega),if_neg (by omega),hag,if_pos (.inr (.inr ht70))])))
         ·
          have hcp:checkP p=trialsE p (idsP p) (p.p.length-1) 1:=by unfold checkP;rw [if_neg (by omega),if_neg (by omega),hag,if_neg (fun h=>h.elim g51 (fun h=>h.elim g60 ht70))]
          have hids:=zw (ids_ok p (by omega))
          obtain ⟨ids,hid⟩:∃ids,ids=idsP p:=⟨_,rfl⟩
          rw [←hid] at hids hcp
          have hidl:ids.length=p.p.length:=by rw [hid];unfold idsP;simp
          refine CS ?_;refine CQ ?_;refine zB [some 1,some 1,some 1,some 1,none,some 1] mixed (by decide +kernel) ?_;refine X0 (oLs rfl rfl rfl zy) ?_;refine X0 (oLs rfl rfl rfl zy) ?_
          refine X0 (oCl (hids) rfl fn_28 ⟨(ze rfl),trivial⟩) ?_;refine X0 (zab rfl ze_84 bd_84 (.cons fd_84_0 zc0 zy rfl (.cons fd_84_1 zee zbC rfl .nil)) rfl) ?_
          refine XK.e (fun fr' hfr kk H=>by exact zj rfl rfl rfl rfl ((hfr 74 (by decide +kernel)).trans rfl) (zG H)) ?_;refine X0 aP ?_;refine XK.nil' ?_;refine CQQR ?_;refine A0 mP ?_;refine A0 (g_nc rfl rfl) ?_
          refine A0 (oFp zdO) ?_;refine za rfl rfl rfl rfl rfl zaX ty_3 rfl ?_;refine CNB ?_;refine zz (n:=2) (y:=(⟨p,ids,((1:Nat):Int)⟩:CTrial)) rfl rfl ?_
          refine Lp (ι:=Nat) 3 (fun (i:Nat)=>((Fr.none).set 1 (.ptr 0 0)).set 5 (.ptr 2 0)) (fun (i:Nat)=>((Hp.none).set 0 (.box 25 proofT p)).set 2 (.box 84 cTrialT ⟨p,ids,(i:Int)⟩)) (fun (i:Nat)=>1≤i∧i≤p.p.length∧checkP p=trialsE p ids (p.p.length-i) i) (fun (i:Nat)=>p.p.length-i) (1) (⟨Nat.le_refl _,by omega,hcp⟩) ?_
          intro i hinv
          refine CQ ?_;refine CQ ?_;refine CD mixed ?_;refine G0 mP ?_;refine G0 (g_nc rfl rfl) ?_;refine G0 (oFp zdO) ?_;refine G0 (oLb zaX ty_3) ?_;refine G0 (oFp zac) ?_;refine G0 (oLb zP zbh) ?_
          refine G0 (zA rfl rfl zbL) ?_;refine G0 zC ?_;refine GK.nil ?_
          refine Cf (p:=i<p.p.length) (fun ht86=>?_) (fun ht86=>?_)
          ·
           have htr:TrOk ⟨p,ids,(i:Int)⟩:=⟨by show (1:Int)≤i;omega,by show (i:Int)<p.p.length;omega,hidl,by show p.p.length≤100;omega,by show 1≤p.k;omega,by show p.k≤20;omega⟩
           refine CSQBQR ?_;refine A0 (g_buildF (xs:=[_,_,_]) rfl ar_86 ze_86 ⟨rfl,⟨_,rfl,rfl⟩,rfl,⟨_,rfl,rfl⟩,rfl,⟨_,rfl,rfl⟩,trivial⟩ rfl) ?_;refine zl (d:=94) (y:=three) rfl rfl ?_;refine A0 mV ?_;refine CNB ?_
           refine Lp (ι:=Nat) 3 (fun (j:Nat)=>((((Fr.none).set 1 (.ptr 0 0)).set 5 (.ptr 2 0)).set 94 (.val (arrT 3 (by decide) fnoT) three)).set 95 (.val i64T (j:Int))) (fun (j:Nat)=>((Hp.none).set 0 (.box 25 proofT p)).set 2 (.box 84 cTrialT ⟨p,ids,(i:Int)⟩)) (fun (j:Nat)=>j≤3∧firstC three ⟨p,ids,i⟩=firstC (three.drop j) ⟨p,ids,i⟩) (fun (j:Nat)=>3-j) (0) (⟨by omega,rfl⟩) ?_
           intro j hj
           refine CQR ?_;refine A0 zC ?_;refine CNQ ?_
           refine Cf (p:=j<3) (fun ht96=>?_) (fun ht96=>?_)
           ·
            obtain ⟨e,he⟩:∃e,three[j]?=some e:=⟨_,List.getElem?_eq_getElem (show j<three.length from ht96)⟩
            have hask:e=some 43∨e=some 44∨e=some 45:=by have h:=List.mem_of_getElem? he;unfold three at h;simpa using h
            rcases hask with hk|hk|hk
            ·
             refine CSQBQR ?_;refine A0 (g_index rfl rfl rfl rfl ar_86 ty_85 (by assumption)) ?_;refine zl (d:=97) rfl hk ?_;refine zdv (d:=97) (f:=43) rfl ?_;refine A0 aC ?_;refine CNQR ?_;refine A0 mC ?_;refine A0 mP ?_
             refine A0 (zdl (As:=[_]) (Cs:=[]) (cprev_ok ⟨p,ids,i⟩ htr) rfl rfl fn_43 ⟨(by first|exact zeT rfl rfl (Lens.self _)|exact zed rfl rfl),trivial⟩ (by intro n hn;cases hn) trivial rfl) ?_;refine A0 aX ?_;refine CNQR ?_
             refine A0 mX ?_;refine A0 zaz ?_;refine CN ?_
             refine zo (p:=¬askC e ⟨p,ids,i⟩=0) rfl (by simp [askC,hk,IntL.toI]) (fun ht102=>?_) (fun ht102=>?_)
             ·
              refine CQR ?_;refine A0 mX ?_;refine A0 aX ?_;refine CN ?_
              exact zb rfl rfl (zd rfl (by rw [hinv.2.2,zcR ht86 (by rw [hj.2,zcU he ht102];exact ht102),hj.2,zcU he ht102,hk];rfl))
             ·
              refine CSIR ?_;refine A0 zs ?_;refine A0 mV ?_;refine CN ?_
              exact Nx (j+1) (⟨by omega,hj.2.trans (firstC_step he (Classical.not_not.1 ht102))⟩) (by omega)
            ·
             refine CSQBQR ?_;refine A0 (g_index rfl rfl rfl rfl ar_86 ty_85 (by assumption)) ?_;refine zl (d:=97) rfl hk ?_;refine zdv (d:=97) (f:=44) rfl ?_;refine A0 aC ?_;refine CNQR ?_;refine A0 mC ?_;refine A0 mP ?_
             refine A0 (zdl (As:=[_]) (Cs:=[]) (clink_ok ⟨p,ids,i⟩ htr) rfl rfl fn_44 ⟨(by first|exact zeT rfl rfl (Lens.self _)|exact zed rfl rfl),trivial⟩ (by intro n hn;cases hn) trivial rfl) ?_;refine A0 aX ?_;refine CNQR ?_
             refine A0 mX ?_;refine A0 zaz ?_;refine CN ?_
             refine zo (p:=¬askC e ⟨p,ids,i⟩=0) rfl (by simp [askC,hk,IntL.toI]) (fun ht102=>?_) (fun ht102=>?_)
             ·
              refine CQR ?_;refine A0 mX ?_;refine A0 aX ?_;refine CN ?_
              exact zb rfl rfl (zd rfl (by rw [hinv.2.2,zcR ht86 (by rw [hj.2,zcU he ht102];exact ht102),hj.2,zcU he ht102,hk];rfl))
             ·
              refine CSIR ?_;refine A0 zs ?_;refine A0 mV ?_;refine CN ?_
              exact Nx (j+1) (⟨by omega,hj.2.trans (firstC_step he (Classical.not_not.1 ht102))⟩) (by omega)
            ·
             refine CSQBQR ?_;refine A0 (g_index rfl rfl rfl rfl ar_86 ty_85 (by assumption)) ?_;refine zl (d:=97) rfl hk ?_;refine zdv (d:=97) (f:=45) rfl ?_;refine A0 aC ?_;refine CNQR ?_;refine A0 mC ?_;refine A0 mP ?_
             refine A0 (zdl (As:=[_]) (Cs:=[]) (cwork_ok ⟨p,ids,i⟩ htr) rfl rfl fn_45 ⟨(by first|exact zeT rfl rfl (Lens.self _)|exact zed rfl rfl),trivial⟩ (by intro n hn;cases hn) trivial rfl) ?_;refine A0 aX ?_;refine CNQR ?_
             refine A0 mX ?_;refine A0 zaz ?_;refine CN ?_
             refine zo (p:=¬askC e ⟨p,ids,i⟩=0) rfl (by simp [askC,hk,IntL.toI]) (fun ht102=>?_) (fun ht102=>?_)
             ·
              refine CQR ?_;refine A0 mX ?_;refine A0 aX ?_;refine CN ?_
              exact zb rfl rfl (zd rfl (by rw [hinv.2.2,zcR ht86 (by rw [hj.2,zcU he ht102];exact ht102),hj.2,zcU he ht102,hk];rfl))
             ·
              refine CSIR ?_;refine A0 zs ?_;refine A0 mV ?_;refine CN ?_
              exact Nx (j+1) (⟨by omega,hj.2.trans (firstC_step he (Classical.not_not.1 ht102))⟩) (by omega)
           ·
            refine CE ?_;refine CI ?_;refine CR ?_;refine A0 mP ?_;refine A0 (g_nc rfl rfl) ?_;refine A0 (oFp zdO) ?_;refine A0 (oLb zaX ty_3) ?_;refine A0 zs ?_;refine A0 (g_nc rfl rfl) ?_;refine A0 (oFp zdO) ?_
            refine za rfl rfl rfl rfl rfl zaX ty_3 rfl ?_;refine CN ?_;refine zz (n:=2) (y:=(⟨p,ids,((i+1:Nat):Int)⟩:CTrial)) rfl rfl ?_
            exact Nx (i+1) (⟨by omega,by omega,by rw [hinv.2.2];exact trials_go ht86 (hj.2.trans (by rw [List.drop_of_length_le (show three.length≤j by show 3≤j;omega)];rfl))⟩) (by omega)
          ·
           refine CE ?_;refine CQR ?_;refine A0 aV ?_;refine CN ?_
           exact zb rfl rfl (zd rfl (by rw [hinv.2.2,show p.p.length-i=0 by omega];rfl))
theorem fewPr_ok (p:Proof):Tells P 11 [.val proofT p] (.val boolT (fewPr p)):=by
 refine zc Tryz.func11 rfl rfl rfl (fun ext w hext=>?_)
 refine CQR ?_;refine zj rfl rfl rfl rfl rfl ?_;refine A0 aV ?_;refine CNQQR ?_;refine A0 aV ?_;refine CNB ?_
 refine Lp (ι:=Nat) 1 (fun (k:Nat)=>((Fr.none).set 1 (.ptr 0 0)).set 3 (.val i64T (k:Int))) (fun (k:Nat)=>(Hp.none).set 0 (.box 25 proofT p)) (fun (k:Nat)=>k≤p.p.length∧(p.p.take k).all (fun x=>decide (x.l.length≤40))=true) (fun (k:Nat)=>p.p.length-k) (0) (⟨Nat.zero_le _,rfl⟩) ?_
 intro k hinv
 refine CQQR ?_;refine A0 mV ?_;refine A0 (oFp zac) ?_;refine A0 (oLb zP zbh) ?_
 refine zh (d:=6) rfl zn (fun hsl6=>?_)
 refine A0 (zA rfl rfl zbL) ?_;refine A0 zC ?_;refine CN ?_
 refine Cf (p:=k<p.p.length) (fun ht8=>?_) (fun ht8=>?_)
 ·
  obtain ⟨x,hx⟩:∃x,p.p[k]?=some x:=⟨_,List.getElem?_eq_getElem ht8⟩
  refine CSQBQR ?_;refine A0 (oFp zac) ?_;refine A0 (oLb zP zbh) ?_;refine A0 mV ?_;refine A0 (zaq rfl rfl rfl zcf (by assumption)) ?_;refine A0 (oFr zbx zaZ) ?_;refine A0 (zg rfl rfl zbC) ?_
  refine A0 (by first|exact zA rfl rfl zat|exact zbi rfl rfl rfl zat|exact zbY rfl rfl zat) ?_;refine A0 zaP ?_;refine CN ?_
  refine Cf (p:=40<x.l.length) (fun ht18=>?_) (fun ht18=>?_)
  ·
   refine CQR ?_;refine A0 aV ?_;refine CN ?_
   exact zb rfl rfl (zd rfl ((by symm;unfold fewPr;rw [Bool.and_eq_false_iff];left;rw [List.all_eq_false];exact ⟨x,List.mem_of_getElem? hx,by simp;omega⟩)))
  ·
   refine CSIR ?_;refine A0 mV ?_;refine A0 zs ?_;refine A0 aV ?_;refine CN ?_
   exact Nx (k+1) (⟨by omega,by rw [List.take_add_one,hx,List.all_append,hinv.2];simp;omega⟩) (by omega)
 ·
  refine CE ?_;refine CQR ?_;refine A0 (oFp zac) ?_;refine A0 (oLb zP zbh) ?_;refine A0 (zA rfl rfl zbL) ?_;refine A0 o_leq ?_;refine A0 aV ?_;refine CN ?_
  exact zb rfl rfl (zd rfl ((by have h:=hinv.2;rw [List.take_of_length_le (by omega)] at h;unfold fewPr;rw [h,Bool.true_and,decide_eq_decide];simp only [IntL.toI,id_eq];omega)))
end Go.Proofs.YtdeghaedeefooaaGreat
set_option maxRecDepth 20000
namespace Go.Proofs.YtdeghaedeefooaaGreat
open Go.Ab Go.RowKit
theorem easy_newOf:newOf 545259519=[easyB0]:=by unfold newOf;rw [if_pos easy_ok,easy_tip];rfl
end Go.Proofs.YtdeghaedeefooaaGreat
set_option maxRecDepth 20000
namespace Go.Proofs.YtdeghaedeefooaaGreat
open Go.Ab Go.RowKit
def easyP:Proof:=⟨1,1,[⟨easyH,[]⟩,⟨easyB.h,[id0]⟩]⟩
theorem climb_easy (y:Int):∀i:Nat,i≤32→climbS [31,y] 1 1 i=(0,if i=0 then [] else [0])
  | 0,_=>rfl
  | i+1,h=>by
    have ih:=climb_easy y i (by omega)
    have hu:upOf [31,y] 0 ((([31,y]:List Int).length:Int)-1) (31-(i:Int))=[0]:=by
      show upR [31,y] (31-(i:Int)) 0 (0+1)=[0]
      rw [upR_yes (v:=[31,y]) (n:=31-(i:Int)) (x:=31) (a:=0) (i:=0) rfl (Nat.le_refl _) (by omega),upR_same];rfl
    have e1:(climbS [31,y] 1 1 i).1=0:=by rw [ih]
    have e2:(climbS [31,y] 1 1 i).2=if i=0 then [] else [0]:=by rw [ih]
    show (if _ then _ else _,_)=_
    have h0:(if i+1=0 then ([]:List Int) else [0])=[0]:=if_neg (by omega)
    rw [e1,e2,hu,h0,if_neg (by decide)]
    by_cases c:i=0<;>simp [c,setAdd]
theorem easy_lvs:levelsOf [easyB0,easyB]=[31,headLevel easyB.h]:=by
  show [headLevel easyH,headLevel easyB.h]=_
  rw [easy_level]
theorem easy_le1:decide (headLevel easyB.h≤31)=true:=by kernel_rfl
theorem easy_mayP:mayP [31,headLevel easyB.h] 1 1=true:=by
  have h1:=of_decide_eq_true easy_level1
  have h2:=of_decide_eq_true easy_le1
  unfold mayP mayV
  generalize headLevel easyB.h=y at h1 h2
  simp
  omega
theorem easy_prefix:prefixOf (levelsOf [easyB0,easyB]) 1 1=([0],true):=by
  unfold prefixOf
  rw [easy_lvs,if_pos easy_mayP,climb_easy _ 32 (Nat.le_refl _),if_neg (by decide)]
  simp [sortInts]
theorem easy_prE:prE [easyB0,easyB] 1 1=0:=by
  unfold prE
  rw [easy_chain1,if_neg (by decide),if_neg (by decide)]
theorem easy_pr:prOf [easyB0,easyB] 1 1=easyP:=by
  unfold prOf
  rw [if_pos easy_prE]
  unfold placesOf
  rw [easy_prefix]
  rfl
theorem easy_lkroot:linkRoot [id0]=easyB.h.links:=(root_one _).trans easy_lk
theorem easy_check:checkP easyP=0:=by
  have ei:idsP easyP=[id0,headId easyB.h]:=by show [headId easyH,headId easyB.h]=_;rw [easy_id]
  unfold checkP
  rw [if_neg (by decide),if_neg (by decide),if_neg (by
    rintro (h|h|h)
    · exact absurd (show tgtOk 545259519=true from easy_ok) (by rw [show tgtOk 545259519=false from h];decide)
    · exact absurd h (by decide)
    · exact h (show easyH=(firstTip 545259519).b.h by rw [easy_tip];rfl)),ei]
  show (if _ then _ else _)=_
  have hf:firstC three ⟨easyP,[id0,headId easyB.h],((1:Nat):Int)⟩=0:=by
    rw [firstC_three]
    have e1:prevC ⟨easyP,[id0,headId easyB.h],((1:Nat):Int)⟩=0:=prevC_no (y:=⟨easyB.h,[id0]⟩) (z:=⟨easyH,[]⟩) (d:=id0) rfl rfl rfl (by
      rintro (h|h|⟨_,h|h⟩)
      · exact absurd h (by decide)
      · exact h rfl
      · exact h rfl
      · exact h rfl)
    have e2:linkC ⟨easyP,[id0,headId easyB.h],((1:Nat):Int)⟩=0:=linkC_no (y:=⟨easyB.h,[id0]⟩) (c:=id0) (d:=id0) rfl rfl rfl (by
      rintro (h|h|h|h|h)
      · exact absurd h (by decide)
      · exact absurd h (by decide)
      · exact h rfl
      · rw [show leadsB [id0] easyB.h.prev id0=true by unfold leadsB;rw [decide_eq_true (show easyB.h.prev=id0 from rfl)];rfl] at h;cases h
      · exact h easy_lkroot)
    have e3:workC ⟨easyP,[id0,headId easyB.h],((1:Nat):Int)⟩=0:=by
      unfold workC workF
      rw [yOf_at (y:=⟨easyB.h,[id0]⟩) rfl,if_neg (fun h=>h easy_may1)]
    rw [if_neg (fun h=>h e1),if_neg (fun h=>h e2),e3]
  rw [if_pos hf];rfl
theorem zero_check:checkP zProof=1:=by unfold checkP;rw [if_pos (.inl (by decide))]
def yAt (p:Proof) (i:Nat):Part:=p.p.getD i zPartD
def stepOk (p:Proof) (i:Nat):Prop :=
  prevF (yAt p i) (yAt p (i-1)) ((p.p.length:Int)-p.k≤(i:Int)) (headId (yAt p (i-1)).h)=0∧linkF (yAt p i) (headId (yAt p 0).h) (headId (yAt p (i-1)).h)=0∧workF (yAt p i)=0
def beginOk (a:Part):Prop:=tgtOk a.h.bits=true∧a.l.length=0∧a.h=(firstTip a.h.bits).b.h
structure HoldsP (p:Proof):Prop where
  m1:1≤p.m
  m2:p.m≤20
  k1:1≤p.k
  k2:p.k≤20
  l1:p.k<p.p.length
  l2:p.p.length≤100
  fst:beginOk (yAt p 0)
  steps:∀i,1≤i→i<p.p.length→stepOk p i
theorem prevF_zero {y z:Part} {last:Prop} [Decidable last] {d:Ab.Id}:prevF y z last d=0↔z.h.height<y.h.height∧y.h.bits=z.h.bits∧(last→y.h.height=IntKind.i64.wrap (z.h.height+1)∧y.h.prev=d):=by
  unfold prevF
  constructor
  · intro h
    have hn:¬(y.h.height≤z.h.height∨¬y.h.bits=z.h.bits∨last∧(¬y.h.height=IntKind.i64.wrap (z.h.height+1)∨¬y.h.prev=d)):=fun c=>by rw [if_pos c] at h;cases h
    refine ⟨Int.not_le.1 fun c=>hn (.inl c),Classical.not_not.1 fun c=>hn (.inr (.inl c)),fun hl=>⟨Classical.not_not.1 fun c=>hn (.inr (.inr ⟨hl,.inl c⟩)),Classical.not_not.1 fun c=>hn (.inr (.inr ⟨hl,.inr c⟩))⟩⟩
  · rintro ⟨h1,h2,h3⟩
    rw [if_neg]
    rintro (c|c|⟨hl,c|c⟩)
    · omega
    · exact c h2
    · exact c (h3 hl).1
    · exact c (h3 hl).2
theorem trials_zero {p:Proof} {ids:List Ab.Id}:∀(n i:Nat),trialsE p ids n i=0↔∀j,i≤j→j<i+n→firstC three ⟨p,ids,j⟩=0
  | 0,i=>by simp [trialsE];intro j h1 h2;omega
  | n+1,i=>by
    show (if firstC three ⟨p,ids,i⟩=0 then trialsE p ids n (i+1) else firstC three ⟨p,ids,i⟩)=0↔_
    by_cases c:firstC three ⟨p,ids,i⟩=0
    · rw [if_pos c,trials_zero n (i+1)]
      constructor
      · intro h j h1 h2
        by_cases e:j=i
        · rw [e];exact c
        · exact h j (by omega) (by omega)
      · intro h j h1 h2;exact h j (by omega) (by omega)
    · rw [if_neg c]
      exact ⟨fun h=>absurd h c,fun h=>h i (Nat.le_refl _) (by omega)⟩
theorem ids_at (p:Proof) {i:Nat} (h:i<p.p.length):(idsP p)[i]?=some (headId (yAt p i).h):=by
  unfold idsP yAt
  rw [List.getElem?_map,List.getElem?_eq_getElem h]
  simp [h]
theorem at_ (p:Proof) {i:Nat} (h:i<p.p.length):p.p[i]?=some (yAt p i):=by unfold yAt;rw [List.getElem?_eq_getElem h];simp [h]
theorem first_zero (p:Proof) {i:Nat} (h1:1≤i) (h:i<p.p.length):firstC three ⟨p,idsP p,(i:Int)⟩=0↔stepOk p i:=by
  rw [firstC_three]
  have e1:prevC ⟨p,idsP p,(i:Int)⟩=prevF (yAt p i) (yAt p (i-1)) ((p.p.length:Int)-p.k≤(i:Int)) (headId (yAt p (i-1)).h):=by
    unfold prevC
    rw [yOf_at (y:=yAt p i) (at_ p h),zOf_at (y:=yAt p (i-1)) (at_ p (i:=i-1) (by omega)),dOf_at (ids_at p (i:=i-1) (by omega))]
  have e2:linkC ⟨p,idsP p,(i:Int)⟩=linkF (yAt p i) (headId (yAt p 0).h) (headId (yAt p (i-1)).h):=by
    unfold linkC
    rw [yOf_at (y:=yAt p i) (at_ p h),cOf_at (ids_at p (i:=0) (by omega)),dOf_at (ids_at p (i:=i-1) (by omega))]
  have e3:workC ⟨p,idsP p,(i:Int)⟩=workF (yAt p i):=by
    unfold workC
    rw [yOf_at (y:=yAt p i) (at_ p h)]
  rw [e1,e2,e3]
  unfold stepOk
  generalize prevF (yAt p i) (yAt p (i-1)) ((p.p.length:Int)-p.k≤(i:Int)) (headId (yAt p (i-1)).h)=a
  generalize linkF (yAt p i) (headId (yAt p 0).h) (headId (yAt p (i-1)).h)=b
  by_cases ha:a=0
  · by_cases hb:b=0
    · simp [ha,hb]
    · simp [ha,hb]
  · simp [ha]
theorem checkP_holds {p:Proof}:checkP p=0↔HoldsP p:=by
  have ey:p.p.getD 0 zPartD=yAt p 0:=rfl
  unfold checkP
  rw [ey]
  constructor
  · intro h
    by_cases c1:p.m<1∨20<p.m∨p.k<1∨20<p.k
    · rw [if_pos c1] at h;cases h
    rw [if_neg c1] at h
    by_cases c2:100<p.p.length∨(p.p.length:Int)≤p.k
    · rw [if_pos c2] at h;cases h
    rw [if_neg c2] at h
    by_cases c3:tgtOk (yAt p 0).h.bits=false∨0<(yAt p 0).l.length∨¬(yAt p 0).h=(firstTip (yAt p 0).h.bits).b.h
    · rw [if_pos c3] at h;cases h
    rw [if_neg c3,trials_zero] at h
    refine ⟨by omega,by omega,by omega,by omega,by omega,by omega,⟨?_,by omega,Classical.not_not.1 fun e=>c3 (.inr (.inr e))⟩,fun i h1 h2=>(first_zero p h1 h2).1 (h i h1 (by omega))⟩
    cases e:tgtOk (yAt p 0).h.bits
    · exact absurd (.inl e) c3
    · rfl
  · intro h
    have:=h.m1;have:=h.m2;have:=h.k1;have:=h.k2;have:=h.l1;have:=h.l2
    rw [if_neg (by omega),if_neg (by omega),if_neg (by
      rintro (e|e|e)
      · rw [h.fst.1] at e;cases e
      · have:=h.fst.2.1;omega
      · exact e h.fst.2.2),trials_zero]
    exact fun i h1 h2=>(first_zero p h1 (by omega)).2 (h.steps i h1 (by omega))
theorem HoldsP.step {p : Proof} (h : HoldsP p) {i : Nat} (h1 : 1 ≤ i) (h2 : i < p.p.length) :
    (yAt p (i-1)).h.height<(yAt p i).h.height∧(yAt p i).h.bits=(yAt p (i-1)).h.bits∧((p.p.length:Int)-p.k≤(i:Int)→(yAt p i).h.height=IntKind.i64.wrap ((yAt p (i-1)).h.height+1)∧(yAt p i).h.prev=headId (yAt p (i-1)).h):=prevF_zero.1 (h.steps i h1 h2).1
theorem first_height (bits:UInt32):(firstTip bits).b.h.height=0:=by
  unfold firstTip
  split<;>rfl
theorem HoldsP.zero {p:Proof} (h:HoldsP p):(yAt p 0).h.height=0:=by rw [h.fst.2.2];exact first_height _
theorem HoldsP.bits {p:Proof} (h:HoldsP p):∀i,i<p.p.length→(yAt p i).h.bits=(yAt p 0).h.bits
  | 0,_=>rfl
  | i+1,hi=>by
    have:=(h.step (i:=i+1) (by omega) hi).2.1
    rw [Nat.add_sub_cancel] at this
    rw [this];exact h.bits i (by omega)
theorem fewPr_len {p:Proof} (h:fewPr p=true):p.p.length≤110:=by
  unfold fewPr at h
  rw [Bool.and_eq_true,decide_eq_true_eq] at h
  exact h.2
theorem fewPr_links {p:Proof} (h:fewPr p=true) {x:Part} (hx:x∈p.p):x.l.length≤40:=by
  unfold fewPr at h
  rw [Bool.and_eq_true] at h
  exact of_decide_eq_true (List.all_eq_true.1 h.1 x hx)
theorem split_proofV (p:Proof):SplitOk proofT p [.val i64T p.m,.val i64T p.k,.val (sl partT) p.p]:=split_via (zcv zcz (zcv zcz zcz))
theorem two_ok:Tells P 27 [] (.val (sl blockT) [easyB0,easyB]):=by
 refine zc Tryz.func27 rfl rfl rfl (fun ext w hext=>?_)
 refine CQR ?_;refine A0 aL ?_;refine CNQR ?_;refine A0 (oCl (newC_ok 545259519) rfl fn_51 ⟨(ze rfl),trivial⟩) ?_;refine A0 mX ?_;refine A0 (by first|exact z6 rfl rfl|exact zY rfl rfl) ?_
 refine zl (d:=7) (y:=[easyB0]) rfl easy_newOf ?_;refine A0 (by first|exact z8 rfl rfl|exact z7 rfl rfl) ?_;refine A0 aV ?_;refine A0 aV ?_;refine CNQR ?_;refine A0 mV ?_
 refine A0 (oCl (zcS (growC_ok [easyB0] [] 0 small_easyC0 ⟨by decide,fun t ht=>by cases ht⟩)) rfl fn_52 ⟨(ze rfl),(by first|exact zI rfl|exact zW rfl|exact zQ rfl rfl|exact zU rfl|exact zJ rfl|exact zak rfl rfl|exact zV rfl),(ze rfl),trivial⟩) ?_
 refine A0 mX ?_;refine A0 (by first|exact z6 rfl rfl|exact zY rfl rfl) ?_;refine zl (d:=12) (y:=[easyB0,easyB]) rfl easy_grown ?_;refine A0 (by first|exact z8 rfl rfl|exact z7 rfl rfl) ?_;refine A0 aV ?_
 refine A0 aV ?_;refine CNQR ?_;refine A0 mV ?_;refine A0 aV ?_;refine CN ?_
 exact zb rfl rfl (zd rfl (rfl))
end Go.Proofs.YtdeghaedeefooaaGreat
set_option maxRecDepth 20000
namespace Go.Proofs.YtdeghaedeefooaaGreat
open Go.Ab Go.RowKit
theorem three_zero {x:CTrial}:firstC three x=if ¬decide (prevC x=0)=true then prevC x else if ¬decide (linkC x=0)=true then linkC x else workC x:=by
  rw [firstC_three]
  simp only [decide_eq_true_eq]
theorem prevC_or (x:CTrial):prevC x=0∨prevC x=5:=by unfold prevC prevF;split<;>simp
theorem linkC_or (x:CTrial):linkC x=0∨linkC x=6:=by unfold linkC linkF;split<;>simp
theorem r18ids_ok (p:Proof) (hl:p.p.length≤1000000000000):Tells P 31 [.val proofT p] (.fresh 49 idT (idsP p)):=by
 refine zc Tryz.func31 rfl rfl rfl (fun ext w hext=>?_)
 refine CQR ?_;refine zj rfl rfl rfl rfl rfl ?_;refine A0 aL ?_;refine CNQR ?_;refine A0 aL ?_;refine CNQQR ?_;refine A0 aV ?_;refine CNB ?_;refine zbp (T:=idT) (d:=3) 49 rfl ?_
 refine Lp (ι:=Nat) 2 (fun (k:Nat)=>(((Fr.none).set 1 (.ptr 0 0)).set 3 (.own 1)).set 4 (.val i64T (k:Int))) (fun (k:Nat)=>((Hp.none).set 0 (.box 25 proofT p)).set 1 (.row 49 idT ((p.p.take k).map fun x=>headId x.h))) (fun (k:Nat)=>k≤p.p.length) (fun (k:Nat)=>p.p.length-k) (0) (Nat.zero_le _) ?_
 intro k hinv
 refine CQQR ?_;refine A0 mV ?_;refine A0 (oFp zac) ?_;refine A0 (oLb zP zbh) ?_;refine A0 (zA rfl rfl zbL) ?_;refine A0 zC ?_;refine CN ?_
 refine Cf (p:=k<p.p.length) (fun ht9=>?_) (fun ht9=>?_)
 ·
  obtain ⟨x,hx⟩:∃x,p.p[k]?=some x:=⟨_,List.getElem?_eq_getElem ht9⟩
  refine CS ?_;refine CQ ?_;refine CB ?_;refine CR ?_;refine A0 mO ?_;refine A0 (oFp zac) ?_;refine A0 (oLb zP zbh) ?_;refine A0 mV ?_;refine A0 (zD (i:=k) rfl rfl rfl (by omega) zcf (by assumption)) ?_
  refine A0 (oFr zaU zaH) ?_;refine A0 (zg rfl rfl zai) ?_
  refine A0 (oCl (rheadId_ok x.h) rfl fn_55 ⟨(by first|exact zI rfl|exact zW rfl|exact zQ rfl rfl|exact zU rfl|exact zJ rfl|exact zak rfl rfl|exact zV rfl),trivial⟩) ?_
  refine A0 (zr (T:=idT) (xs:=[_]) rfl za5 zca ⟨rfl,rfl,trivial⟩ rfl rfl) ?_;refine zu rfl rfl rfl rfl rfl rfl rfl zca (by simp;omega) ?_;refine A0 aO ?_;refine CNIR ?_;refine A0 mV ?_;refine A0 zs ?_
  refine A0 aV ?_;refine CN ?_;refine zaQ 2 1 3 rfl rfl rfl rfl rfl rfl ?_;refine zO (n:=1) (y:=(p.p.take (k+1)).map fun x=>headId x.h) rfl (by rw [List.take_add_one,hx,List.map_append];simp) ?_
  exact Nx (k+1) (by omega) (by omega)
 ·
  refine CE ?_;refine CQR ?_;refine A0 mO ?_;refine A0 aO ?_;refine CN ?_
  exact zb rfl rfl (zi rfl rfl (by rw [List.take_of_length_le (by omega)];rfl))
theorem r18levels_ok (p:Proof) (hl:p.p.length≤1000000000000):Tells P 39 [.val proofT p] (.fresh 3 i64T (levelsP p)):=by
 refine zc Tryz.func39 rfl rfl rfl (fun ext w hext=>?_)
 refine CQR ?_;refine zj rfl rfl rfl rfl rfl ?_;refine A0 aL ?_;refine CNQR ?_;refine A0 aL ?_;refine CNQQR ?_;refine A0 aV ?_;refine CNB ?_;refine zbp (T:=i64T) (d:=3) 3 rfl ?_
 refine Lp (ι:=Nat) 2 (fun (k:Nat)=>(((Fr.none).set 1 (.ptr 0 0)).set 3 (.own 1)).set 4 (.val i64T (k:Int))) (fun (k:Nat)=>((Hp.none).set 0 (.box 25 proofT p)).set 1 (.row 3 i64T ((p.p.take k).map fun x=>headLevel x.h))) (fun (k:Nat)=>k≤p.p.length) (fun (k:Nat)=>p.p.length-k) (0) (Nat.zero_le _) ?_
 intro k hinv
 refine CQQR ?_;refine A0 mV ?_;refine A0 (oFp zac) ?_;refine A0 (oLb zP zbh) ?_;refine A0 (zA rfl rfl zbL) ?_;refine A0 zC ?_;refine CN ?_
 refine Cf (p:=k<p.p.length) (fun ht9=>?_) (fun ht9=>?_)
 ·
  obtain ⟨x,hx⟩:∃x,p.p[k]?=some x:=⟨_,List.getElem?_eq_getElem ht9⟩
  refine CS ?_;refine CQ ?_;refine CB ?_;refine CR ?_;refine A0 mO ?_;refine A0 (oFp zac) ?_;refine A0 (oLb zP zbh) ?_;refine A0 mV ?_;refine A0 (zD (i:=k) rfl rfl rfl (by omega) zcf (by assumption)) ?_
  refine A0 (oFr zaU zaH) ?_;refine A0 (zg rfl rfl zai) ?_
  refine A0 (oCl (rheadLevel_ok x.h) rfl fn_61 ⟨(by first|exact zI rfl|exact zW rfl|exact zQ rfl rfl|exact zU rfl|exact zJ rfl|exact zak rfl rfl|exact zV rfl),trivial⟩) ?_
  refine A0 (zr (T:=i64T) (xs:=[_]) rfl zdq zc8 ⟨rfl,rfl,trivial⟩ rfl rfl) ?_;refine zu rfl rfl rfl rfl rfl rfl rfl zc8 (by simp;omega) ?_;refine A0 aO ?_;refine CNIR ?_;refine A0 mV ?_;refine A0 zs ?_
  refine A0 aV ?_;refine CN ?_;refine zaQ 2 1 3 rfl rfl rfl rfl rfl rfl ?_;refine zO (n:=1) (y:=(p.p.take (k+1)).map fun x=>headLevel x.h) rfl (by rw [List.take_add_one,hx,List.map_append];simp) ?_
  exact Nx (k+1) (by omega) (by omega)
 ·
  refine CE ?_;refine CQR ?_;refine A0 mO ?_;refine A0 aO ?_;refine CN ?_
  exact zb rfl rfl (zi rfl rfl (by rw [List.take_of_length_le (by omega)];rfl))
theorem rleads_ok (l:List Ab.Id) (prev id:Ab.Id):Tells P 89 [.val (bsl idT) l,.val idT prev,.val idT id] (.val boolT (leadsB l prev id)):=by
 refine zc Tryz.func89 rfl rfl rfl (fun ext w hext=>?_)
 refine zh (d:=0) rfl zn (fun hsl0=>?_)
 refine CQR ?_;refine zj rfl rfl rfl rfl rfl ?_;refine zj rfl rfl rfl rfl rfl ?_;refine A0 aV ?_;refine CNQQR ?_;refine A0 aV ?_;refine CNB ?_
 refine Lp (ι:=Nat) 2 (fun (k:Nat)=>((((Fr.none).set 0 (.val (bsl idT) l)).set 4 (.ptr 0 0)).set 5 (.ptr 1 0)).set 7 (.val i64T (k:Int))) (fun (k:Nat)=>((Hp.none).set 0 (.box 49 idT prev)).set 1 (.box 49 idT id)) (fun (k:Nat)=>k≤l.length∧((l.take k).any fun x=>decide (id=x))=false) (fun (k:Nat)=>l.length-k) (0) (⟨Nat.zero_le _,rfl⟩) ?_
 intro k hinv
 refine CQQR ?_;refine A0 mV ?_;refine A0 mV ?_;refine A0 (zA rfl rfl zat) ?_;refine A0 zC ?_;refine CN ?_
 refine Cf (p:=k<l.length) (fun ht11=>?_) (fun ht11=>?_)
 ·
  obtain ⟨x,hx⟩:∃x,l[k]?=some x:=⟨_,List.getElem?_eq_getElem ht11⟩
  refine CS ?_;refine CQ ?_;refine CB ?_;refine CQ ?_;refine CD mixed ?_;refine G0 mV ?_;refine G0 mV ?_;refine G0 (zD (i:=k) rfl rfl rfl (by omega) za5 (by assumption)) ?_;refine G0 (zg rfl rfl zx) ?_
  refine G0 (oLs rfl rfl rfl zx) ?_;refine G0 (zdM rfl rfl rfl (zdd)) ?_;refine GK.nil ?_
  refine zo (p:=x=id) rfl (by simp) (fun ht19=>?_) (fun ht19=>?_)
  ·
   refine CQR ?_;refine A0 aV ?_;refine CN ?_
   exact zb rfl rfl (zd rfl ((by symm;unfold leadsB;rw [Bool.or_eq_true];right;rw [List.any_eq_true];exact ⟨x,List.mem_of_getElem? hx,decide_eq_true ht19.symm⟩)))
  ·
   refine CSIR ?_;refine A0 mV ?_;refine A0 zs ?_;refine A0 aV ?_;refine CN ?_
   exact Nx (k+1) (⟨by omega,by rw [List.take_add_one,hx,List.any_append,hinv.2];simpa using fun c=>ht19 c.symm⟩) (by omega)
 ·
  refine CE ?_;refine CQR ?_;refine A0 (oLs rfl rfl rfl zx) ?_;refine A0 (oLs rfl rfl rfl zx) ?_;refine A0 (zdM rfl rfl rfl (zdd)) ?_;refine A0 aV ?_;refine CN ?_
  exact zb rfl rfl (zd rfl ((by have h:=hinv.2;rw [List.take_of_length_le (by omega)] at h;unfold leadsB;rw [h,Bool.or_false])))
theorem r18prev_ok (x:CTrial) (h:TrOk x):Tells P 58 [.val proofT x.p,.val (bsl idT) x.ids,.val i64T x.at_] (.val boolT (decide (prevC x=0))):=by
 obtain ⟨h1,h2,h3,h4,h5,h6⟩:=h
 obtain ⟨y,hy⟩:∃y,x.p.p[x.at_.toNat]?=some y:=⟨_,List.getElem?_eq_getElem (by omega)⟩
 obtain ⟨z,hz⟩:∃z,x.p.p[x.at_.toNat-1]?=some z:=⟨_,List.getElem?_eq_getElem (by omega)⟩
 obtain ⟨d,hd⟩:∃d,x.ids[x.at_.toNat-1]?=some d:=⟨_,List.getElem?_eq_getElem (by omega)⟩
 refine zc Tryz.func58 rfl rfl rfl (fun ext w hext=>?_)
 refine zh (d:=1) rfl zn (fun hsl1=>?_)
 refine zh (d:=2) rfl zR (fun hin2=>?_)
 refine CQR ?_;refine zj rfl rfl rfl rfl rfl ?_;refine A0 aV ?_;refine CNQR ?_;refine A0 (oFp zac) ?_;refine A0 (oLb zP zbh) ?_;refine A0 mV ?_
 refine A0 (zD (i:=x.at_.toNat) rfl rfl rfl (by omega) zcf (by assumption)) ?_;refine A0 (oFr zaU zaH) ?_;refine A0 (zg rfl rfl zai) ?_;refine zf ze_55 rfl rfl rfl rfl ?_
 refine za rfl rfl rfl rfl rfl (Lens.self _) zai rfl ?_;refine CNQR ?_;refine A0 (oFp zac) ?_;refine A0 (oLb zP zbh) ?_;refine A0 mV ?_;refine A0 zap ?_
 refine A0 (zD (i:=x.at_.toNat-1) rfl rfl rfl (by omega) zcf (by assumption)) ?_;refine A0 (oFr zaU zaH) ?_;refine A0 (zg rfl rfl zai) ?_;refine zf ze_55 rfl rfl rfl rfl ?_
 refine za rfl rfl rfl rfl rfl (Lens.self _) zai rfl ?_;refine CNQQR ?_;refine A0 (oFp za0) ?_;refine A0 (oLb zM ty_3) ?_;refine A0 (oFp za0) ?_;refine A0 (oLb zM ty_3) ?_;refine A0 o_leq ?_
 refine A0 mV ?_
 refine Sp (d:=27) (p:=y.h.height≤z.h.height) (fun g27=>?_) (fun g27=>?_)
 ·
  refine A2 ?_;refine A2 ?_;refine A2 ?_;refine A2 ?_;refine A2 ?_;refine A0 oK ?_;refine CN ?_;refine Ct ?_;refine CQR ?_;refine A0 aV ?_;refine CN ?_
  exact zb rfl rfl (zd rfl ((decide_eq_false (by rw [zc9 hy hz hd (.inl g27)];decide)).symm))
 ·
  refine A1 (oFp zby) ?_;refine A1 (oLb zam zae) ?_;refine A1 (oFp zby) ?_;refine A1 (oLb zam zae) ?_;refine A1 zaz ?_;refine A0 oK ?_;refine CN ?_
  refine zo (p:=¬y.h.bits=z.h.bits) rfl (by simp [toI_u32]) (fun ht33=>?_) (fun ht33=>?_)
  ·
   refine CQR ?_;refine A0 aV ?_;refine CN ?_
   exact zb rfl rfl (zd rfl ((decide_eq_false (by rw [zc9 hy hz hd (.inr (.inl ht33))];decide)).symm))
  ·
   refine CS ?_;refine CQ ?_;refine CD mixed ?_;refine G0 mV ?_;refine G0 (oFp zac) ?_;refine G0 (oLb zP zbh) ?_;refine G0 (zA rfl rfl zbL) ?_;refine G0 (oFp zbS) ?_;refine G0 (oLb za3 ty_3) ?_
   refine G0 zap ?_;refine G0 zC ?_;refine G0 mV ?_
   refine zag (d:=42) (p:=x.at_<(x.p.p.length:Int)-x.p.k) rfl (by first|rfl|(rw [decide_eq_decide];simp only [IntL.toI,id_eq];omega)|(simp [IntL.toI];done)|(simp [IntL.toI];omega)) (fun g42=>?_) (fun g42=>?_)
   ·
    refine G2 ?_;refine G2 ?_;refine G2 ?_;refine G2 ?_;refine G2 ?_;refine G2 ?_;refine G2 ?_;refine G3 ?_;refine G3 ?_;refine G3 ?_;refine G3 ?_;refine G3 ?_;refine G3 ?_;refine G3 ?_;refine G3 ?_;refine G2 ?_;refine G0 oK ?_
    refine G0 aV ?_;refine GK.nil ?_
    exact zb rfl rfl (zd rfl ((decide_eq_true (prevC_no hy hz hd (fun h=>h.elim g27 (fun h=>h.elim ht33 (fun h=>by have:=h.1;omega))))).symm))
   ·
    refine G1 (oFp za0) ?_;refine G1 (oLb zM ty_3) ?_;refine G1 (oFp za0) ?_;refine G1 (oLb zM ty_3) ?_;refine G1 zs ?_;refine G1 zbb ?_;refine G1 mV ?_
    refine zag (d:=49) (p:=y.h.height=IntKind.i64.wrap (z.h.height+1)) rfl (by simp [IntL.toI]) (fun g49=>?_) (fun g49=>?_)
    ·
     refine G1 (oFp zdQ) ?_;refine G1 (oLb zbz zx) ?_;refine G1 mV ?_;refine G1 mV ?_;refine G1 zap ?_;refine G1 (zD (i:=x.at_.toNat-1) rfl rfl rfl (by omega) za5 (by assumption)) ?_
     refine G1 (zg rfl rfl zx) ?_;refine G1 (zdM rfl rfl rfl (zdd)) ?_;refine G1 oK ?_;refine G0 oK ?_;refine G0 aV ?_;refine GK.nil ?_
     exact zb rfl rfl (zd rfl ((by rw [decide_eq_decide];exact ⟨fun e=>prevC_no hy hz hd (fun h=>h.elim g27 (fun h=>h.elim ht33 (fun h=>h.2.elim (fun c=>c g49) (fun c=>c e)))),fun e=>Classical.byContradiction fun c=>by rw [zc9 hy hz hd (.inr (.inr ⟨by omega,.inr c⟩))] at e;cases e⟩)))
    ·
     refine G2 ?_;refine G2 ?_;refine G2 ?_;refine G2 ?_;refine G2 ?_;refine G2 ?_;refine G2 ?_;refine G2 ?_;refine G1 oK ?_;refine G0 oK ?_;refine G0 aV ?_;refine GK.nil ?_
     exact zb rfl rfl (zd rfl ((decide_eq_false (by rw [zc9 hy hz hd (.inr (.inr ⟨by omega,.inl g49⟩))];decide)).symm))
theorem r18links_ok (x:CTrial) (h:TrOk x):Tells P 59 [.val proofT x.p,.val (bsl idT) x.ids,.val i64T x.at_] (.val boolT (decide (linkC x=0))):=by
 obtain ⟨h1,h2,h3,h4,h5,h6⟩:=h
 obtain ⟨y,hy⟩:∃y,x.p.p[x.at_.toNat]?=some y:=⟨_,List.getElem?_eq_getElem (by omega)⟩
 obtain ⟨d,hd⟩:∃d,x.ids[x.at_.toNat-1]?=some d:=⟨_,List.getElem?_eq_getElem (by omega)⟩
 obtain ⟨c,hc⟩:∃c,x.ids[0]?=some c:=⟨_,List.getElem?_eq_getElem (by omega)⟩
 refine zc Tryz.func59 rfl rfl rfl (fun ext w hext=>?_)
 refine zh (d:=1) rfl zn (fun hsl1=>?_)
 refine zh (d:=2) rfl zR (fun hin2=>?_)
 refine CQR ?_;refine zj rfl rfl rfl rfl rfl ?_;refine A0 aV ?_;refine CNQR ?_;refine A0 (oFp zac) ?_;refine A0 (oLb zP zbh) ?_;refine A0 mV ?_
 refine A0 (zD (i:=x.at_.toNat) rfl rfl rfl (by omega) zcf (by assumption)) ?_;refine A0 (zg rfl rfl ty_58) ?_;refine zf ze_58 rfl rfl rfl rfl ?_;refine za rfl rfl rfl rfl rfl (Lens.self _) ty_58 rfl ?_
 refine CNQ ?_;refine CQ ?_;refine CD mixed ?_;refine G0 (oFp zbx) ?_;refine G0 (oLb zaZ zbC) ?_;refine G0 (zA rfl rfl zat) ?_;refine G0 zaP ?_;refine G0 mV ?_
 refine zag (d:=18) (p:=32<y.l.length) rfl (by first|rfl|(rw [decide_eq_decide];simp only [IntL.toI,id_eq];omega)|(simp [IntL.toI];done)|(simp [IntL.toI];omega)) (fun g18=>?_) (fun g18=>?_)
 ·
  refine G2 ?_;refine G2 ?_;refine G2 ?_;refine G2 ?_;refine G0 oK ?_;refine G0 mV ?_;refine G2 ?_;refine G2 ?_;refine G2 ?_;refine G2 ?_;refine G2 ?_;refine G2 ?_;refine G2 ?_;refine G2 ?_;refine G0 oK ?_;refine GK.nil ?_
  refine Ct ?_;refine CQR ?_;refine A0 aV ?_;refine CN ?_
  exact zb rfl rfl (zd rfl ((decide_eq_false (by rw [zci hy hc hd (.inr (.inl g18))];decide)).symm))
 ·
  refine G1 (oFp zbx) ?_;refine G1 (oLb zaZ zbC) ?_;refine G1 (zA rfl rfl zat) ?_;refine G1 zC ?_;refine G0 oK ?_;refine G0 mV ?_
  refine zag (d:=24) (p:=y.l.length<1) rfl (by first|rfl|(rw [decide_eq_decide];simp only [IntL.toI,id_eq];omega)|(simp [IntL.toI];done)|(simp [IntL.toI];omega)) (fun g24=>?_) (fun g24=>?_)
  ·
   refine G2 ?_;refine G2 ?_;refine G2 ?_;refine G2 ?_;refine G2 ?_;refine G2 ?_;refine G2 ?_;refine G2 ?_;refine G0 oK ?_;refine GK.nil ?_;refine Ct ?_;refine CQR ?_;refine A0 aV ?_;refine CN ?_
   exact zb rfl rfl (zd rfl ((decide_eq_false (by rw [zci hy hc hd (.inl (by omega))];decide)).symm))
  ·
   obtain ⟨e,he⟩:∃e,y.l[0]?=some e:=⟨_,List.getElem?_eq_getElem (by omega)⟩
   have hel:y.l.getD 0 zId=e:=by simp [he]
   refine G1 (oFp zbx) ?_;refine G1 (oLb zaZ zbC) ?_;refine G1 (zD (i:=0) rfl rfl rfl (by omega) za5 (by assumption)) ?_;refine G1 (zg rfl rfl zx) ?_;refine G1 mV ?_
   refine G1 (zD (i:=0) rfl rfl rfl (by omega) za5 (by assumption)) ?_;refine G1 (zg rfl rfl zx) ?_;refine G1 (zdc rfl rfl rfl (zdd)) ?_;refine G0 oK ?_;refine GK.nil ?_
   refine zo (p:=¬e=c) rfl (by simp) (fun ht33=>?_) (fun ht33=>?_)
   ·
    refine CQR ?_;refine A0 aV ?_;refine CN ?_
    exact zb rfl rfl (zd rfl ((decide_eq_false (by rw [zci hy hc hd (.inr (.inr (.inl (by rw [hel];exact ht33))))];decide)).symm))
   ·
    refine CS ?_;refine CQ ?_;refine CD mixed ?_;refine G0 (oFp zbx) ?_;refine G0 (oLb zaZ zbC) ?_;refine G0 (oFp zaU) ?_;refine G0 (oFp zdQ) ?_;refine G0 (oLb (zaH.comp zbz) zx) ?_;refine G0 mV ?_
    refine G0 mV ?_;refine G0 zap ?_;refine G0 (zD (i:=x.at_.toNat-1) rfl rfl rfl (by omega) za5 (by assumption)) ?_;refine G0 (zg rfl rfl zx) ?_
    refine G0 (oCl (rleads_ok y.l y.h.prev d) rfl fn_89 ⟨(ze rfl),(ze rfl),(by first|exact zI rfl|exact zW rfl|exact zQ rfl rfl|exact zU rfl|exact zJ rfl|exact zak rfl rfl|exact zV rfl),trivial⟩) ?_
    refine G0 aV ?_;refine GK.nil ?_;refine CQ ?_;refine CD mixed ?_;refine G0 mV ?_;refine G0 mV ?_
    refine zag (d:=46) (p:=leadsB y.l y.h.prev d=true) rfl (by simp) (fun g46=>?_) (fun g46=>?_)
    ·
     refine G1 (oFp zaU) ?_;refine G1 (oFp zdP) ?_;refine G1 (oLb (zaH.comp za8) zx) ?_;refine G1 (oFp zbx) ?_;refine G1 (oLb zaZ zbC) ?_
     refine G1 (oCl (rlinkRoot_ok y.l (by omega)) rfl fn_84 ⟨(ze rfl),trivial⟩) ?_;refine G1 (zdM rfl rfl rfl (zdd)) ?_;refine G0 oK ?_;refine G0 aV ?_;refine GK.nil ?_
     exact zb rfl rfl (zd rfl ((by rw [decide_eq_decide];exact ⟨fun e1=>linkC_no hy hc hd (fun h=>h.elim (fun c=>by omega) (fun h=>h.elim (fun c=>by omega) (fun h=>h.elim (fun c=>by rw [hel] at c;exact ht33 c) (fun h=>h.elim (fun c=>by rw [g46] at c;cases c) (fun c=>c e1.symm))))),fun e1=>Classical.byContradiction fun c=>by rw [zci hy hc hd (.inr (.inr (.inr (.inr (fun c2=>c c2.symm)))))] at e1;cases e1⟩)))
    ·
     refine G2 ?_;refine G2 ?_;refine G2 ?_;refine G2 ?_;refine G2 ?_;refine G2 ?_;refine G2 ?_;refine G0 oK ?_;refine G0 aV ?_;refine GK.nil ?_
     exact zb rfl rfl (zd rfl ((decide_eq_false (by rw [zci hy hc hd (.inr (.inr (.inr (.inl (by simpa using g46)))))];decide)).symm))
theorem zep (p:Proof):Tells P 38 [.val proofT p] (.val i64T (checkP p)):=by
 refine zc Tryz.func38 rfl rfl rfl (fun ext w hext=>?_)
 refine CQR ?_;refine zj rfl rfl rfl rfl rfl ?_;refine A0 aV ?_;refine CNQQR ?_;refine A0 (oFp zbZ) ?_;refine A0 (oLb zbd ty_3) ?_;refine A0 zC ?_;refine A0 mV ?_
 refine Sp (d:=13) (p:=p.m<1) (fun g13=>?_) (fun g13=>?_)
 ·
  refine A2 ?_;refine A2 ?_;refine A2 ?_;refine A0 oK ?_;refine A0 mV ?_;refine A2 ?_;refine A2 ?_;refine A2 ?_;refine A0 oK ?_;refine A0 mV ?_;refine A2 ?_;refine A2 ?_;refine A2 ?_;refine A0 oK ?_;refine CN ?_;refine Ct ?_
  refine CQR ?_;refine A0 aV ?_;refine CN ?_
  exact zb rfl rfl (zd rfl ((by unfold checkP;rw [if_pos (by omega)])))
 ·
  refine A1 (oFp zbZ) ?_;refine A1 (oLb zbd ty_3) ?_;refine A1 zaP ?_;refine A0 oK ?_;refine A0 mV ?_
  refine Sp (d:=18) (p:=20<p.m) (fun g18=>?_) (fun g18=>?_)
  ·
   refine A2 ?_;refine A2 ?_;refine A2 ?_;refine A0 oK ?_;refine A0 mV ?_;refine A2 ?_;refine A2 ?_;refine A2 ?_;refine A0 oK ?_;refine CN ?_;refine Ct ?_;refine CQR ?_;refine A0 aV ?_;refine CN ?_
   exact zb rfl rfl (zd rfl ((by unfold checkP;rw [if_pos (by omega)])))
  ·
   refine A1 (oFp zbS) ?_;refine A1 (oLb za3 ty_3) ?_;refine A1 zC ?_;refine A0 oK ?_;refine A0 mV ?_
   refine Sp (d:=23) (p:=p.k<1) (fun g23=>?_) (fun g23=>?_)
   ·
    refine A2 ?_;refine A2 ?_;refine A2 ?_;refine A0 oK ?_;refine CN ?_;refine Ct ?_;refine CQR ?_;refine A0 aV ?_;refine CN ?_
    exact zb rfl rfl (zd rfl ((by unfold checkP;rw [if_pos (by omega)])))
   ·
    refine A1 (oFp zbS) ?_;refine A1 (oLb za3 ty_3) ?_;refine A1 zaP ?_;refine A0 oK ?_;refine CN ?_
    refine Cf (p:=20<p.k) (fun ht27=>?_) (fun ht27=>?_)
    ·
     refine CQR ?_;refine A0 aV ?_;refine CN ?_
     exact zb rfl rfl (zd rfl ((by unfold checkP;rw [if_pos (by omega)])))
    ·
     refine CSQQR ?_;refine A0 (oFp zac) ?_;refine A0 (oLb zP zbh) ?_;refine A0 (zA rfl rfl zbL) ?_;refine A0 zaP ?_;refine A0 mV ?_
     refine Sp (d:=32) (p:=100<p.p.length) (fun g32=>?_) (fun g32=>?_)
     ·
      refine A2 ?_;refine A2 ?_;refine A2 ?_;refine A2 ?_;refine A2 ?_;refine A2 ?_;refine A0 oK ?_;refine CN ?_;refine Ct ?_;refine CQR ?_;refine A0 aV ?_;refine CN ?_
      exact zb rfl rfl (zd rfl ((by unfold checkP;rw [if_neg (by omega),if_pos (by omega)])))
     ·
      refine A1 (oFp zac) ?_;refine A1 (oLb zP zbh) ?_;refine A1 (zA rfl rfl zbL) ?_;refine A1 (oFp zbS) ?_;refine A1 (oLb za3 ty_3) ?_;refine A1 o_leq ?_;refine A0 oK ?_;refine CN ?_
      refine Cf (p:=(p.p.length:Int)≤p.k) (fun ht39=>?_) (fun ht39=>?_)
      ·
       refine CQR ?_;refine A0 aV ?_;refine CN ?_
       exact zb rfl rfl (zd rfl ((by unfold checkP;rw [if_neg (by omega),if_pos (by omega)])))
      ·
       obtain ⟨a,ha⟩:∃a,p.p[0]?=some a:=⟨_,List.getElem?_eq_getElem (by omega)⟩
       have hag:p.p.getD 0 zPartD=a:=by simp [ha]
       refine CSQR ?_;refine A0 (oFp zac) ?_;refine A0 (oLb zP zbh) ?_;refine A0 (zD (i:=0) rfl rfl rfl (by omega) zcf (by assumption)) ?_;refine A0 (oFr zaU zaH) ?_;refine A0 (oFr zby zam) ?_
       refine A0 (zg rfl rfl zae) ?_
       refine A0 (oCl (rfirstTip_ok a.h.bits) rfl fn_57 ⟨(by first|exact zI rfl|exact zW rfl|exact zQ rfl rfl|exact zU rfl|exact zJ rfl|exact zak rfl rfl|exact zV rfl),trivial⟩) ?_;refine A0 mX ?_
       refine A0 (by first|exact z6 rfl rfl|exact zY rfl rfl) ?_;refine A0 (by first|exact z8 rfl rfl|exact z7 rfl rfl) ?_;refine zf zek rfl rfl rfl rfl ?_
       refine za rfl rfl rfl rfl rfl (Lens.self _) zbg rfl ?_;refine A0 aV ?_;refine CNQ ?_;refine CQ ?_;refine CD mixed ?_;refine G0 mV ?_;refine G0 oN ?_;refine G0 mV ?_
       refine zag (d:=52) (p:=tgtOk a.h.bits=false) rfl (by cases tgtOk a.h.bits<;>rfl) (fun g52=>?_) (fun g52=>?_)
       ·
        refine G2 ?_;refine G2 ?_;refine G2 ?_;refine G2 ?_;refine G2 ?_;refine G2 ?_;refine G2 ?_;refine G0 oK ?_;refine G0 mV ?_;refine G2 ?_;refine G2 ?_;refine G2 ?_;refine G2 ?_;refine G2 ?_;refine G2 ?_;refine G2 ?_;refine G2 ?_
        refine G2 ?_;refine G0 oK ?_;refine GK.nil ?_;refine Ct ?_;refine CQR ?_;refine A0 aV ?_;refine CN ?_
        exact zb rfl rfl (zd rfl ((by unfold checkP;rw [if_neg (by omega),if_neg (by omega),hag,if_pos (.inl g52)])))
       ·
        refine G1 (oFp zac) ?_;refine G1 (oLb zP zbh) ?_;refine G1 (zD (i:=0) rfl rfl rfl (by omega) zcf (by assumption)) ?_;refine G1 (oFr zbx zaZ) ?_;refine G1 (zg rfl rfl zbC) ?_
        refine G1 (by first|exact zA rfl rfl zat|exact zbi rfl rfl rfl zat|exact zbY rfl rfl zat) ?_;refine G1 zaP ?_;refine G0 oK ?_;refine G0 mV ?_
        refine zag (d:=61) (p:=0<a.l.length) rfl (by first|rfl|(rw [decide_eq_decide];simp only [IntL.toI,id_eq];omega)|(simp [IntL.toI];done)|(simp [IntL.toI];omega)) (fun g61=>?_) (fun g61=>?_)
        ·
         refine G2 ?_;refine G2 ?_;refine G2 ?_;refine G2 ?_;refine G2 ?_;refine G2 ?_;refine G2 ?_;refine G2 ?_;refine G2 ?_;refine G0 oK ?_;refine GK.nil ?_;refine Ct ?_;refine CQR ?_;refine A0 aV ?_;refine CN ?_
         exact zb rfl rfl (zd rfl ((by unfold checkP;rw [if_neg (by omega),if_neg (by omega),hag,if_pos (.inr (.inl g61))])))
        ·
         refine G1 (oFp zac) ?_;refine G1 (oLb zP zbh) ?_;refine G1 (zD (i:=0) rfl rfl rfl (by omega) zcf (by assumption)) ?_;refine G1 (oFr zaU zaH) ?_;refine G1 (zg rfl rfl zai) ?_
         refine G1 (oFp zcs) ?_;refine G1 (oFp zbc) ?_;refine G1 (oLb (zct.comp zax) zai) ?_;refine G1 (zdc rfl rfl rfl (eqt_55)) ?_;refine G0 oK ?_;refine GK.nil ?_
         refine zo (p:=¬a.h=(firstTip a.h.bits).b.h) rfl (by simp) (fun ht71=>?_) (fun ht71=>?_)
         ·
          refine CQR ?_;refine A0 aV ?_;refine CN ?_
          exact zb rfl rfl (zd rfl ((by unfold checkP;rw [if_neg (by omega),if_neg (by omega),hag,if_pos (.inr (.inr ht71))])))
         ·
          have hcp:checkP p=trialsE p (idsP p) (p.p.length-1) 1:=by unfold checkP;rw [if_neg (by omega),if_neg (by omega),hag,if_neg (fun h=>h.elim g52 (fun h=>h.elim g61 ht71))]
          have hids:=zw (r18ids_ok p (by omega))
          obtain ⟨ids,hid⟩:∃ids,ids=idsP p:=⟨_,rfl⟩
          rw [←hid] at hids hcp
          have hidl:ids.length=p.p.length:=by rw [hid];unfold idsP;simp
          refine CSQR ?_;refine A0 (oLs rfl rfl rfl zy) ?_;refine A0 (oCl (hids) rfl fn_31 ⟨(ze rfl),trivial⟩) ?_;refine A0 aV ?_;refine CNQQR ?_;refine A0 aV ?_;refine CNB ?_
          refine Lp (ι:=Nat) 2 (fun (i:Nat)=>(((Fr.none).set 1 (.ptr 0 0)).set 5 (.val (sl idT) ids)).set 6 (.val i64T (i:Int))) (fun (i:Nat)=>(Hp.none).set 0 (.box 25 proofT p)) (fun (i:Nat)=>1≤i∧i≤p.p.length∧checkP p=trialsE p ids (p.p.length-i) i) (fun (i:Nat)=>p.p.length-i) (1) (⟨Nat.le_refl _,by omega,hcp⟩) ?_
          intro i hinv
          refine CQQR ?_;refine A0 mV ?_;refine A0 (oFp zac) ?_;refine A0 (oLb zP zbh) ?_;refine A0 (zA rfl rfl zbL) ?_;refine A0 zC ?_;refine CN ?_
          refine Cf (p:=i<p.p.length) (fun ht78=>?_) (fun ht78=>?_)
          ·
           have htr:TrOk ⟨p,ids,(i:Int)⟩:=⟨by show (1:Int)≤i;omega,by show (i:Int)<p.p.length;omega,hidl,by show p.p.length≤100;omega,by show 1≤p.k;omega,by show p.k≤20;omega⟩
           obtain ⟨y,hy⟩:∃y,p.p[i]?=some y:=⟨_,List.getElem?_eq_getElem ht78⟩
           have hwk:workC ⟨p,ids,(i:Int)⟩=workF y:=by unfold workC;rw [yOf_at (y:=y) hy]
           refine CSQBQR ?_;refine A0 (oLs rfl rfl rfl zy) ?_;refine A0 mV ?_;refine A0 mV ?_;refine A0 (oCl (r18prev_ok ⟨p,ids,i⟩ htr) rfl fn_58 ⟨(ze rfl),(ze rfl),(ze rfl),trivial⟩) ?_;refine A0 aV ?_;refine CNQR ?_
           refine A0 (oLs rfl rfl rfl zy) ?_;refine A0 mV ?_;refine A0 mV ?_;refine A0 (oCl (r18links_ok ⟨p,ids,i⟩ htr) rfl fn_59 ⟨(ze rfl),(ze rfl),(ze rfl),trivial⟩) ?_;refine A0 aV ?_;refine CNQR ?_;refine A0 (oFp zac) ?_
           refine A0 (oLb zP zbh) ?_;refine A0 mV ?_;refine A0 (zD (i:=i) rfl rfl rfl (by omega) zcf (by assumption)) ?_;refine A0 (oFr zaU zaH) ?_;refine A0 (zg rfl rfl zai) ?_
           refine A0 (oCl (rheadMay_ok y.h) rfl fn_60 ⟨(by first|exact zI rfl|exact zW rfl|exact zQ rfl rfl|exact zU rfl|exact zJ rfl|exact zak rfl rfl|exact zV rfl),trivial⟩) ?_;refine A0 aV ?_
           refine CNQQR ?_;refine A0 mV ?_;refine A0 oN ?_;refine CN ?_
           refine zo (p:=¬decide (prevC ⟨p,ids,(i:Int)⟩=0)=true) rfl (by simp) (fun ht97=>?_) (fun ht97=>?_)
           ·
            refine CQR ?_;refine A0 aV ?_;refine CN ?_
            exact zb rfl rfl (zd rfl (by have e:firstC three ⟨p,ids,(i:Int)⟩=5:=(by rw [three_zero,if_pos ht97];exact (prevC_or _).resolve_left (by simpa using ht97));rw [hinv.2.2,zcR ht78 (by rw [e];decide),e]))
           ·
            refine CSQQR ?_;refine A0 mV ?_;refine A0 oN ?_;refine CN ?_
            refine zo (p:=¬decide (linkC ⟨p,ids,(i:Int)⟩=0)=true) rfl (by simp) (fun ht99=>?_) (fun ht99=>?_)
            ·
             refine CQR ?_;refine A0 aV ?_;refine CN ?_
             exact zb rfl rfl (zd rfl (by have e:firstC three ⟨p,ids,(i:Int)⟩=6:=(by rw [three_zero,if_neg ht97,if_pos ht99];exact (linkC_or _).resolve_left (by simpa using ht99));rw [hinv.2.2,zcR ht78 (by rw [e];decide),e]))
            ·
             refine CSQR ?_;refine A0 mV ?_;refine A0 oN ?_;refine CN ?_
             refine zo (p:=¬headMay y.h=true) rfl (by simp) (fun ht101=>?_) (fun ht101=>?_)
             ·
              refine CQR ?_;refine A0 aV ?_;refine CN ?_
              exact zb rfl rfl (zd rfl (by have e:firstC three ⟨p,ids,(i:Int)⟩=4:=(by rw [three_zero,if_neg ht97,if_neg ht99,hwk];unfold workF;rw [if_pos ht101]);rw [hinv.2.2,zcR ht78 (by rw [e];decide),e]))
             ·
              refine CSIR ?_;refine A0 mV ?_;refine A0 zs ?_;refine A0 aV ?_;refine CN ?_
              exact Nx (i+1) (⟨by omega,by omega,by rw [hinv.2.2];exact trials_go ht78 (by rw [three_zero,if_neg ht97,if_neg ht99,hwk];unfold workF;rw [if_neg ht101])⟩) (by omega)
          ·
           refine CE ?_;refine CQR ?_;refine A0 aV ?_;refine CN ?_
           exact zb rfl rfl (zd rfl (by rw [hinv.2.2,show p.p.length-i=0 by omega];rfl))
end Go.Proofs.YtdeghaedeefooaaGreat
set_option maxRecDepth 20000
namespace Go.Proofs.YtdeghaedeefooaaGreat
open Go.Ab Go.RowKit
def many (v:List Int) (n:Nat):Nat:=(v.filter fun x=>decide ((n:Int)≤x)).length
def scoreF (v:List Int) (m:Int):Nat→Int
  | 0=>(many v 0:Int)
  | n+1=>if m≤(many v n:Int) then max (scoreF v m n) ((many v n:Int)*2^n) else scoreF v m n
def scoreOf (v:List Int) (m:Int):Int:=if 100<v.length then 0 else scoreF v m 32
def cntK (v:List Int) (k:Int):List Int:=(List.range 32).map fun j=>(many v j:Int)+if (j:Int)<k then 1 else 0
def cntOf (v:List Int):List Int:=(List.range 32).map fun j=>(many v j:Int)
theorem many_le (v:List Int) (n:Nat):many v n≤v.length:=List.length_filter_le _ _
theorem many_snoc {v:List Int} {i:Nat} {x:Int} (h:v[i]?=some x) (n:Nat):(many (v.take (i+1)) n:Int)=(many (v.take i) n:Int)+if (n:Int)≤x then 1 else 0:=by
  unfold many
  rw [List.take_add_one,h]
  simp only [Option.toList_some,List.filter_append,List.length_append]
  by_cases c:(n:Int)≤x<;>simp [c]
theorem cnt_nil:cntOf []=List.replicate 32 0:=by decide
theorem cnt_at (v:List Int) {n:Nat} (h:n<32):(cntOf v)[n]?=some (many v n:Int):=by
  unfold cntOf
  rw [List.getElem?_map,List.getElem?_range h];rfl
theorem cntK_at (v:List Int) (k:Int) {n:Nat} (h:n<32):(cntK v k)[n]?=some ((many v n:Int)+if (n:Int)<k then 1 else 0):=by
  unfold cntK
  rw [List.getElem?_map,List.getElem?_range h];rfl
theorem cntK_zero (v:List Int) {k:Int} (h:k≤0):cntK v k=cntOf v:=by
  unfold cntK cntOf
  apply List.map_congr_left
  intro j hj
  rw [if_neg (by omega)];simp
theorem cntK_length (v:List Int) (k:Int):(cntK v k).length=32:=by unfold cntK;simp
theorem cntK_step (v:List Int) {k:Nat} (h:k<32):(cntK v k).set k ((many v k:Int)+1)=cntK v ((k+1:Nat):Int):=by
  apply List.ext_getElem?
  intro j
  by_cases hj:j<32
  · by_cases e:k=j
    · subst e
      rw [List.getElem?_set_self (by rw [cntK_length];exact h),cntK_at _ _ h,if_pos (by omega)]
    · rw [List.getElem?_set_ne e,cntK_at _ _ hj,cntK_at _ _ hj]
      congr 2
      by_cases c:(j:Int)<k
      · rw [if_pos c,if_pos (by omega)]
      · rw [if_neg c,if_neg (by omega)]
  · rw [List.getElem?_eq_none (by simp [cntK_length];omega),List.getElem?_eq_none (by simp [cntK_length];omega)]
theorem cntK_end {v:List Int} {i k:Nat} {x:Int} (hx:v[i]?=some x) (h1:(k:Int)≤max (min x 31+1) 0) (h2:¬(k:Int)<min x 31+1):cntK (v.take i) k=cntOf (v.take (i+1)):=by
  unfold cntK cntOf
  apply List.map_congr_left
  intro j hj
  rw [List.mem_range] at hj
  rw [many_snoc hx]
  congr 1
  by_cases c:(j:Int)<k
  · rw [if_pos c,if_pos (by omega)]
  · rw [if_neg c,if_neg (by omega)]
theorem two_pow_le {n:Nat} (h:n<32):(2:Int)^n≤2147483648∧1≤(2:Int)^n:=by
  have h1:(2:Nat)^n≤2^31:=Nat.pow_le_pow_right (by decide) (by omega)
  have h2:1≤(2:Nat)^n:=Nat.one_le_two_pow
  have e:((2^n:Nat):Int)=(2:Int)^n:=by simp
  rw [←e]
  have h3:(2:Nat)^31=2147483648:=by decide
  omega
theorem shl_many {a n:Nat} (h:n<32) (ha:a≤100):IntKind.i64.wrap ((a:Int)*2^(min (IntL.toI i64T (n:Int)).toNat 64))=(a:Int)*2^n:=by
  have e:min (IntL.toI i64T (n:Int)).toNat 64=n:=by show min ((n:Int)).toNat 64=n;omega
  rw [e]
  have ⟨h1,h2⟩:=two_pow_le h
  have h3:(a:Int)*2^n≤100*2147483648:=by
    have ha':(a:Int)≤100:=by omega
    exact Int.mul_le_mul ha' h1 (by omega) (by decide)
  have h4:0≤(a:Int)*2^n:=Int.mul_nonneg (by omega) (by omega)
  exact zaa (by omega)
def commonF (a b:List Ab.Id):Nat→Int×Int
  | 0=>(-1,-1)
  | i+1=>if idx (fun x=>decide (a.getD i zId=x)) b = -1 then commonF a b i else ((i:Int),idx (fun x=>decide (a.getD i zId=x)) b)
def commonOf (p q:Proof):Int×Int:=commonF (idsP p) (idsP q) (idsP p).length
theorem common_go {a b:List Ab.Id} {k:Nat} {x:Ab.Id} (h0:0<k) (hx:a[k-1]?=some x) (h:idx (fun y=>decide (x=y)) b = -1):commonF a b k=commonF a b (k-1):=by
  obtain ⟨j,rfl⟩:∃j,k=j+1:=⟨k-1,by omega⟩
  have e:a.getD j zId=x:=by simp at hx;simp [hx]
  show (if _ then _ else _)=_
  rw [e,if_pos h];rfl
theorem zeM {a b:List Ab.Id} {k:Nat} {x:Ab.Id} (h0:0<k) (hx:a[k-1]?=some x) (h:¬idx (fun y=>decide (x=y)) b = -1):commonF a b k=((k:Int)-1,idx (fun y=>decide (x=y)) b):=by
  obtain ⟨j,rfl⟩:∃j,k=j+1:=⟨k-1,by omega⟩
  have e:a.getD j zId=x:=by simp at hx;simp [hx]
  show (if _ then _ else _)=_
  rw [e,if_neg h]
  congr 1
  simp
theorem idx_ltL {α:Type} (p:α→Bool):∀l:List α,idx p l<l.length
  | []=>by simp [idx]
  | x::l=>by
    have:=idx_ltL p l
    unfold idx
    rw [List.length_cons]
    split
    · omega
    · split<;>omega
theorem commonF_bound (a b:List Ab.Id):∀i,-1≤(commonF a b i).1∧(commonF a b i).1<i∧-1≤(commonF a b i).2∧(commonF a b i).2<b.length∨commonF a b i=(-1,-1)
  | 0=>.inr rfl
  | i+1=>by
    unfold commonF
    split
    · rcases commonF_bound a b i with h|h
      · exact .inl ⟨h.1,by omega,h.2.2.1,h.2.2.2⟩
      · exact .inr h
    · have h1:=idx_ge (fun x=>decide (a.getD i zId=x)) b
      have h2:=idx_ltL (fun x=>decide (a.getD i zId=x)) b
      exact .inl ⟨by show (-1:Int)≤i;omega,by show (i:Int)<((i+1:Nat):Int);omega,h1,h2⟩
theorem common_bound (p q:Proof):(-1≤(commonOf p q).1∧(commonOf p q).1<p.p.length)∧-1≤(commonOf p q).2∧(commonOf p q).2<q.p.length:=by
  have e1:(idsP p).length=p.p.length:=by unfold idsP;simp
  have e2:(idsP q).length=q.p.length:=by unfold idsP;simp
  rcases commonF_bound (idsP p) (idsP q) (idsP p).length with h|h
  · rw [e1,e2] at h
    unfold commonOf
    rw [e1]
    exact ⟨⟨h.1,h.2.1⟩,h.2.2.1,h.2.2.2⟩
  · unfold commonOf
    rw [h]
    exact ⟨⟨by decide,by show (-1:Int)<_;omega⟩,by decide,by show (-1:Int)<_;omega⟩
def smallP (p:Proof):Prop:=p.p.length≤110∧∀x∈p.p,x.l.length≤40
def holdsE (x:PPair):Int:=if ¬checkP x.p=0 then checkP x.p else checkP x.q
def alikeE (x:PPair):Int :=
  if ¬x.p.m=x.q.m∨¬x.p.k=x.q.k then 1 else if ¬(yAt x.p 0).h=(yAt x.q 0).h∧¬headId (yAt x.p 0).h=headId (yAt x.q 0).h then 12 else 0
def betterE (p q:Proof):Int:=if ¬holdsE ⟨p,q⟩=0 then holdsE ⟨p,q⟩ else alikeE ⟨p,q⟩
def worthOf (p:Proof) (i:Int):Int:=scoreOf ((levelsP p).drop (i+1).toNat) p.m
def betterB (p q:Proof):Bool:=decide (betterE p q=0)&&decide (worthOf p (commonOf p q).1<worthOf q (commonOf p q).2)
def pickOf (p q:Proof):Proof×Int :=
  if ¬checkP p=0∧checkP q=0 then (q,0) else if ¬checkP p=0∨¬checkP q=0 then (p,checkP p) else if betterB p q=true then (q,0) else (p,betterE p q)
def foldOf (l:List Proof):Proof×Int :=
  match l with
  | []=>(zProof,9)
  | p::l=>(l.foldl (fun o q=>(pickOf o q).1) p,checkP (l.foldl (fun o q=>(pickOf o q).1) p))
theorem holds_len {p:Proof} (h:checkP p=0):0<p.p.length:=by
  have h:=checkP_holds.1 h
  have:=h.k1
  have:=h.l1
  omega
theorem holds_both {x:PPair} (h:holdsE x=0):checkP x.p=0∧checkP x.q=0:=by
  unfold holdsE at h
  split at h
  · rename_i c;exact absurd h c
  · rename_i c;exact ⟨Classical.not_not.1 c,h⟩
theorem pick_small {p q:Proof} (hp:smallP p) (hq:smallP q):smallP (pickOf p q).1:=by
  unfold pickOf
  split
  · exact hq
  · split
    · exact hp
    · split
      · exact hq
      · exact hp
theorem fold_small {l:List Proof} (hl:∀p∈l,smallP p):∀{o:Proof},smallP o→smallP (l.foldl (fun o q=>(pickOf o q).1) o):=by
  induction l with
  | nil=>exact fun h=>h
  | cons q l ih=>exact fun h=>ih (fun p hp=>hl p (List.mem_cons_of_mem _ hp)) (pick_small h (hl q (List.mem_cons_self ..)))
theorem set_self {α:Type} {l:List α} {i:Nat} {x:α} (h:l[i]?=some x):l.set i x=l:=by
  apply List.ext_getElem?
  intro j
  by_cases e:i=j
  · subst e
    rw [List.getElem?_set_self (List.getElem?_eq_some_iff.1 h).1,h]
  · rw [List.getElem?_set_ne e]
theorem ze_101:ZeroAt P 101 (arrT 2 (by decide) proofT) (List.replicate 2 zProof):=zaf (zdn (by decide) zej) (by kernel_rfl)
def fewL (l:List Proof):Bool:=l.all fewPr&&decide (l.length≤6)
theorem fewPr_small {p:Proof} (h:fewPr p=true):smallP p:=⟨fewPr_len h,fun _ hx=>fewPr_links h hx⟩
theorem fewL_small {l:List Proof} (h:fewL l=true):(∀p∈l,smallP p)∧l.length≤6:=by
  unfold fewL at h
  rw [Bool.and_eq_true,decide_eq_true_eq] at h
  exact ⟨fun p hp=>fewPr_small (List.all_eq_true.1 h.1 p hp),h.2⟩
theorem clonePart (l:List Part) (hl:l.length*208≤140737488355328∧l.length≤9223372036854775807):Tells P 62 [.val (bsl partT) l] (.fresh 58 partT l):=by
 refine zc Tryz.func62 rfl rfl rfl (fun ext w hext=>?_)
 refine zh (d:=0) rfl zn (fun hsl0=>?_)
 refine CQR ?_;refine A0 aL ?_;refine CNQQR ?_;refine A0 mV ?_
 refine zeQ rfl rfl rfl rfl rfl zbL (fun c4 hc4=>?_)
 refine CN ?_
 refine zo (p:=c4=true) rfl (by simp) (fun ht4=>?_) (fun ht4=>?_)
 ·
  obtain rfl:=hc4 ht4
  refine CQR ?_;refine A0 aL ?_;refine CN ?_
  exact zb rfl rfl (zL rfl)
 ·
  refine CSQR ?_;refine zbO (T:=partT) (xs:=[]) rfl rfl rfl rfl zcf row_23 trivial rfl rfl ?_;refine A0 mV ?_;refine zu rfl rfl rfl rfl rfl rfl rfl row_23 (by simpa using hl) ?_;refine A0 aO ?_;refine CN ?_
  exact zb rfl rfl (zi rfl rfl (by simp))
theorem equalFPart (l m:List Part):Tells P 48 [.val (bsl partT) l,.val (bsl partT) m,.fn2 P partT partT boolT (fun x y=>decide (x=y))] (.val boolT (decide (l=m))):=by
 refine zc Tryz.func48 rfl rfl rfl (fun ext w hext=>?_)
 refine zh (d:=0) rfl zn (fun hsl0=>?_)
 refine zh (d:=1) rfl zn (fun hsl1=>?_)
 refine CQR ?_;refine A0 aV ?_;refine CNQQR ?_;refine A0 mV ?_;refine A0 (zA rfl rfl zbL) ?_;refine A0 mV ?_;refine A0 (zA rfl rfl zbL) ?_;refine A0 zaz ?_;refine CN ?_
 refine Cf (p:=¬l.length=m.length) (fun ht14=>?_) (fun ht14=>?_)
 ·
  refine CQR ?_;refine A0 aV ?_;refine CN ?_
  exact zb rfl rfl (zd rfl (decide_eq_false (fun e=>ht14 (by rw [e]))).symm)
 ·
  refine CSQQR ?_;refine A0 mV ?_;refine A0 (zA rfl rfl zbL) ?_;refine A0 mV ?_;refine CNB ?_
  refine Lp (ι:=Nat) 0 (fun (k:Nat)=>((((((Fr.none).set 0 (.val (bsl partT) l)).set 1 (.val (bsl partT) m)).set 2 (.fn2 P partT partT boolT (fun x y=>decide (x=y)))).set 15 (.val (bsl partT) l)).set 16 (.val i64T (l.length:Int))).set 17 (.val i64T (k:Int))) (fun (k:Nat)=>Hp.none) (fun (k:Nat)=>k≤l.length∧l.take k=m.take k) (fun (k:Nat)=>l.length-k) (0) (⟨Nat.zero_le _,by simp⟩) ?_
  intro k hinv
  refine CQR ?_;refine A0 zC ?_;refine CNQ ?_
  refine Cf (p:=k<l.length) (fun ht18=>?_) (fun ht18=>?_)
  ·
   obtain ⟨x,hx⟩:∃x,l[k]?=some x:=⟨_,List.getElem?_eq_getElem ht18⟩
   obtain ⟨y,hy⟩:∃y,m[k]?=some y:=⟨_,List.getElem?_eq_getElem (by omega)⟩
   refine CSQBQR ?_;refine A0 mV ?_;refine A0 (zaq rfl rfl rfl zcf (by assumption)) ?_;refine A0 (zg rfl rfl ty_58) ?_;refine zf ze_58 rfl rfl rfl rfl ?_;refine A0 aV ?_
   refine za rfl rfl rfl rfl rfl (Lens.self _) ty_58 rfl ?_;refine CNQR ?_;refine A0 mV ?_;refine A0 mV ?_;refine A0 (zaq rfl rfl rfl zcf (by assumption)) ?_;refine A0 (zg rfl rfl ty_58) ?_
   refine zf ze_58 rfl rfl rfl rfl ?_;refine za rfl rfl rfl rfl rfl (Lens.self _) ty_58 rfl ?_;refine CNQR ?_;refine A0 mH ?_;refine A0 (oLs rfl rfl rfl ty_58) ?_;refine A0 (oLs rfl rfl rfl ty_58) ?_
   refine A0 (g_callf2 rfl rfl (ze rfl) (ze rfl)) ?_;refine A0 oN ?_;refine CN ?_
   refine zo (p:=¬x=y) rfl (by simp) (fun ht30=>?_) (fun ht30=>?_)
   ·
    refine CQR ?_;refine A0 aV ?_;refine CN ?_
    exact zb rfl rfl (zd rfl (decide_eq_false (zd4 hx hy ht30)).symm)
   ·
    refine CSIR ?_;refine A0 zs ?_;refine A0 mV ?_;refine CN ?_
    exact Nx (k+1) (⟨by omega,zb0 hx hy hinv.2 (by simpa using ht30)⟩) (by omega)
  ·
   refine CE ?_;refine CQR ?_;refine A0 aV ?_;refine CN ?_
   exact zb rfl rfl (zd rfl (decide_eq_true (by have h:=hinv.2;rw [List.take_of_length_le (by omega),List.take_of_length_le (by omega)] at h;exact h)).symm)
theorem sameParts_ok (x y:Part):Tells P 46 [.val partT x,.val partT y] (.val boolT (decide (x=y))):=by
 refine zc Tryz.func46 rfl rfl rfl (fun ext w hext=>?_)
 refine CQR ?_;refine zj rfl rfl rfl rfl rfl ?_;refine zj rfl rfl rfl rfl rfl ?_;refine A0 aV ?_;refine CNQR ?_;refine A0 (oFp zaU) ?_;refine A0 (oLb zaH zai) ?_;refine A0 (oFp zaU) ?_
 refine A0 (oLb zaH zai) ?_;refine A0 (zdM rfl rfl rfl (eqt_55)) ?_;refine A0 mV ?_
 refine zaw (d:=10) (p:=x.h=y.h) rfl (by simp) (fun g10=>?_) (fun g10=>?_)
 ·
  refine A1 (oFp zbx) ?_;refine A1 (oLb zaZ zbC) ?_;refine A1 (oFp zbx) ?_;refine A1 (oLb zaZ zbC) ?_;refine A1 (oCl (equalId x.l y.l) rfl fn_47 ⟨(ze rfl),(ze rfl),trivial⟩) ?_;refine A0 oK ?_;refine A0 aV ?_
  refine CN ?_
  exact zb rfl rfl (zd rfl ((by rw [decide_eq_decide];exact ⟨fun h=>by cases x;cases y;simp_all,fun h=>by rw [h]⟩)))
 ·
  refine A2 ?_;refine A2 ?_;refine A2 ?_;refine A2 ?_;refine A2 ?_;refine A0 oK ?_;refine A0 aV ?_;refine CN ?_
  exact zb rfl rfl (zd rfl ((by symm;apply decide_eq_false;intro h;exact g10 (by rw [h]))))
theorem sameP_ok (a b:Proof):Tells P 25 [.val proofT a,.val proofT b] (.val boolT (decide (a=b))):=by
 refine zc Tryz.func25 rfl rfl rfl (fun ext w hext=>?_)
 refine CQR ?_;refine zj rfl rfl rfl rfl rfl ?_;refine zj rfl rfl rfl rfl rfl ?_;refine A0 aV ?_;refine CNQR ?_;refine A0 aC ?_;refine CNQR ?_;refine A0 (oFp zbZ) ?_;refine A0 (oLb zbd ty_3) ?_
 refine A0 (oFp zbZ) ?_;refine A0 (oLb zbd ty_3) ?_;refine A0 zbb ?_;refine A0 mV ?_
 refine zaw (d:=11) (p:=a.m=b.m) rfl (by simp [IntL.toI]) (fun g11=>?_) (fun g11=>?_)
 ·
  refine A1 (oFp zbS) ?_;refine A1 (oLb za3 ty_3) ?_;refine A1 (oFp zbS) ?_;refine A1 (oLb za3 ty_3) ?_;refine A1 zbb ?_;refine A0 oK ?_;refine A0 mV ?_
  refine zaw (d:=18) (p:=a.k=b.k) rfl (by simp [IntL.toI]) (fun g18=>?_) (fun g18=>?_)
  ·
   refine A1 (oFp zac) ?_;refine A1 (oLb zP zbh) ?_;refine A1 (oFp zac) ?_;refine A1 (oLb zP zbh) ?_;refine A1 mC ?_
   refine A1 (oCl (equalFPart a.p b.p) rfl fn_48 ⟨(ze rfl),(ze rfl),(by first|exact zcL (Cs:=[]) rfl fn_46 (by intro n hn;cases hn) trivial rfl (fun x=>sameParts_ok x y)|exact zcK (Cs:=[]) rfl fn_46 (by intro n hn;cases hn) trivial rfl (fun x y=>sameParts_ok x y)|exact zcM rfl),trivial⟩) ?_
   refine A0 oK ?_;refine A0 aV ?_;refine CN ?_
   exact zb rfl rfl (zd rfl ((by rw [decide_eq_decide];exact ⟨fun h=>by cases a;cases b;simp_all,fun h=>by rw [h]⟩)))
  ·
   refine A2 ?_;refine A2 ?_;refine A2 ?_;refine A2 ?_;refine A2 ?_;refine A2 ?_;refine A0 oK ?_;refine A0 aV ?_;refine CN ?_
   exact zb rfl rfl (zd rfl ((by symm;apply decide_eq_false;intro h;exact g18 (by rw [h]))))
 ·
  refine A2 ?_;refine A2 ?_;refine A2 ?_;refine A2 ?_;refine A2 ?_;refine A0 oK ?_;refine A0 mV ?_;refine A2 ?_;refine A2 ?_;refine A2 ?_;refine A2 ?_;refine A2 ?_;refine A2 ?_;refine A0 oK ?_;refine A0 aV ?_;refine CN ?_
  exact zb rfl rfl (zd rfl ((by symm;apply decide_eq_false;intro h;exact g11 (by rw [h]))))
theorem score_ok (v:List Int) (m:Int):Tells P 22 [.val (bsl i64T) v,.val i64T m] (.val i64T (scoreOf v m)):=by
 refine zc Tryz.func22 rfl rfl rfl (fun ext w hext=>?_)
 refine zh (d:=0) rfl zn (fun hsl0=>?_)
 refine zh (d:=1) rfl zR (fun hin1=>?_)
 refine CQR ?_;refine A0 aV ?_;refine CNQQR ?_;refine A0 mV ?_;refine A0 (zA rfl rfl zdm) ?_;refine A0 zaP ?_;refine CN ?_
 refine Cf (p:=100<v.length) (fun ht14=>?_) (fun ht14=>?_)
 ·
  refine CQR ?_;refine A0 aV ?_;refine CN ?_
  exact zb rfl rfl (zd rfl (by unfold scoreOf;rw [if_pos ht14]))
 ·
  refine CSQR ?_;refine zf ze_72 rfl rfl rfl rfl ?_;refine CNQQR ?_;refine A0 mV ?_;refine A0 (zA rfl rfl zdm) ?_;refine A0 mV ?_;refine CNB ?_
  refine zz (n:=0) (y:=cntOf (v.take 0)) rfl (by rw [List.take_zero,cnt_nil]) ?_
  refine Lp (ι:=Nat) 1 (fun (i:Nat)=>(((((Fr.none).set 1 (.val i64T m)).set 5 (.ptr 0 0)).set 15 (.val (bsl i64T) v)).set 16 (.val i64T (v.length:Int))).set 17 (.val i64T (i:Int))) (fun (i:Nat)=>(Hp.none).set 0 (.box 72 (arrT 32 (by decide) i64T) (cntOf (v.take i)))) (fun (i:Nat)=>i≤v.length) (fun (i:Nat)=>v.length-i) (0) (Nat.zero_le _) ?_
  intro i hinv
  refine CQR ?_;refine A0 zC ?_;refine CNQ ?_
  refine Cf (p:=i<v.length) (fun ht18=>?_) (fun ht18=>?_)
  ·
   obtain ⟨x,hx⟩:∃x,v[i]?=some x:=⟨_,List.getElem?_eq_getElem ht18⟩
   refine CSQBQR ?_;refine A0 (zaq rfl rfl rfl zdq (by assumption)) ?_;refine A0 (zg rfl rfl ty_3) ?_
   refine zh (d:=20) rfl zR (fun hxr=>?_)
   refine A0 aX ?_;refine CNQR ?_;refine A0 mX ?_;refine A0 (g_min rfl rfl rfl) ?_;refine A0 zs ?_;refine A0 mV ?_;refine CNB ?_;refine zz (n:=0) (y:=cntK (v.take i) ((0:Nat):Int)) rfl (cntK_zero _ (by simp)).symm ?_
   refine Lp (ι:=Nat) 1 (fun (k:Nat)=>(((((((Fr.none).set 1 (.val i64T m)).set 5 (.ptr 0 0)).set 15 (.val (bsl i64T) v)).set 16 (.val i64T (v.length:Int))).set 17 (.val i64T (i:Int))).set 23 (.val i64T (min x 31+1))).set 24 (.val i64T (k:Int))) (fun (k:Nat)=>(Hp.none).set 0 (.box 72 (arrT 32 (by decide) i64T) (cntK (v.take i) k))) (fun (k:Nat)=>(k:Int)≤max (min x 31+1) 0) (fun (k:Nat)=>33-k) (0) (by simp;omega) ?_
   intro k hk
   refine CQR ?_;refine A0 zC ?_;refine CNQ ?_
   refine Cf (p:=(k:Int)<min x 31+1) (fun ht25=>?_) (fun ht25=>?_)
   ·
    have hg:(cntK (v.take i) k).getD k default=(many (v.take i) k:Int):=by rw [List.getD_eq_getElem?_getD,cntK_at _ _ (by omega),if_neg (by omega)];simp
    have hml:=many_le (v.take i) k
    have hml2:(v.take i).length≤100:=by rw [List.length_take];omega
    refine CSQBQR ?_;refine A0 mV ?_;refine A0 aV ?_;refine CNR ?_;refine A0 mV ?_;refine A0 (zq (i:=k) rfl rfl rfl (by first|omega|rfl) ar_72 (by omega)) ?_
    refine A0 (zp rfl rfl rfl (Lens.elem (i:=k) (by omega) i64T) ty_3) ?_;refine A0 (g_add rfl rfl rfl (show _=((many (v.take i) k:Int)+1:Int) from by rw [hg];exact zaa (by omega))) ?_
    refine A0 (zq (i:=k) rfl rfl rfl (by first|omega|rfl) ar_72 (by omega)) ?_;refine za rfl rfl rfl rfl rfl (Lens.elem (i:=k) (by omega) i64T) ty_3 rfl ?_;refine CNIR ?_;refine A0 zs ?_;refine A0 mV ?_;refine CN ?_
    refine zz (n:=0) (y:=cntK (v.take i) ((k+1:Nat):Int)) rfl (cntK_step _ (by omega)) ?_
    exact Nx (k+1) (by omega) (by omega)
   ·
    refine CE ?_;refine CI ?_;refine CR ?_;refine A0 zs ?_;refine A0 mV ?_;refine CN ?_;refine zz (n:=0) (y:=cntOf (v.take (i+1))) rfl (cntK_end hx hk ht25) ?_
    exact Nx (i+1) (by omega) (by omega)
  ·
   refine zz (n:=0) (y:=cntOf v) rfl (by rw [List.take_of_length_le (by omega)]) ?_;refine CE ?_;refine CQR ?_;refine A0 (zq (i:=0) rfl rfl rfl (by first|omega|rfl) ar_72 (by omega)) ?_
   refine A0 (zp rfl rfl rfl (Lens.elem (i:=0) (by omega) i64T) ty_3) ?_;refine zl (d:=35) (y:=scoreF v m 0) rfl (by rw [List.getD_eq_getElem?_getD,cnt_at v (by decide)];rfl) ?_;refine A0 aV ?_;refine CNQQR ?_
   refine A0 (oLs rfl rfl rfl ty_72) ?_;refine A0 mV ?_;refine CNB ?_
   refine Lp (ι:=Nat) 1 (fun (n:Nat)=>((((Fr.none).set 1 (.val i64T m)).set 9 (.val i64T (scoreF v m n))).set 36 (.val (arrT 32 (by decide) i64T) (cntOf v))).set 37 (.val i64T (n:Int))) (fun (n:Nat)=>Hp.none) (fun (n:Nat)=>n≤32) (fun (n:Nat)=>32-n) (0) (Nat.zero_le _) ?_
   intro n hn
   refine CQR ?_;refine A0 zC ?_;refine CNQ ?_
   refine Cf (p:=n<32) (fun ht38=>?_) (fun ht38=>?_)
   ·
    have hc:=cnt_at v ht38
    have hml:=many_le v n
    refine CSQBQR ?_;refine A0 mV ?_;refine A0 (g_index rfl rfl rfl rfl ar_72 ty_3 (by assumption)) ?_;refine A0 aV ?_;refine A0 aV ?_;refine CNQR ?_;refine A0 mV ?_;refine A0 mV ?_;refine A0 zbf ?_;refine CN ?_
    refine Cf (p:=m≤(many v n:Int)) (fun ht43=>?_) (fun ht43=>?_)
    ·
     refine CR ?_;refine A0 mV ?_;refine A0 mV ?_;refine A0 mV ?_
     refine A0 (g_shlI rfl rfl rfl (by first|decide|omega|(show (0:Int)≤((_:Nat):Int)-1;omega)|(simp [IntL.toI];done)|(simp [IntL.toI];omega)) (shl_many (a:=many v n) ht38 (by omega))) ?_;refine A0 (g_max rfl rfl rfl) ?_
     refine A0 aV ?_;refine CNIR ?_;refine A0 zs ?_;refine A0 mV ?_;refine CN ?_;refine zl (d:=9) (y:=scoreF v m (n+1)) rfl (if_pos ht43).symm ?_
     exact Nx (n+1) (by omega) (by omega)
    ·
     refine CSIR ?_;refine A0 zs ?_;refine A0 mV ?_;refine CN ?_;refine zl (d:=9) (y:=scoreF v m (n+1)) rfl (if_neg ht43).symm ?_
     exact Nx (n+1) (by omega) (by omega)
   ·
    refine CE ?_;refine CQR ?_;refine A0 mV ?_;refine A0 aV ?_;refine CN ?_
    exact zb rfl rfl (zd rfl (by unfold scoreOf;rw [if_neg ht14,show n=32 by omega]))
theorem common_ok (p q:Proof) (hp:p.p.length≤110) (hq:q.p.length≤110):Tells P 13 [.val proofT p,.val proofT q] (.tup2 (.val i64T (commonOf p q).1) (.val i64T (commonOf p q).2)):=by
 have hia:=zw (ids_ok p (by omega))
 have hib:=zw (ids_ok q (by omega))
 obtain ⟨A,hA⟩:∃A,A=idsP p:=⟨_,rfl⟩
 obtain ⟨B,hB⟩:∃B,B=idsP q:=⟨_,rfl⟩
 have hcm:commonOf p q=commonF A B A.length:=by rw [hA,hB];rfl
 have hal:A.length≤110:=by rw [hA];unfold idsP;simpa using hp
 rw [←hA] at hia
 rw [←hB] at hib
 refine zc Tryz.func13 rfl rfl rfl (fun ext w hext=>?_)
 refine CQR ?_;refine zj rfl rfl rfl rfl rfl ?_;refine zj rfl rfl rfl rfl rfl ?_;refine zf ze_3 rfl rfl rfl rfl ?_;refine zf ze_3 rfl rfl rfl rfl ?_;refine CNQR ?_;refine A0 (oLs rfl rfl rfl zy) ?_
 refine A0 (oCl (hib) rfl fn_28 ⟨(ze rfl),trivial⟩) ?_;refine zf ze_56 rfl rfl rfl rfl ?_;refine za rfl rfl rfl rfl rfl (Lens.self _) zbC rfl ?_;refine CNQQR ?_;refine A0 (oLs rfl rfl rfl zy) ?_
 refine A0 (oCl (hia) rfl fn_28 ⟨(ze rfl),trivial⟩) ?_
 refine zbN rfl rfl rfl rfl Tryz.func29 fn_29 rfl rfl (fun ia1 iok1=>?_)
 refine CQR ?_;refine zj rfl rfl rfl rfl rfl ?_;refine A0 aL ?_;refine CNQR ?_;refine A0 (g_mkf (caps:=[_]) rfl rfl) ?_;refine A0 aC ?_;refine CN ?_;refine zc5 rfl ?_;refine CNB ?_
 refine aw_range rfl rfl rfl Tryz.func54 fn_54 rfl rfl (by intro n hn;simp only [List.mem_cons,List.not_mem_nil,or_false] at hn;rcases hn with rfl<;>rfl) (fun fid2 ca2 lN2 DN2 cok2 rc2 hrc2=>?_)
 refine CQR ?_;refine A0 (oLs rfl rfl rfl zbC) ?_;refine A0 (zA rfl rfl zat) ?_;refine A0 zap ?_;refine A0 aV ?_;refine CNB ?_
 refine Lp (ι:=Nat) 8 (fun (k:Nat)=>(((Fr.none).set 0 (.lit (.func (.yield lN2) #[] #[]))).set 1 (.ptr 5 0)).set 3 (.val i64T ((k:Int)-1))) (fun (k:Nat)=>((((((Hp.none).set 2 (.box 3 i64T 0)).set 3 (.box 3 i64T 0)).set 4 (.box 56 (sl idT) B)).set 5 (.box 56 (sl idT) A)).set 6 (.objAt DN2 (.deferred (some [])))).set 7 (.objAt lN2 (rc2 .ready none))) (fun (k:Nat)=>k≤A.length∧commonOf p q=commonF A B k) (fun (k:Nat)=>k) (A.length) (⟨Nat.le_refl _,hcm⟩) ?_
 intro k hinv
 refine CQQR ?_;refine A0 mV ?_;refine A0 zbf ?_;refine CN ?_
 refine Cf (p:=0<k) (fun ht8=>?_) (fun ht8=>?_)
 ·
  obtain ⟨a,ha⟩:∃a,A[k-1]?=some a:=⟨_,List.getElem?_eq_getElem (by omega)⟩
  refine CSQBQR ?_;refine A0 mL ?_;refine A0 mV ?_;refine A0 (oLs rfl rfl rfl zbC) ?_;refine A0 mV ?_;refine A0 (zD (i:=k-1) rfl rfl rfl (by omega) za5 (by assumption)) ?_;refine A0 (zg rfl rfl zx) ?_
  refine aw_yield (nL:=7) rfl rfl rfl rfl rfl hrc2 rfl rfl rfl (fun ya3 yok3=>?_)
  refine CQR ?_;refine A0 aV ?_;refine CNR ?_;refine zf zbJ rfl rfl rfl rfl ?_;refine za rfl rfl rfl rfl rfl (Lens.self _) zx rfl ?_;refine CN ?_;refine aw_begin (nL:=7) hrc2 rfl ?_;refine CB ?_;refine CQR ?_
  refine A0 (oLs rfl rfl rfl zbC) ?_;refine A0 (oLs rfl rfl rfl zx) ?_;refine A0 (oCl (indexId B a) rfl fn_30 ⟨(ze rfl),(ze rfl),trivial⟩) ?_;refine A0 aV ?_;refine CNQR ?_;refine A0 mV ?_;refine A0 zaz ?_;refine CN ?_
  refine zo (p:=¬idx (fun y=>decide (a=y)) B = -1) rfl (by simp [IntL.toI]) (fun ht21=>?_) (fun ht21=>?_)
  ·
   refine CQR ?_;refine A0 mV ?_;refine A0 mV ?_;refine za rfl rfl rfl rfl rfl (Lens.self _) ty_3 rfl ?_;refine za rfl rfl rfl rfl rfl (Lens.self _) ty_3 rfl ?_;refine CN ?_;refine aw_round_ret (nL:=7) hrc2 rfl ?_
   refine A0 oN ?_;refine CN ?_;refine Ct ?_;refine aw_iter_ret (nL:=7) rfl hrc2 rfl (by decide) ?_
   refine zaY (zdW (nD:=6) rfl rfl rfl ?_)
   exact ar_retr2 rfl rfl (zE rfl rfl ty_3 (by rw [hinv.2,zeM ht8 ha ht21])) (zE rfl rfl ty_3 (by rw [hinv.2,zeM ht8 ha ht21]))
  ·
   refine CS ?_;refine CI ?_;refine zde (nL:=7) hrc2 rfl ?_;refine A0 oN ?_;refine CN ?_;refine Cg ?_;refine CSIR ?_;refine A0 mV ?_;refine A0 zap ?_;refine A0 aV ?_;refine CN ?_
   refine zl (d:=3) (y:=((k-1:Nat):Int)-1) rfl (by omega) ?_
   exact Nx (k-1) (⟨by omega,by rw [hinv.2];exact common_go ht8 ha (Classical.not_not.1 ht21)⟩) (by omega)
 ·
  refine CE ?_;refine zdf (nL:=7) rfl hrc2 rfl (by decide) ?_;refine CI ?_;refine CQR ?_;refine za rfl rfl rfl rfl rfl (Lens.self _) ty_3 rfl ?_;refine za rfl rfl rfl rfl rfl (Lens.self _) ty_3 rfl ?_
  refine CN ?_
  refine zaY (zdW (nD:=6) rfl rfl rfl ?_)
  exact ar_retr2 rfl rfl (zE rfl rfl ty_3 (by rw [hinv.2,show k=0 by omega];rfl)) (zE rfl rfl ty_3 (by rw [hinv.2,show k=0 by omega];rfl))
theorem ownP_ok (p:Proof) (hp:smallP p):Tells P 40 [.val proofT p] (.val proofT p):=by
 have hpl:=hp.1
 refine zc Tryz.func40 rfl rfl rfl (fun ext w hext=>?_)
 refine CQR ?_;refine zj rfl rfl rfl rfl rfl ?_;refine zf zcO rfl rfl rfl rfl ?_;refine CN ?_;refine aw_splitb 0 (x:=p) (split_proofV p) rfl ?_;refine CQR ?_;refine A0 (oFp zac) ?_
 refine A0 (zbe rfl rfl rfl rfl rfl zbh) ?_;refine zaN (clonePart p.p (by constructor<;>omega)) rfl fn_62 ⟨(ze rfl),trivial⟩ rfl rfl rfl ?_;refine A0 (oFp zac) ?_
 refine zcY rfl rfl rfl rfl rfl rfl rfl rfl rfl rfl zbh ?_;refine CNQQR ?_;refine A0 (oFp zac) ?_;refine A0 (zbe rfl rfl rfl rfl rfl zbh) ?_;refine A0 (zbi rfl rfl rfl zbL) ?_;refine A0 mV ?_;refine CNB ?_
 refine Lp (ι:=Nat) 3 (fun (i:Nat)=>(((((Fr.none).set 1 (.ptr 0 0)).set 2 (.ptr 1 0)).set 10 (.own 2)).set 11 (.val i64T (p.p.length:Int))).set 12 (.val i64T (i:Int))) (fun (i:Nat)=>(((Hp.none).set 0 (.parts 25 [.val i64T p.m,.val i64T p.k,.own 2])).set 1 (.box 25 proofT zProof)).set 2 (.row 58 partT p.p)) (fun (i:Nat)=>i≤p.p.length) (fun (i:Nat)=>p.p.length-i) (0) (Nat.zero_le _) ?_
 intro i hinv
 refine CQR ?_;refine A0 zC ?_;refine CNQ ?_
 refine Cf (p:=i<p.p.length) (fun ht13=>?_) (fun ht13=>?_)
 ·
  obtain ⟨x,hx⟩:∃x,p.p[i]?=some x:=⟨_,List.getElem?_eq_getElem ht13⟩
  refine CSQBQR ?_;refine A0 mV ?_;refine A0 (zav (i:=i) rfl rfl rfl rfl (by first|omega|rfl) zcf (by first|assumption|omega|(simp;omega))) ?_;refine A0 (zX rfl rfl rfl rfl (by assumption) (Lens.self _) ty_58) ?_
  refine zf ze_58 rfl rfl rfl rfl ?_;refine A0 aV ?_;refine za rfl rfl rfl rfl rfl (Lens.self _) ty_58 rfl ?_;refine CN ?_
  refine zB [some 1,some 1,some 1,some 1,some 1,some 1,some 1,some 1,none] mixed (by decide +kernel) ?_;refine X0 (oFp zac) ?_;refine X0 (zbe rfl rfl rfl rfl rfl zbh) ?_;refine X0 mV ?_;refine X0 (oFp zbx) ?_
  refine X0 (oLb zaZ zbC) ?_;refine X0 (oCl (zw (cloneId x.l (by have:=hp.2 x (List.mem_of_getElem? hx);constructor<;>omega))) rfl fn_63 ⟨(ze rfl),trivial⟩) ?_
  refine X0 (zav (i:=i) rfl rfl rfl rfl (by first|omega|rfl) zcf (by first|assumption|omega|(simp;omega))) ?_;refine X0 (g_fa_e rfl rfl zbx rfl) ?_
  refine XK.e (x:=.idk) (fun fr' hfr kk H=>by exact zdA rfl rfl rfl ((hfr 24 (by decide +kernel)).trans rfl) rfl rfl (by assumption) zaZ zbC ((hfr 22 (by decide +kernel)).trans rfl) (zG H)) ?_;refine XK.nil' ?_
  refine CI ?_;refine CR ?_;refine A0 zs ?_;refine A0 mV ?_;refine CN ?_;refine zO (n:=2) (y:=p.p) rfl (set_self hx) ?_
  exact Nx (i+1) (by omega) (by omega)
 ·
  refine CE ?_;refine CQ ?_;refine aw_joinb 0 2 [.val i64T p.m,.val i64T p.k] (z:=p) (R:=proofT) rfl rfl rfl join_proof ?_;refine CR ?_;refine A0 (oLs rfl rfl rfl zy) ?_
  refine za rfl rfl rfl rfl rfl (Lens.self _) zy rfl ?_;refine CN ?_
  exact zt rfl rfl rfl rfl zy (rfl)
theorem holdsE_ok (x:PPair):Tells P 34 [.val pPairT x] (.val i64T (holdsE x)):=by
 refine zc Tryz.func34 rfl rfl rfl (fun ext w hext=>?_)
 refine CQR ?_;refine zj rfl rfl rfl rfl rfl ?_;refine A0 aV ?_;refine CNQQR ?_;refine A0 (oFp fd_65_0) ?_;refine A0 (oLb zez zy) ?_;refine A0 (oFp fd_65_1) ?_;refine A0 (oLb zey zy) ?_
 refine A0 (zd9 (T:=proofT) (xs:=[_,_]) rfl ar_101 ze_101 ⟨rfl,rfl,rfl,rfl,trivial⟩ rfl) ?_;refine A0 mV ?_;refine CNB ?_
 refine Lp (ι:=Nat) 1 (fun (k:Nat)=>((Fr.none).set 10 (.val (arrT 2 (by decide) proofT) [x.p,x.q])).set 11 (.val i64T (k:Int))) (fun (k:Nat)=>Hp.none) (fun (k:Nat)=>k≤2∧(0<k→checkP x.p=0)∧(1<k→checkP x.q=0)) (fun (k:Nat)=>2-k) (0) (⟨by omega,fun h=>absurd h (by decide),fun h=>absurd h (by decide)⟩) ?_
 intro k hinv
 refine CQR ?_;refine A0 zC ?_;refine CNQ ?_
 refine Cf (p:=k<2) (fun ht12=>?_) (fun ht12=>?_)
 ·
  obtain ⟨e,he⟩:∃e,[x.p,x.q][k]?=some e:=⟨_,List.getElem?_eq_getElem (show k < [x.p,x.q].length from ht12)⟩
  have hek:(k=0∧e=x.p)∨(k=1∧e=x.q):=by rcases (show k=0∨k=1 by omega) with rfl|rfl;exact .inl ⟨rfl,(Option.some.inj he).symm⟩;exact .inr ⟨rfl,(Option.some.inj he).symm⟩
  rcases hek with ⟨hk,rfl⟩|⟨hk,rfl⟩
  ·
   refine CSQBQR ?_;refine A0 (g_index rfl rfl rfl rfl ar_101 zy (by assumption)) ?_;refine zf zcO rfl rfl rfl rfl ?_;refine za rfl rfl rfl rfl rfl (Lens.self _) zy rfl ?_;refine CNQR ?_
   refine A0 (oLs rfl rfl rfl zy) ?_;refine A0 (oCl (checkP_ok x.p) rfl fn_24 ⟨(ze rfl),trivial⟩) ?_;refine A0 aV ?_;refine CNQR ?_;refine A0 mV ?_;refine A0 zaz ?_;refine CN ?_
   refine zo (p:=¬checkP x.p=0) rfl (by simp [IntL.toI]) (fun ht17=>?_) (fun ht17=>?_)
   ·
    refine CQR ?_;refine A0 mV ?_;refine A0 aV ?_;refine CN ?_
    exact zb rfl rfl (zd rfl (by unfold holdsE;rw [if_pos ht17]))
   ·
    refine CSIR ?_;refine A0 zs ?_;refine A0 mV ?_;refine CN ?_
    exact Nx (k+1) (by first|exact ⟨by omega,fun _=>Classical.not_not.1 ht17,fun h=>by omega⟩|exact ⟨by omega,fun _=>hinv.2.1 (by omega),fun _=>Classical.not_not.1 ht17⟩) (by omega)
  ·
   refine CSQBQR ?_;refine A0 (g_index rfl rfl rfl rfl ar_101 zy (by assumption)) ?_;refine zf zcO rfl rfl rfl rfl ?_;refine za rfl rfl rfl rfl rfl (Lens.self _) zy rfl ?_;refine CNQR ?_
   refine A0 (oLs rfl rfl rfl zy) ?_;refine A0 (oCl (checkP_ok x.q) rfl fn_24 ⟨(ze rfl),trivial⟩) ?_;refine A0 aV ?_;refine CNQR ?_;refine A0 mV ?_;refine A0 zaz ?_;refine CN ?_
   refine zo (p:=¬checkP x.q=0) rfl (by simp [IntL.toI]) (fun ht17=>?_) (fun ht17=>?_)
   ·
    refine CQR ?_;refine A0 mV ?_;refine A0 aV ?_;refine CN ?_
    exact zb rfl rfl (zd rfl (by unfold holdsE;rw [if_neg (fun h=>h (hinv.2.1 (by omega)))]))
   ·
    refine CSIR ?_;refine A0 zs ?_;refine A0 mV ?_;refine CN ?_
    exact Nx (k+1) (by first|exact ⟨by omega,fun _=>Classical.not_not.1 ht17,fun h=>by omega⟩|exact ⟨by omega,fun _=>hinv.2.1 (by omega),fun _=>Classical.not_not.1 ht17⟩) (by omega)
 ·
  refine CE ?_;refine CQR ?_;refine A0 aV ?_;refine CN ?_
  exact zb rfl rfl (zd rfl (by unfold holdsE;rw [if_neg (fun h=>h (hinv.2.1 (by omega))),hinv.2.2 (by omega)]))
theorem alikeE_ok (x:PPair) (h1:0<x.p.p.length) (h2:0<x.q.p.length) (h3:x.p.p.length≤110) (h4:x.q.p.length≤110):Tells P 35 [.val pPairT x] (.val i64T (alikeE x)):=by
 have hy:=at_ x.p h1
 have hz:=at_ x.q h2
 have hiy:=ids_at x.p h1
 have hiz:=ids_at x.q h2
 refine zc Tryz.func35 rfl rfl rfl (fun ext w hext=>?_)
 refine CQR ?_;refine zj rfl rfl rfl rfl rfl ?_;refine A0 aV ?_;refine CNQ ?_;refine CB ?_;refine CQQR ?_;refine A0 (oFp fd_65_0) ?_;refine A0 (oFp zbZ) ?_;refine A0 (oLb (zez.comp zbd) ty_3) ?_
 refine A0 (oFp fd_65_1) ?_;refine A0 (oFp zbZ) ?_;refine A0 (oLb (zey.comp zbd) ty_3) ?_;refine A0 zaz ?_;refine A0 aV ?_;refine CN ?_
 refine zo (p:=¬x.p.m=x.q.m) rfl (by simp [IntL.toI]) (fun ht3=>?_) (fun ht3=>?_)
 ·
  refine CS ?_;refine aw_if_t rfl (by simpa [IntL.toI] using ht3) ?_;refine CQR ?_;refine A0 aV ?_;refine CN ?_
  exact zb rfl rfl (zd rfl (by unfold alikeE;rw [if_pos (.inl (by assumption))]))
 ·
  refine CR ?_;refine A0 (oFp fd_65_0) ?_;refine A0 (oFp zbS) ?_;refine A0 (oLb (zez.comp za3) ty_3) ?_;refine A0 (oFp fd_65_1) ?_;refine A0 (oFp zbS) ?_;refine A0 (oLb (zey.comp za3) ty_3) ?_
  refine A0 zaz ?_;refine A0 aV ?_;refine CN ?_
  refine zo (p:=¬x.p.k=x.q.k) rfl (by simp [IntL.toI]) (fun ht3=>?_) (fun ht3=>?_)
  ·
   refine CQR ?_;refine A0 aV ?_;refine CN ?_
   exact zb rfl rfl (zd rfl (by unfold alikeE;rw [if_pos (.inr (by assumption))]))
  ·
   refine CQ ?_;refine CD mixed ?_;refine G0 (oFp fd_65_0) ?_;refine G0 (oFp zac) ?_;refine G0 (oLb (zez.comp zP) zbh) ?_;refine G0 (zD (i:=0) rfl rfl rfl (by omega) zcf (by assumption)) ?_
   refine G0 (oFr zaU zaH) ?_;refine G0 (zg rfl rfl zai) ?_;refine G0 (oFp fd_65_1) ?_;refine G0 (oFp zac) ?_;refine G0 (oLb (zey.comp zP) zbh) ?_
   refine G0 (zD (i:=0) rfl rfl rfl (by omega) zcf (by assumption)) ?_;refine G0 (oFr zaU zaH) ?_;refine G0 (zg rfl rfl zai) ?_;refine G0 (zdc rfl rfl rfl (eqt_55)) ?_;refine G0 mV ?_
   refine zag (d:=32) (p:=¬(yAt x.p 0).h=(yAt x.q 0).h) rfl (by simp) (fun g32=>?_) (fun g32=>?_)
   ·
    refine G1 (oFp fd_65_0) ?_;refine G1 (oLb zez zy) ?_;refine G1 (oCl (zw (ids_ok x.p (by omega))) rfl fn_28 ⟨(ze rfl),trivial⟩) ?_;refine G1 (zD (i:=0) rfl rfl rfl (by omega) za5 (by assumption)) ?_
    refine G1 (zg rfl rfl zx) ?_;refine G1 (oFp fd_65_1) ?_;refine G1 (oLb zey zy) ?_;refine G1 (oCl (zw (ids_ok x.q (by omega))) rfl fn_28 ⟨(ze rfl),trivial⟩) ?_
    refine G1 (zD (i:=0) rfl rfl rfl (by omega) za5 (by assumption)) ?_;refine G1 (zg rfl rfl zx) ?_;refine G1 (zdc rfl rfl rfl (zdd)) ?_;refine G0 oK ?_;refine G0 aV ?_;refine GK.nil ?_
    refine zo (p:=¬headId (yAt x.p 0).h=headId (yAt x.q 0).h) rfl (by simp) (fun ht18=>?_) (fun ht18=>?_)
    ·
     refine CQR ?_;refine A0 aV ?_;refine CN ?_
     exact zb rfl rfl (zd rfl (by unfold alikeE;rw [if_neg (fun h=>by omega),if_pos ⟨g32,ht18⟩]))
    ·
     refine CS ?_;refine CI ?_;refine CQR ?_;refine A0 aV ?_;refine CN ?_
     exact zb rfl rfl (zd rfl (by unfold alikeE;rw [if_neg (fun h=>by omega),if_neg (fun h=>ht18 h.2)]))
   ·
    refine G2 ?_;refine G2 ?_;refine G2 ?_;refine G2 ?_;refine G2 ?_;refine G2 ?_;refine G2 ?_;refine G2 ?_;refine G2 ?_;refine G2 ?_;refine G2 ?_;refine G0 oK ?_;refine G0 aV ?_;refine GK.nil ?_;refine Cg ?_;refine CS ?_
    refine CI ?_;refine CQR ?_;refine A0 aV ?_;refine CN ?_
    exact zb rfl rfl (zd rfl (by unfold alikeE;rw [if_neg (fun h=>by omega),if_neg (fun h=>g32 h.1)]))
theorem worth_ok (p:Proof) (i:Int) (hp:p.p.length≤110) (h1:-1≤i) (h2:i<p.p.length):Tells P 36 [.val proofT p,.val i64T i] (.val i64T (worthOf p i)):=by
 have hll:(levelsP p).length=p.p.length:=by unfold levelsP;simp
 refine zc Tryz.func36 rfl rfl rfl (fun ext w hext=>?_)
 refine zh (d:=1) rfl zR (fun hin1=>?_)
 refine CQR ?_;refine zj rfl rfl rfl rfl rfl ?_;refine A0 aV ?_;refine CNQ ?_;refine CD mixed ?_;refine G0 (oLs rfl rfl rfl zy) ?_;refine G0 (oCl (zw (levelsP_ok p (by omega))) rfl fn_37 ⟨(ze rfl),trivial⟩) ?_
 refine G0 mV ?_;refine G0 zs ?_;refine G0 (g_sl_l rfl rfl rfl zdq (by first|assumption|omega|(simp;omega))) ?_;refine G0 (oFp zbZ) ?_;refine G0 (oLb zbd ty_3) ?_
 refine G0 (oCl (score_ok ((levelsP p).drop (i+1).toNat) p.m) rfl fn_22 ⟨(ze rfl),(ze rfl),trivial⟩) ?_;refine G0 aV ?_;refine GK.nil ?_
 exact zb rfl rfl (zd rfl (rfl))
theorem better_ok (p q:Proof) (hp:p.p.length≤110) (hq:q.p.length≤110):Tells P 15 [.val proofT p,.val proofT q] (.tup2 (.val boolT (betterB p q)) (.val i64T (betterE p q))):=by
 obtain ⟨x,hx⟩:∃x:PPair,x=⟨p,q⟩:=⟨_,rfl⟩
 have hbd:=common_bound p q
 refine zc Tryz.func15 rfl rfl rfl (fun ext w hext=>?_)
 refine CQR ?_;refine zj rfl rfl rfl rfl rfl ?_;refine zj rfl rfl rfl rfl rfl ?_;refine A0 aV ?_;refine A0 aV ?_;refine CNQR ?_;refine A0 (oLs rfl rfl rfl zy) ?_;refine A0 (oLs rfl rfl rfl zy) ?_
 refine A0 (zab rfl ze_65 bd_65 (.cons fd_65_0 zez zy rfl (.cons fd_65_1 zey zy rfl .nil)) rfl) ?_;refine zf ze_65 rfl rfl rfl rfl ?_;refine za rfl rfl rfl rfl rfl (Lens.self _) ty_65 rfl ?_;refine CNQ ?_
 refine CQ ?_;refine zz (n:=2) (y:=x) rfl hx.symm ?_;refine CR ?_;refine A0 (oLs rfl rfl rfl ty_65) ?_;refine A0 (g_mkbv rfl rfl) ?_;refine A0 (oLs rfl rfl rfl ty_65) ?_;refine A0 (g_mkbv rfl rfl) ?_
 refine A0 (zr (T:=(bndvT pPairT)) (xs:=[_,_]) rfl sl_100 row_100 ⟨rfl,rfl,rfl,rfl,trivial⟩ rfl rfl) ?_
 refine zbN rfl rfl rfl rfl Tryz.func33 fn_33 rfl rfl (fun ia1 iok1=>?_)
 refine CQR ?_;refine A0 aV ?_;refine CNQQR ?_;refine A0 mV ?_;refine A0 (zA rfl rfl isl_100) ?_;refine A0 mV ?_;refine CNB ?_
 refine Lp (ι:=Nat) 3 (fun (k:Nat)=>(((Fr.none).set 6 (.val (sl (bndvT pPairT)) [(34,x),(35,x)])).set 7 (.val i64T 2)).set 8 (.val i64T (k:Int))) (fun (k:Nat)=>((Hp.none).set 0 (.box 25 proofT p)).set 1 (.box 25 proofT q)) (fun (k:Nat)=>k≤2∧(0<k→holdsE x=0)∧(1<k→alikeE x=0)) (fun (k:Nat)=>2-k) (0) (⟨by omega,fun h=>absurd h (by decide),fun h=>absurd h (by decide)⟩) ?_
 intro k hinv
 refine CQR ?_;refine A0 zC ?_;refine CNQ ?_
 refine Cf (p:=k<2) (fun ht9=>?_) (fun ht9=>?_)
 ·
  obtain ⟨e,he⟩:∃e,[((34:Nat),x),(35,x)][k]?=some e:=⟨_,List.getElem?_eq_getElem (show k<2 from ht9)⟩
  have hek:(k=0∧e=(34,x))∨(k=1∧e=(35,x)):=by rcases (show k=0∨k=1 by omega) with rfl|rfl;exact .inl ⟨rfl,(Option.some.inj he).symm⟩;exact .inr ⟨rfl,(Option.some.inj he).symm⟩
  rcases hek with ⟨hk,rfl⟩|⟨hk,rfl⟩
  ·
   refine CSQBQR ?_;refine A0 (zaq rfl rfl rfl sl_100 (by assumption)) ?_;refine A0 (zg rfl rfl ty_67) ?_;refine A0 aX ?_;refine CNQR ?_;refine A0 mX ?_;refine A0 (g_callbv (holdsE_ok x) rfl rfl fn_34 rfl) ?_;refine A0 aX ?_
   refine CNQR ?_;refine A0 mX ?_;refine A0 zaz ?_;refine CN ?_
   refine zo (p:=¬holdsE x=0) rfl (by simp [IntL.toI]) (fun ht15=>?_) (fun ht15=>?_)
   ·
    refine CQR ?_;refine A0 mX ?_;refine A0 aX ?_;refine CN ?_;refine zc5 rfl ?_;refine A0 aX ?_;refine CNQR ?_;refine A0 mX ?_;refine A0 zaz ?_;refine CN ?_;refine aw_if_t rfl (by simpa [IntL.toI] using ht15) ?_;refine CQR ?_
    refine A0 mX ?_;refine A0 aV ?_;refine A0 aX ?_;refine CN ?_
    exact zad rfl rfl (zd rfl (by unfold betterB betterE;rw [←hx,if_pos ht15,decide_eq_false ht15];rfl)) (zd rfl (by unfold betterE;rw [←hx,if_pos ht15]))
   ·
    refine CSIR ?_;refine A0 zs ?_;refine A0 mV ?_;refine CN ?_
    exact Nx (k+1) (by first|exact ⟨by omega,fun _=>Classical.not_not.1 ht15,fun h=>by omega⟩|exact ⟨by omega,fun _=>hinv.2.1 (by omega),fun _=>Classical.not_not.1 ht15⟩) (by omega)
  ·
   refine CSQBQR ?_;refine A0 (zaq rfl rfl rfl sl_100 (by assumption)) ?_;refine A0 (zg rfl rfl ty_67) ?_;refine A0 aX ?_;refine CNQR ?_;refine A0 mX ?_
   refine A0 (g_callbv (alikeE_ok x (by have:=holds_both (hinv.2.1 (by omega));exact holds_len this.1) (by have:=holds_both (hinv.2.1 (by omega));exact holds_len this.2) (by rw [hx];exact hp) (by rw [hx];exact hq)) rfl rfl fn_35 rfl) ?_
   refine A0 aX ?_;refine CNQR ?_;refine A0 mX ?_;refine A0 zaz ?_;refine CN ?_
   refine zo (p:=¬alikeE x=0) rfl (by simp [IntL.toI]) (fun ht15=>?_) (fun ht15=>?_)
   ·
    refine CQR ?_;refine A0 mX ?_;refine A0 aX ?_;refine CN ?_;refine zc5 rfl ?_;refine A0 aX ?_;refine CNQR ?_;refine A0 mX ?_;refine A0 zaz ?_;refine CN ?_;refine aw_if_t rfl (by simpa [IntL.toI] using ht15) ?_;refine CQR ?_
    refine A0 mX ?_;refine A0 aV ?_;refine A0 aX ?_;refine CN ?_
    exact zad rfl rfl (zd rfl (by unfold betterB betterE;rw [←hx,if_neg (fun h=>h (hinv.2.1 (by omega))),decide_eq_false ht15];rfl)) (zd rfl (by unfold betterE;rw [←hx,if_neg (fun h=>h (hinv.2.1 (by omega)))]))
   ·
    refine CSIR ?_;refine A0 zs ?_;refine A0 mV ?_;refine CN ?_
    exact Nx (k+1) (by first|exact ⟨by omega,fun _=>Classical.not_not.1 ht15,fun h=>by omega⟩|exact ⟨by omega,fun _=>hinv.2.1 (by omega),fun _=>Classical.not_not.1 ht15⟩) (by omega)
 ·
  refine CE ?_;refine CQR ?_;refine A0 aV ?_;refine CN ?_;refine zc5 rfl ?_;refine A0 aX ?_;refine CNQR ?_;refine A0 mX ?_;refine A0 zaz ?_;refine CN ?_;refine Cg ?_;refine CSQR ?_;refine A0 (oLs rfl rfl rfl zy) ?_
  refine A0 (oLs rfl rfl rfl zy) ?_;refine A0 (oCl (common_ok p q hp hq) rfl fn_13 ⟨(ze rfl),(ze rfl),trivial⟩) ?_;refine A0 mX ?_;refine A0 (by first|exact z6 rfl rfl|exact zY rfl rfl) ?_
  refine A0 (by first|exact z8 rfl rfl|exact z7 rfl rfl) ?_;refine A0 aV ?_;refine A0 aV ?_;refine CNQR ?_;refine A0 aC ?_;refine CNQ ?_;refine CD mixed ?_;refine G0 mC ?_;refine G0 (oLs rfl rfl rfl zy) ?_;refine G0 mV ?_
  refine G0 (zdl (As:=[_,_]) (Cs:=[]) (worth_ok q (commonOf p q).2 hq hbd.2.1 hbd.2.2) rfl rfl fn_36 ⟨(ze rfl),(ze rfl),trivial⟩ (by intro n hn;cases hn) trivial rfl) ?_;refine G0 mC ?_;refine G0 (oLs rfl rfl rfl zy) ?_
  refine G0 mV ?_;refine G0 (zdl (As:=[_,_]) (Cs:=[]) (worth_ok p (commonOf p q).1 hp hbd.1.1 hbd.1.2) rfl rfl fn_36 ⟨(ze rfl),(ze rfl),trivial⟩ (by intro n hn;cases hn) trivial rfl) ?_;refine G0 zaP ?_;refine G0 aV ?_
  refine G0 aV ?_;refine GK.nil ?_
  exact zad rfl rfl (zd rfl (by unfold betterB betterE;rw [←hx,if_neg (fun h=>h (hinv.2.1 (by omega))),hinv.2.2 (by omega)];simp [IntL.toI])) (zd rfl (by unfold betterE;rw [←hx,if_neg (fun h=>h (hinv.2.1 (by omega))),hinv.2.2 (by omega)]))
theorem pick_ok (p q:Proof) (hp:smallP p) (hq:smallP q):Tells P 17 [.val proofT p,.val proofT q] (.tup2 (.val proofT (pickOf p q).1) (.val i64T (pickOf p q).2)):=by
 refine zc Tryz.func17 rfl rfl rfl (fun ext w hext=>?_)
 refine CQR ?_;refine zj rfl rfl rfl rfl rfl ?_;refine zj rfl rfl rfl rfl rfl ?_;refine zf zcO rfl rfl rfl rfl ?_;refine A0 aV ?_;refine CNQ ?_;refine CD mixed ?_;refine G0 (oLs rfl rfl rfl zy) ?_
 refine G0 (oCl (checkP_ok p) rfl fn_24 ⟨(ze rfl),trivial⟩) ?_;refine G0 (oLs rfl rfl rfl zy) ?_;refine G0 (oCl (checkP_ok q) rfl fn_24 ⟨(ze rfl),trivial⟩) ?_;refine G0 aV ?_;refine G0 aV ?_;refine GK.nil ?_;refine CQ ?_
 refine CB ?_;refine CQR ?_;refine A0 mV ?_;refine A0 zaz ?_;refine A0 mV ?_
 refine zaw (d:=16) (p:=¬checkP p=0) rfl (by simp [IntL.toI]) (fun g16=>?_) (fun g16=>?_)
 ·
  refine A1 mV ?_;refine A1 zbb ?_;refine A0 oK ?_;refine A0 aV ?_;refine CN ?_
  refine zo (p:=checkP q=0) rfl (by simp [IntL.toI]) (fun ht13=>?_) (fun ht13=>?_)
  ·
   refine CQR ?_;refine A0 (oLs rfl rfl rfl zy) ?_;refine A0 (oCl (ownP_ok q hq) rfl fn_40 ⟨(ze rfl),trivial⟩) ?_;refine za rfl rfl rfl rfl rfl (Lens.self _) zy rfl ?_;refine A0 aV ?_;refine CN ?_
   exact zH rfl rfl (zE rfl rfl zy (by unfold pickOf;rw [if_pos ⟨g16,ht13⟩])) (zah (zd rfl (by unfold pickOf;rw [if_pos ⟨g16,ht13⟩])))
  ·
   refine CQR ?_;refine A0 mV ?_;refine A0 zaz ?_;refine A0 mV ?_;refine zdg (d:=25) rfl (by simpa [IntL.toI] using g16) ?_;refine A2 ?_;refine A2 ?_;refine A0 oK ?_;refine A0 aV ?_;refine CN ?_;refine Ct ?_;refine CQR ?_
   refine A0 (oLs rfl rfl rfl zy) ?_;refine A0 (oCl (ownP_ok p hp) rfl fn_40 ⟨(ze rfl),trivial⟩) ?_;refine A0 mV ?_;refine za rfl rfl rfl rfl rfl (Lens.self _) zy rfl ?_;refine A0 aV ?_;refine CN ?_
   exact zH rfl rfl (zE rfl rfl zy (by unfold pickOf;rw [if_neg (fun h=>ht13 h.2),if_pos (.inl g16)])) (zah (zd rfl (by unfold pickOf;rw [if_neg (fun h=>ht13 h.2),if_pos (.inl g16)])))
 ·
  refine A2 ?_;refine A2 ?_;refine A0 oK ?_;refine A0 aV ?_;refine CN ?_;refine Cg ?_;refine CQR ?_;refine A0 mV ?_;refine A0 zaz ?_;refine A0 mV ?_;refine aw_isf (d:=25) rfl (by simpa [IntL.toI] using g16) ?_;refine A1 mV ?_
  refine A1 zaz ?_;refine A0 oK ?_;refine A0 aV ?_;refine CN ?_
  refine zo (p:=¬checkP q=0) rfl (by simp [IntL.toI]) (fun ht22=>?_) (fun ht22=>?_)
  ·
   refine CQR ?_;refine A0 (oLs rfl rfl rfl zy) ?_;refine A0 (oCl (ownP_ok p hp) rfl fn_40 ⟨(ze rfl),trivial⟩) ?_;refine A0 mV ?_;refine za rfl rfl rfl rfl rfl (Lens.self _) zy rfl ?_;refine A0 aV ?_;refine CN ?_
   exact zH rfl rfl (zE rfl rfl zy (by unfold pickOf;rw [if_neg (fun h=>g16 h.1),if_pos (.inr ht22)])) (zah (zd rfl (by unfold pickOf;rw [if_neg (fun h=>g16 h.1),if_pos (.inr ht22)])))
  ·
   refine CS ?_;refine CI ?_;refine CQR ?_;refine A0 (oLs rfl rfl rfl zy) ?_;refine A0 (oLs rfl rfl rfl zy) ?_;refine A0 (oCl (better_ok p q hp.1 hq.1) rfl fn_15 ⟨(ze rfl),(ze rfl),trivial⟩) ?_;refine A0 mX ?_
   refine A0 (by first|exact z6 rfl rfl|exact zY rfl rfl) ?_;refine A0 (by first|exact z8 rfl rfl|exact z7 rfl rfl) ?_;refine A0 aV ?_;refine A0 aV ?_;refine CNQQR ?_;refine A0 mV ?_;refine CN ?_
   refine zo (p:=betterB p q=true) rfl (by simp) (fun ht38=>?_) (fun ht38=>?_)
   ·
    refine CQR ?_;refine A0 (oLs rfl rfl rfl zy) ?_;refine A0 (oCl (ownP_ok q hq) rfl fn_40 ⟨(ze rfl),trivial⟩) ?_;refine za rfl rfl rfl rfl rfl (Lens.self _) zy rfl ?_;refine A0 aV ?_;refine CN ?_
    exact zH rfl rfl (zE rfl rfl zy (by unfold pickOf;rw [if_neg (fun h=>g16 h.1),if_neg (fun h=>h.elim g16 ht22),if_pos ht38])) (zah (zd rfl (by unfold pickOf;rw [if_neg (fun h=>g16 h.1),if_neg (fun h=>h.elim g16 ht22),if_pos ht38])))
   ·
    refine CSQR ?_;refine A0 (oLs rfl rfl rfl zy) ?_;refine A0 (oCl (ownP_ok p hp) rfl fn_40 ⟨(ze rfl),trivial⟩) ?_;refine A0 mV ?_;refine za rfl rfl rfl rfl rfl (Lens.self _) zy rfl ?_;refine A0 aV ?_;refine CN ?_
    exact zH rfl rfl (zE rfl rfl zy (by unfold pickOf;rw [if_neg (fun h=>g16 h.1),if_neg (fun h=>h.elim g16 ht22),if_neg ht38])) (zah (zd rfl (by unfold pickOf;rw [if_neg (fun h=>g16 h.1),if_neg (fun h=>h.elim g16 ht22),if_neg ht38])))
theorem fold_ok (l:List Proof) (hl:∀p∈l,smallP p) (hn:l.length≤1000000):Tells P 19 [.val (bsl proofT) l] (.tup2 (.val proofT (foldOf l).1) (.val i64T (foldOf l).2)):=by
 refine zc Tryz.func19 rfl rfl rfl (fun ext w hext=>?_)
 refine zh (d:=0) rfl zn (fun hsl0=>?_)
 refine CQR ?_;refine zf zcO rfl rfl rfl rfl ?_;refine A0 aV ?_;refine CNQQR ?_;refine A0 mV ?_;refine A0 (zA rfl rfl isl_26) ?_;refine A0 zbb ?_;refine CN ?_
 refine zo (p:=l.length=0) rfl (by simp [IntL.toI]) (fun ht9=>?_) (fun ht9=>?_)
 ·
  obtain rfl:l=[]:=List.length_eq_zero_iff.1 ht9
  refine CQR ?_;refine A0 (zab rfl zcO bd_25 .nil rfl) ?_;refine za rfl rfl rfl rfl rfl (Lens.self _) zy rfl ?_;refine A0 aV ?_;refine CN ?_
  exact zH rfl rfl (zE rfl rfl zy (rfl)) (zah (zd rfl (rfl)))
 ·
  obtain ⟨p,r,rfl⟩:∃p r,l=p::r:=by cases l with|nil=>exact absurd rfl ht9|cons p r=>exact ⟨p,r,rfl⟩
  have hp0:=hl p (List.mem_cons_self ..)
  have hn2:r.length≤1000000:=by simp at hn;omega
  have hz:(p::r)[0]?=some p:=rfl
  refine CSQR ?_;refine A0 mV ?_;refine A0 (zD (i:=0) rfl rfl rfl (by omega) sl_26 (by assumption)) ?_;refine A0 (zg rfl rfl zy) ?_
  refine A0 (oCl (ownP_ok p hp0) rfl fn_40 ⟨(by first|exact zI rfl|exact zW rfl|exact zQ rfl rfl|exact zU rfl|exact zJ rfl|exact zak rfl rfl|exact zV rfl),trivial⟩) ?_
  refine zf zcO rfl rfl rfl rfl ?_;refine za rfl rfl rfl rfl rfl (Lens.self _) zy rfl ?_;refine CNQQR ?_;refine A0 mV ?_;refine A0 (g_sl_l rfl rfl rfl sl_26 (by first|assumption|omega|(simp;omega))) ?_
  refine zl (d:=16) (y:=r) rfl rfl ?_;refine A0 (zA rfl rfl isl_26) ?_;refine A0 mV ?_;refine CNB ?_
  refine Lp (ι:=Nat×Proof) 2 (fun (i:Nat×Proof)=>match i with|(i,o)=>(((((Fr.none).set 2 (.ptr 0 0)).set 4 (.ptr 1 0)).set 16 (.val (bsl proofT) r)).set 17 (.val i64T (r.length:Int))).set 18 (.val i64T (i:Int))) (fun (i:Nat×Proof)=>match i with|(i,o)=>((Hp.none).set 0 (.box 25 proofT zProof)).set 1 (.box 25 proofT o)) (fun (i:Nat×Proof)=>match i with|(i,o)=>i≤r.length∧o=(r.take i).foldl (fun o q=>(pickOf o q).1) p) (fun (i:Nat×Proof)=>match i with|(i,o)=>r.length-i) ((0,p)) (⟨Nat.zero_le _,rfl⟩) ?_
  intro ⟨i,o⟩ hinv
  dsimp only at hinv
  refine CQR ?_;refine A0 zC ?_;refine CNQ ?_
  refine Cf (p:=i<r.length) (fun ht19=>?_) (fun ht19=>?_)
  ·
   obtain ⟨q,hq⟩:∃q,r[i]?=some q:=⟨_,List.getElem?_eq_getElem ht19⟩
   have hqs:=hl q (List.mem_cons_of_mem _ (List.mem_of_getElem? hq))
   have hos:smallP o:=by rw [hinv.2];exact fold_small (fun p hp=>hl p (List.mem_cons_of_mem _ (List.mem_of_mem_take hp))) hp0
   refine CSQBQR ?_;refine A0 (zaq rfl rfl rfl sl_26 (by assumption)) ?_;refine A0 (zg rfl rfl zy) ?_;refine zf zcO rfl rfl rfl rfl ?_;refine za rfl rfl rfl rfl rfl (Lens.self _) zy rfl ?_;refine CNR ?_
   refine A0 (oLs rfl rfl rfl zy) ?_;refine A0 (oLs rfl rfl rfl zy) ?_;refine A0 (oCl (pick_ok o q hos hqs) rfl fn_17 ⟨(ze rfl),(ze rfl),trivial⟩) ?_;refine A0 mX ?_
   refine A0 (by first|exact z6 rfl rfl|exact zY rfl rfl) ?_;refine A0 (by first|exact z8 rfl rfl|exact z7 rfl rfl) ?_;refine za rfl rfl rfl rfl rfl (Lens.self _) zy rfl ?_;refine CNIR ?_;refine A0 zs ?_
   refine A0 mV ?_;refine CN ?_
   exact Nx ((i+1,(pickOf o q).1)) (⟨by omega,by rw [List.take_add_one,hq,List.foldl_append,←hinv.2];rfl⟩) (by show r.length-(i+1)<r.length-i;omega)
  ·
   refine CE ?_;refine CQ ?_;refine zB [some 1,some 1,some 1,none,some 1] mixed (by decide +kernel) ?_;refine X0 (oLs rfl rfl rfl zy) ?_;refine X0 (oLs rfl rfl rfl zy) ?_
   refine X0 (oCl (checkP_ok o) rfl fn_24 ⟨(ze rfl),trivial⟩) ?_
   refine XK.e (x:=.idk) (fun fr' hfr kk H=>by exact za rfl rfl rfl ((hfr 2 (by decide +kernel)).trans rfl) rfl (Lens.self _) zy ((hfr 29 (by decide +kernel)).trans rfl) (zG H)) ?_;refine X0 aV ?_;refine XK.nil' ?_
   exact zH rfl rfl (zE rfl rfl zy (by rw [hinv.2,List.take_of_length_le (by omega)];rfl)) (zah (zd rfl (by rw [hinv.2,List.take_of_length_le (by omega)];rfl)))
theorem fewL_ok (l:List Proof):Tells P 12 [.val (bsl proofT) l] (.val boolT (fewL l)):=by
 refine zc Tryz.func12 rfl rfl rfl (fun ext w hext=>?_)
 refine zh (d:=0) rfl zn (fun hsl0=>?_)
 refine CQR ?_;refine A0 aV ?_;refine CNQQR ?_;refine A0 aV ?_;refine CNB ?_
 refine Lp (ι:=Nat) 0 (fun (k:Nat)=>((Fr.none).set 0 (.val (bsl proofT) l)).set 3 (.val i64T (k:Int))) (fun (k:Nat)=>Hp.none) (fun (k:Nat)=>k≤l.length∧(l.take k).all fewPr=true) (fun (k:Nat)=>l.length-k) (0) (⟨Nat.zero_le _,rfl⟩) ?_
 intro k hinv
 refine CQQR ?_;refine A0 mV ?_;refine A0 mV ?_;refine A0 (zA rfl rfl isl_26) ?_;refine A0 zC ?_;refine CN ?_
 refine Cf (p:=k<l.length) (fun ht8=>?_) (fun ht8=>?_)
 ·
  obtain ⟨x,hx⟩:∃x,l[k]?=some x:=⟨_,List.getElem?_eq_getElem ht8⟩
  refine CSQBQR ?_;refine A0 mV ?_;refine A0 mV ?_;refine A0 (zD (i:=k) rfl rfl rfl (by omega) sl_26 (by assumption)) ?_;refine A0 (zg rfl rfl zy) ?_
  refine A0 (oCl (fewPr_ok x) rfl fn_11 ⟨(by first|exact zI rfl|exact zW rfl|exact zQ rfl rfl|exact zU rfl|exact zJ rfl|exact zak rfl rfl|exact zV rfl),trivial⟩) ?_;refine A0 aV ?_
  refine CNQR ?_;refine A0 mV ?_;refine A0 oN ?_;refine CN ?_
  refine zo (p:=fewPr x=false) rfl (by cases fewPr x<;>rfl) (fun ht17=>?_) (fun ht17=>?_)
  ·
   refine CQR ?_;refine A0 aV ?_;refine CN ?_
   exact zb rfl rfl (zd rfl ((by symm;unfold fewL;rw [Bool.and_eq_false_iff];left;rw [List.all_eq_false];exact ⟨x,List.mem_of_getElem? hx,by simp [ht17]⟩)))
  ·
   refine CSIR ?_;refine A0 mV ?_;refine A0 zs ?_;refine A0 aV ?_;refine CN ?_
   exact Nx (k+1) (⟨by omega,by rw [List.take_add_one,hx,List.all_append,hinv.2];simpa using ht17⟩) (by omega)
 ·
  refine CE ?_;refine CQR ?_;refine A0 mV ?_;refine A0 (zA rfl rfl isl_26) ?_;refine A0 o_leq ?_;refine A0 aV ?_;refine CN ?_
  exact zb rfl rfl (zd rfl ((by have h:=hinv.2;rw [List.take_of_length_le (by omega)] at h;unfold fewL;rw [h,Bool.true_and,decide_eq_decide];simp only [IntL.toI,id_eq];omega)))
end Go.Proofs.YtdeghaedeefooaaGreat
set_option maxRecDepth 20000
namespace Go.Proofs.YtdeghaedeefooaaGreat
open Go.Ab Go.RowKit
theorem zdU {p q:Proof} (h:¬betterE p q=0):betterB p q=false:=by
  unfold betterB;rw [decide_eq_false h];rfl
theorem betterE_p {p q:Proof} (h:¬checkP p=0):betterE p q=checkP p:=by
  have:holdsE ⟨p,q⟩=checkP p:=by unfold holdsE;rw [if_pos h]
  unfold betterE;rw [this,if_pos h]
theorem betterE_q {p q:Proof} (hp:checkP p=0) (h:¬checkP q=0):betterE p q=checkP q:=by
  have:holdsE ⟨p,q⟩=checkP q:=by unfold holdsE;rw [if_neg (fun c=>c hp)]
  unfold betterE;rw [this,if_pos h]
theorem zcX {p q:Proof} (hp:checkP p=0) (hq:checkP q=0):betterE p q=alikeE ⟨p,q⟩:=by
  have:holdsE ⟨p,q⟩=0:=by unfold holdsE;rw [if_neg (fun c=>c hp)];exact hq
  unfold betterE;rw [this,if_neg (by decide)]
theorem pick_1 {p q:Proof} (hp:¬checkP p=0) (hq:checkP q=0):pickOf p q=(q,0):=by unfold pickOf;rw [if_pos ⟨hp,hq⟩]
abbrev foldP (l:List Proof) (p:Proof):Proof:=l.foldl (fun o q=>(pickOf o q).1) p
theorem easy_pick:pickOf zProof easyP=(easyP,0):=pick_1 (by rw [zero_check];decide) easy_check
theorem easy_fold:foldOf [zProof,easyP]=(easyP,0):=by
  show (foldP [easyP] zProof,checkP (foldP [easyP] zProof))=_
  have e:foldP [easyP] zProof=easyP:=by show (pickOf zProof easyP).1=_;rw [easy_pick]
  rw [e,easy_check]
theorem easy_common:commonOf easyP easyP=(1,1):=by
  have ei:idsP easyP=[headId easyH,headId easyB.h]:=rfl
  unfold commonOf
  rw [ei]
  have h1:idx (fun x=>decide (headId easyB.h=x)) [headId easyH,headId easyB.h]=1:=by
    have e2:decide (headId easyB.h=headId easyH)=false:=by
      have:=of_decide_eq_false easy_two
      exact decide_eq_false (fun c=>this c.symm)
    rw [idx,idx,e2]
    simp [idx]
  show commonF [headId easyH,headId easyB.h] [headId easyH,headId easyB.h] (1+1)=_
  have e0:([headId easyH,headId easyB.h]:List Ab.Id).getD 1 zId=headId easyB.h:=rfl
  show (if _ then _ else _)=_
  rw [e0,h1,if_neg (by decide)];rfl
theorem easy_s1:decide (scoreOf [0,0,1,2] 1=4)=true:=by kernel_rfl
theorem easy_s2:decide (scoreOf [0,0,1,2] 2=4)=true:=by kernel_rfl
theorem easy_s3:decide (scoreOf [0,0,1,2] 3=4)=true:=by kernel_rfl
theorem awake19_ok:Tells P 10 [] (.val boolT true):=by
 have hes:∀p∈[zProof,easyP],smallP p:=by intro p hp;simp only [List.mem_cons,List.not_mem_nil,or_false] at hp;rcases hp with rfl|rfl<;>exact ⟨by decide,by decide⟩
 refine zc Tryz.func10 rfl rfl rfl (fun ext w hext=>?_)
 refine CQR ?_;refine A0 aV ?_;refine CNQR ?_;refine A0 (oCl (two_ok) rfl fn_27 trivial) ?_;refine A0 (oCl (prBuild_ok [easyB0,easyB] 1 1 small_easyC) rfl fn_26 ⟨(ze rfl),(ze rfl),(ze rfl),trivial⟩) ?_;refine A0 mX ?_
 refine A0 (by first|exact z6 rfl rfl|exact zY rfl rfl) ?_;refine zl (d:=10) (y:=easyP) rfl easy_pr ?_;refine A0 (by first|exact z8 rfl rfl|exact z7 rfl rfl) ?_
 refine zl (d:=11) (y:=(0:Int)) rfl easy_prE ?_;refine zf zcO rfl rfl rfl rfl ?_;refine za rfl rfl rfl rfl rfl (Lens.self _) zy rfl ?_;refine A0 aV ?_;refine CNQR ?_
 refine A0 (zab rfl zcO bd_25 .nil rfl) ?_;refine A0 (oLs rfl rfl rfl zy) ?_;refine A0 (zr (T:=proofT) (xs:=[_,_]) rfl sl_26 row_26 ⟨rfl,rfl,rfl,rfl,trivial⟩ rfl rfl) ?_
 refine A0 (oCl (fold_ok [zProof,easyP] hes (by decide)) rfl fn_19 ⟨(ze rfl),trivial⟩) ?_;refine A0 mX ?_;refine A0 (by first|exact z6 rfl rfl|exact zY rfl rfl) ?_
 refine zl (d:=17) (y:=easyP) rfl (congrArg (·.1) easy_fold) ?_;refine A0 (by first|exact z8 rfl rfl|exact z7 rfl rfl) ?_;refine zl (d:=18) (y:=(0:Int)) rfl (congrArg (·.2) easy_fold) ?_
 refine zf zcO rfl rfl rfl rfl ?_;refine za rfl rfl rfl rfl rfl (Lens.self _) zy rfl ?_;refine A0 aV ?_;refine CNQR ?_;refine A0 (oLs rfl rfl rfl zy) ?_;refine A0 (oLs rfl rfl rfl zy) ?_
 refine A0 (oCl (common_ok easyP easyP (by decide) (by decide)) rfl fn_13 ⟨(ze rfl),(ze rfl),trivial⟩) ?_;refine A0 mX ?_;refine A0 (by first|exact z6 rfl rfl|exact zY rfl rfl) ?_
 refine zl (d:=23) (y:=(1:Int)) rfl (congrArg (·.1) easy_common) ?_;refine A0 (by first|exact z8 rfl rfl|exact z7 rfl rfl) ?_;refine zl (d:=24) (y:=(1:Int)) rfl (congrArg (·.2) easy_common) ?_
 refine A0 aV ?_;refine A0 aV ?_;refine CNQR ?_;refine A0 mV ?_;refine A0 zbb ?_;refine A0 mV ?_;refine zdg (d:=27) rfl (rfl) ?_;refine A1 mV ?_;refine A1 zbb ?_;refine A0 oK ?_;refine A0 mV ?_
 refine zdg (d:=31) rfl (rfl) ?_;refine A1 (oLs rfl rfl rfl zy) ?_;refine A1 (oLs rfl rfl rfl zy) ?_;refine A1 (oCl (sameP_ok easyP easyP) rfl fn_25 ⟨(ze rfl),(ze rfl),trivial⟩) ?_;refine A0 oK ?_;refine A0 mV ?_
 refine zdg (d:=36) rfl (by simp) ?_;refine A1 (oFp zac) ?_;refine A1 (oLb zP zbh) ?_;refine A1 (zA rfl rfl zbL) ?_;refine A1 zbb ?_;refine A0 oK ?_;refine A0 mV ?_;refine zdg (d:=42) rfl (rfl) ?_
 refine A1 mV ?_;refine A1 zbb ?_;refine A0 oK ?_;refine A0 mV ?_;refine zdg (d:=46) rfl (rfl) ?_;refine A1 mV ?_;refine A1 zbb ?_;refine A0 oK ?_;refine A0 mV ?_;refine zdg (d:=50) rfl (rfl) ?_
 refine A1 (zr (T:=i64T) (xs:=[_,_,_,_]) rfl zdq zc8 ⟨rfl,rfl,rfl,rfl,rfl,rfl,rfl,rfl,trivial⟩ rfl rfl) ?_;refine A1 (oCl (score_ok [0,0,1,2] 1) rfl fn_22 ⟨(ze rfl),(ze rfl),trivial⟩) ?_
 refine A1 zbb ?_;refine A0 oK ?_;refine A0 mV ?_;refine zdg (d:=55) rfl (easy_s1) ?_;refine A1 (zr (T:=i64T) (xs:=[_,_,_,_]) rfl zdq zc8 ⟨rfl,rfl,rfl,rfl,rfl,rfl,rfl,rfl,trivial⟩ rfl rfl) ?_
 refine A1 (oCl (score_ok [0,0,1,2] 2) rfl fn_22 ⟨(ze rfl),(ze rfl),trivial⟩) ?_;refine A1 zbb ?_;refine A0 oK ?_;refine A0 mV ?_;refine zdg (d:=60) rfl (easy_s2) ?_
 refine A1 (zr (T:=i64T) (xs:=[_,_,_,_]) rfl zdq zc8 ⟨rfl,rfl,rfl,rfl,rfl,rfl,rfl,rfl,trivial⟩ rfl rfl) ?_;refine A1 (oCl (score_ok [0,0,1,2] 3) rfl fn_22 ⟨(ze rfl),(ze rfl),trivial⟩) ?_
 refine A1 zbb ?_;refine A0 oK ?_;refine A0 aV ?_;refine CN ?_
 exact zb rfl rfl (zd rfl (easy_s3.symm))
end Go.Proofs.YtdeghaedeefooaaGreat
set_option maxRecDepth 20000
namespace Go.Proofs.YtdeghaedeefooaaGreat
open Go.Ab Go.RowKit
def rsF (v:List Int) (m:Int):Nat→Int
  | 0=>0
  | n+1=>if (n=0∨m≤(many v n:Int))∧rsF v m n<(many v n:Int)*2^n then (many v n:Int)*2^n else rsF v m n
theorem rs_one (v:List Int) (m:Int):rsF v m 1=(many v 0:Int):=by
  unfold rsF
  have e:(2:Int)^0=1:=rfl
  have e0:rsF v m 0=0:=rfl
  rw [e,e0,Int.mul_one]
  by_cases h:(0:Int)<(many v 0:Int)
  · rw [if_pos ⟨.inl rfl,h⟩]
  · rw [if_neg (fun c=>h c.2)];omega
theorem rs_many (v:List Int) (m:Int):∀n,rsF v m (n+1)=scoreF v m (n+1)
  | 0=>by
    rw [rs_one]
    show _=if m≤(many v 0:Int) then max (many v 0:Int) ((many v 0:Int)*2^0) else (many v 0:Int)
    rw [show (2:Int)^0=1 from rfl,Int.mul_one]
    split<;>omega
  | n+1=>by
    have ih:=rs_many v m n
    rw [rsF,scoreF,ih]
    by_cases h:m≤(many v (n+1):Int)
    · rw [if_pos h]
      by_cases c:scoreF v m (n+1)<(many v (n+1):Int)*2^(n+1)
      · rw [if_pos ⟨.inr h,c⟩,Int.max_eq_right (Int.le_of_lt c)]
      · rw [if_neg (fun q=>c q.2),Int.max_eq_left (Int.not_lt.1 c)]
    · rw [if_neg h,if_neg (fun q=>q.1.elim (fun e=>by omega) h)]
theorem rscore_ok (v:List Int) (m:Int):Tells P 23 [.val (bsl i64T) v,.val i64T m] (.val i64T (scoreOf v m)):=by
 refine zc Tryz.func23 rfl rfl rfl (fun ext w hext=>?_)
 refine zh (d:=0) rfl zn (fun hsl0=>?_)
 refine zh (d:=1) rfl zR (fun hin1=>?_)
 refine CQR ?_;refine A0 aV ?_;refine CNQQR ?_;refine A0 mV ?_;refine A0 (zA rfl rfl zdm) ?_;refine A0 zaP ?_;refine CN ?_
 refine Cf (p:=100<v.length) (fun ht12=>?_) (fun ht12=>?_)
 ·
  refine CQR ?_;refine A0 aV ?_;refine CN ?_
  exact zb rfl rfl (zd rfl (by unfold scoreOf;rw [if_pos ht12]))
 ·
  refine CSQR ?_;refine A0 aV ?_;refine CNQR ?_;refine A0 aV ?_;refine CNQQR ?_;refine A0 aV ?_;refine CNB ?_
  refine Lp (ι:=Nat) 0 (fun (n:Nat)=>(((((Fr.none).set 0 (.val (bsl i64T) v)).set 1 (.val i64T m)).set 5 (.val i64T (rsF v m n))).set 6 (.val i64T ((2:Int)^n))).set 7 (.val i64T (n:Int))) (fun (n:Nat)=>Hp.none) (fun (n:Nat)=>n≤32) (fun (n:Nat)=>32-n) (0) (Nat.zero_le _) ?_
  intro n hn
  refine CQQR ?_;refine A0 mV ?_;refine A0 o_leq ?_;refine CN ?_
  refine Cf (p:=n≤31) (fun ht14=>?_) (fun ht14=>?_)
  ·
   have ⟨hp1,hp2⟩:=two_pow_le (n:=n) (by omega)
   refine CSQBQR ?_;refine A0 aV ?_;refine CNQQR ?_;refine A0 aV ?_;refine CNB ?_;refine zl (d:=8) (y:=(many (v.take 0) n:Int)) rfl (by simp [many]) ?_
   refine Lp (ι:=Nat) 0 (fun (i:Nat)=>(((((((Fr.none).set 0 (.val (bsl i64T) v)).set 1 (.val i64T m)).set 5 (.val i64T (rsF v m n))).set 6 (.val i64T ((2:Int)^n))).set 7 (.val i64T (n:Int))).set 8 (.val i64T (many (v.take i) n:Int))).set 9 (.val i64T (i:Int))) (fun (i:Nat)=>Hp.none) (fun (i:Nat)=>i≤v.length) (fun (i:Nat)=>v.length-i) (0) (Nat.zero_le _) ?_
   intro i hinv
   refine CQQR ?_;refine A0 mV ?_;refine A0 mV ?_;refine A0 (zA rfl rfl zdm) ?_;refine A0 zC ?_;refine CN ?_
   refine Cf (p:=i<v.length) (fun ht20=>?_) (fun ht20=>?_)
   ·
    obtain ⟨x,hx⟩:∃x,v[i]?=some x:=⟨_,List.getElem?_eq_getElem ht20⟩
    have hml:=many_le (v.take i) n
    have hml2:(v.take i).length≤100:=by rw [List.length_take];omega
    have hms:=many_snoc hx n
    refine CSQBQR ?_;refine A0 mV ?_;refine A0 mV ?_;refine A0 (zD (i:=i) rfl rfl rfl (by omega) zdq (by assumption)) ?_;refine A0 (zg rfl rfl ty_3) ?_;refine A0 mV ?_;refine A0 zbf ?_;refine CN ?_
    refine Cf (p:=(n:Int)≤x) (fun ht28=>?_) (fun ht28=>?_)
    ·
     refine CR ?_;refine A0 mV ?_;refine A0 (g_add rfl rfl rfl (show _=((many (v.take i) n:Int)+1:Int) from zaa (by omega))) ?_;refine A0 aV ?_;refine CNIR ?_;refine A0 mV ?_;refine A0 zs ?_;refine A0 aV ?_;refine CN ?_
     refine zl (d:=8) (y:=(many (v.take (i+1)) n:Int)) rfl (by rw [hms,if_pos (by omega)]) ?_
     exact Nx (i+1) (by omega) (by omega)
    ·
     refine CSIR ?_;refine A0 mV ?_;refine A0 zs ?_;refine A0 aV ?_;refine CN ?_;refine zl (d:=8) (y:=(many (v.take (i+1)) n:Int)) rfl (by rw [hms,if_neg (by omega)];omega) ?_
     exact Nx (i+1) (by omega) (by omega)
   ·
    refine zl (d:=8) (y:=(many v n:Int)) rfl (by rw [List.take_of_length_le (by omega)]) ?_
    have hml:=many_le v n
    have hpr:(many v n:Int)*2^n≤100*2147483648:=Int.mul_le_mul (by omega) hp1 (by omega) (by decide)
    have hpn:0≤(many v n:Int)*2^n:=Int.mul_nonneg (by omega) (by omega)
    refine CE ?_;refine CQQR ?_;refine A0 mV ?_;refine A0 zbb ?_
    refine Sp (d:=32) (p:=n=0) (fun g32=>?_) (fun g32=>?_)
    ·
     refine A0 mV ?_;refine A2 ?_;refine A2 ?_;refine A2 ?_;refine A0 oK ?_;refine A0 mV ?_;refine A1 mV ?_;refine A1 mV ?_;refine A1 (g_mul rfl rfl rfl (show _=((many v n:Int)*2^n:Int) from zaa (by omega))) ?_
     refine A1 mV ?_;refine A1 zaP ?_;refine A0 oK ?_;refine CN ?_
     refine Cf (p:=rsF v m n<(many v n:Int)*2^n) (fun ht44=>?_) (fun ht44=>?_)
     ·
      refine CR ?_;refine A0 mV ?_;refine A0 mV ?_;refine A0 (g_mul rfl rfl rfl (show _=((many v n:Int)*2^n:Int) from zaa (by omega))) ?_;refine A0 aV ?_;refine CNR ?_;refine A0 mV ?_
      refine A0 (g_mul rfl rfl rfl (show _=((2:Int)^(n+1):Int) from by rw [Int.pow_succ,Int.mul_comm];exact zaa (by omega))) ?_;refine A0 aV ?_;refine CNIR ?_;refine A0 mV ?_;refine A0 zs ?_;refine A0 aV ?_;refine CN ?_
      refine zl (d:=5) (y:=rsF v m (n+1)) rfl ((if_pos ⟨.inl g32,ht44⟩).symm) ?_
      exact Nx (n+1) (by omega) (by omega)
     ·
      refine CS ?_;refine CR ?_;refine A0 mV ?_;refine A0 (g_mul rfl rfl rfl (show _=((2:Int)^(n+1):Int) from by rw [Int.pow_succ,Int.mul_comm];exact zaa (by omega))) ?_;refine A0 aV ?_;refine CNIR ?_;refine A0 mV ?_
      refine A0 zs ?_;refine A0 aV ?_;refine CN ?_;refine zl (d:=5) (y:=rsF v m (n+1)) rfl ((if_neg (fun c=>ht44 c.2)).symm) ?_
      exact Nx (n+1) (by omega) (by omega)
    ·
     refine A0 mV ?_;refine A1 mV ?_;refine A1 mV ?_;refine A1 zbf ?_
     refine Sp (d:=36) (p:=m≤(many v n:Int)) (fun g36=>?_) (fun g36=>?_)
     ·
      refine A0 oK ?_;refine A0 mV ?_;refine A1 mV ?_;refine A1 mV ?_;refine A1 (g_mul rfl rfl rfl (show _=((many v n:Int)*2^n:Int) from zaa (by omega))) ?_;refine A1 mV ?_;refine A1 zaP ?_;refine A0 oK ?_;refine CN ?_
      refine Cf (p:=rsF v m n<(many v n:Int)*2^n) (fun ht44=>?_) (fun ht44=>?_)
      ·
       refine CR ?_;refine A0 mV ?_;refine A0 mV ?_;refine A0 (g_mul rfl rfl rfl (show _=((many v n:Int)*2^n:Int) from zaa (by omega))) ?_;refine A0 aV ?_;refine CNR ?_;refine A0 mV ?_
       refine A0 (g_mul rfl rfl rfl (show _=((2:Int)^(n+1):Int) from by rw [Int.pow_succ,Int.mul_comm];exact zaa (by omega))) ?_;refine A0 aV ?_;refine CNIR ?_;refine A0 mV ?_;refine A0 zs ?_;refine A0 aV ?_;refine CN ?_
       refine zl (d:=5) (y:=rsF v m (n+1)) rfl ((if_pos ⟨.inr g36,ht44⟩).symm) ?_
       exact Nx (n+1) (by omega) (by omega)
      ·
       refine CS ?_;refine CR ?_;refine A0 mV ?_;refine A0 (g_mul rfl rfl rfl (show _=((2:Int)^(n+1):Int) from by rw [Int.pow_succ,Int.mul_comm];exact zaa (by omega))) ?_;refine A0 aV ?_;refine CNIR ?_;refine A0 mV ?_
       refine A0 zs ?_;refine A0 aV ?_;refine CN ?_;refine zl (d:=5) (y:=rsF v m (n+1)) rfl ((if_neg (fun c=>ht44 c.2)).symm) ?_
       exact Nx (n+1) (by omega) (by omega)
     ·
      refine A0 oK ?_;refine A0 mV ?_;refine A2 ?_;refine A2 ?_;refine A2 ?_;refine A2 ?_;refine A2 ?_;refine A0 oK ?_;refine CN ?_;refine Cg ?_;refine CS ?_;refine CR ?_;refine A0 mV ?_
      refine A0 (g_mul rfl rfl rfl (show _=((2:Int)^(n+1):Int) from by rw [Int.pow_succ,Int.mul_comm];exact zaa (by omega))) ?_;refine A0 aV ?_;refine CNIR ?_;refine A0 mV ?_;refine A0 zs ?_;refine A0 aV ?_;refine CN ?_
      refine zl (d:=5) (y:=rsF v m (n+1)) rfl ((if_neg (fun c=>c.1.elim g32 g36)).symm) ?_
      exact Nx (n+1) (by omega) (by omega)
  ·
   refine CE ?_;refine CQR ?_;refine A0 mV ?_;refine A0 aV ?_;refine CN ?_
   exact zb rfl rfl (zd rfl (by unfold scoreOf;rw [if_neg ht12,show n=32 by omega];exact rs_many v m 31))
theorem rfind19_ok (l:List Ab.Id) (id:Ab.Id):Tells P 32 [.val (bsl idT) l,.val idT id] (.val i64T (idx (fun y=>decide (id=y)) l)):=by
 refine zc Tryz.func32 rfl rfl rfl (fun ext w hext=>?_)
 refine zh (d:=0) rfl zn (fun hsl0=>?_)
 refine CQR ?_;refine zj rfl rfl rfl rfl rfl ?_;refine A0 aV ?_;refine CNQQR ?_;refine A0 aV ?_;refine CNB ?_
 refine Lp (ι:=Nat) 1 (fun (k:Nat)=>(((Fr.none).set 0 (.val (bsl idT) l)).set 3 (.ptr 0 0)).set 5 (.val i64T (k:Int))) (fun (k:Nat)=>(Hp.none).set 0 (.box 49 idT id)) (fun (k:Nat)=>k≤l.length∧idx (fun y=>decide (id=y)) l=shift k (idx (fun y=>decide (id=y)) (l.drop k))) (fun (k:Nat)=>l.length-k) (0) (⟨Nat.zero_le _,zdx _ l⟩) ?_
 intro k hinv
 refine CQQR ?_;refine A0 mV ?_;refine A0 mV ?_;refine A0 (zA rfl rfl zat) ?_;refine A0 zC ?_;refine CN ?_
 refine Cf (p:=k<l.length) (fun ht9=>?_) (fun ht9=>?_)
 ·
  obtain ⟨x,hx⟩:∃x,l[k]?=some x:=⟨_,List.getElem?_eq_getElem ht9⟩
  refine CS ?_;refine CQ ?_;refine CB ?_;refine CQ ?_;refine CD mixed ?_;refine G0 mV ?_;refine G0 mV ?_;refine G0 (zD (i:=k) rfl rfl rfl (by omega) za5 (by assumption)) ?_;refine G0 (zg rfl rfl zx) ?_
  refine G0 (oLs rfl rfl rfl zx) ?_;refine G0 (zdM rfl rfl rfl (zdd)) ?_;refine GK.nil ?_
  refine zo (p:=(decide (id=x))=true) rfl (by rw [decide_eq_decide,decide_eq_true_eq];exact ⟨fun h=>h.symm,fun h=>h.symm⟩) (fun ht17=>?_) (fun ht17=>?_)
  ·
   refine CQR ?_;refine A0 mV ?_;refine A0 aV ?_;refine CN ?_
   exact zb rfl rfl (zd rfl ((hinv.2.trans (idx_yes hx ht17)).symm))
  ·
   refine CSIR ?_;refine A0 mV ?_;refine A0 zs ?_;refine A0 aV ?_;refine CN ?_
   exact Nx (k+1) (⟨by omega,hinv.2.trans (idx_no hx ht17)⟩) (by omega)
 ·
  refine CE ?_;refine CQR ?_;refine A0 aV ?_;refine CN ?_
  exact zb rfl rfl (zd rfl ((hinv.2.trans (idx_end (by omega))).symm))
theorem rcommon_ok (p q:Proof) (hp:p.p.length≤110) (hq:q.p.length≤110):Tells P 14 [.val proofT p,.val proofT q] (.tup2 (.val i64T (commonOf p q).1) (.val i64T (commonOf p q).2)):=by
 have hia:=zw (r18ids_ok p (by omega))
 have hib:=zw (r18ids_ok q (by omega))
 obtain ⟨A,hA⟩:∃A,A=idsP p:=⟨_,rfl⟩
 obtain ⟨B,hB⟩:∃B,B=idsP q:=⟨_,rfl⟩
 have hcm:commonOf p q=commonF A B A.length:=by rw [hA,hB];rfl
 have hal:A.length≤110:=by rw [hA];unfold idsP;simpa using hp
 rw [←hA] at hia
 rw [←hB] at hib
 refine zc Tryz.func14 rfl rfl rfl (fun ext w hext=>?_)
 refine CQR ?_;refine zj rfl rfl rfl rfl rfl ?_;refine zj rfl rfl rfl rfl rfl ?_;refine A0 aV ?_;refine A0 aV ?_;refine CNQR ?_;refine A0 (oLs rfl rfl rfl zy) ?_;refine A0 (oCl (hia) rfl fn_31 ⟨(ze rfl),trivial⟩) ?_
 refine A0 aV ?_;refine CNQR ?_;refine A0 (oLs rfl rfl rfl zy) ?_;refine A0 (oCl (hib) rfl fn_31 ⟨(ze rfl),trivial⟩) ?_;refine A0 aV ?_;refine CNQQR ?_;refine A0 mV ?_;refine A0 (zA rfl rfl zat) ?_;refine A0 zap ?_
 refine A0 aV ?_;refine CNB ?_
 refine Lp (ι:=Nat) 0 (fun (k:Nat)=>(((Fr.none).set 6 (.val (sl idT) A)).set 7 (.val (sl idT) B)).set 8 (.val i64T ((k:Int)-1))) (fun (k:Nat)=>Hp.none) (fun (k:Nat)=>k≤A.length∧commonOf p q=commonF A B k) (fun (k:Nat)=>k) (A.length) (⟨Nat.le_refl _,hcm⟩) ?_
 intro k hinv
 refine CQQR ?_;refine A0 mV ?_;refine A0 zbf ?_;refine CN ?_
 refine Cf (p:=0<k) (fun ht18=>?_) (fun ht18=>?_)
 ·
  obtain ⟨a,ha⟩:∃a,A[k-1]?=some a:=⟨_,List.getElem?_eq_getElem (by omega)⟩
  refine CSQBQR ?_;refine A0 mV ?_;refine A0 mV ?_;refine A0 mV ?_;refine A0 (zD (i:=k-1) rfl rfl rfl (by omega) za5 (by assumption)) ?_;refine A0 (zg rfl rfl zx) ?_
  refine A0 (oCl (rfind19_ok B a) rfl fn_32 ⟨(ze rfl),(by first|exact zI rfl|exact zW rfl|exact zQ rfl rfl|exact zU rfl|exact zJ rfl|exact zak rfl rfl|exact zV rfl),trivial⟩) ?_
  refine A0 aV ?_;refine CNQR ?_;refine A0 mV ?_;refine A0 zbf ?_;refine CN ?_
  refine zo (p:=¬idx (fun y=>decide (a=y)) B = -1) rfl (by have h:=idx_ge (fun y=>decide (a=y)) B;rw [decide_eq_decide];simp only [IntL.toI,id_eq];omega) (fun ht28=>?_) (fun ht28=>?_)
  ·
   refine CQR ?_;refine A0 mV ?_;refine A0 mV ?_;refine A0 aV ?_;refine A0 aV ?_;refine CN ?_
   exact zad rfl rfl (zd rfl (by rw [hinv.2,zeM ht18 ha ht28])) (zd rfl (by rw [hinv.2,zeM ht18 ha ht28]))
  ·
   refine CSIR ?_;refine A0 mV ?_;refine A0 zap ?_;refine A0 aV ?_;refine CN ?_;refine zl (d:=8) (y:=((k-1:Nat):Int)-1) rfl (by omega) ?_
   exact Nx (k-1) (⟨by omega,by rw [hinv.2];exact common_go ht18 ha (Classical.not_not.1 ht28)⟩) (by omega)
 ·
  refine CE ?_;refine CQR ?_;refine A0 aV ?_;refine A0 aV ?_;refine CN ?_
  exact zad rfl rfl (zd rfl (by rw [hinv.2,show k=0 by omega];rfl)) (zd rfl (by rw [hinv.2,show k=0 by omega];rfl))
theorem rbetter_ok (p q:Proof) (hp:p.p.length≤110) (hq:q.p.length≤110):Tells P 16 [.val proofT p,.val proofT q] (.tup2 (.val boolT (betterB p q)) (.val i64T (betterE p q))):=by
 have hbd:=common_bound p q
 have hll:(levelsP p).length=p.p.length:=by unfold levelsP;simp
 have hlq:(levelsP q).length=q.p.length:=by unfold levelsP;simp
 refine zc Tryz.func16 rfl rfl rfl (fun ext w hext=>?_)
 refine CQR ?_;refine zj rfl rfl rfl rfl rfl ?_;refine zj rfl rfl rfl rfl rfl ?_;refine A0 aV ?_;refine A0 aV ?_;refine CNQR ?_;refine A0 (oLs rfl rfl rfl zy) ?_
 refine A0 (oCl (zep p) rfl fn_38 ⟨(ze rfl),trivial⟩) ?_;refine A0 aV ?_;refine CNQQR ?_;refine A0 mV ?_;refine A0 zaz ?_;refine CN ?_
 refine zo (p:=¬checkP p=0) rfl (by simp [IntL.toI]) (fun ht17=>?_) (fun ht17=>?_)
 ·
  refine CQR ?_;refine A0 mV ?_;refine A0 aV ?_;refine A0 aV ?_;refine CN ?_
  exact zad rfl rfl (zd rfl (by rw [zdU (by rw [betterE_p ht17];exact ht17)])) (zd rfl (by rw [betterE_p ht17]))
 ·
  refine CSQR ?_;refine A0 (oLs rfl rfl rfl zy) ?_;refine A0 (oCl (zep q) rfl fn_38 ⟨(ze rfl),trivial⟩) ?_;refine A0 aV ?_;refine CNQQR ?_;refine A0 mV ?_;refine A0 zaz ?_;refine CN ?_
  refine zo (p:=¬checkP q=0) rfl (by simp [IntL.toI]) (fun ht22=>?_) (fun ht22=>?_)
  ·
   refine CQR ?_;refine A0 mV ?_;refine A0 aV ?_;refine A0 aV ?_;refine CN ?_
   exact zad rfl rfl (zd rfl (by rw [zdU (by rw [betterE_q (Classical.not_not.1 ht17) ht22];exact ht22)])) (zd rfl (by rw [betterE_q (Classical.not_not.1 ht17) ht22]))
  ·
   have hp0:checkP p=0:=Classical.not_not.1 ht17
   have hq0:checkP q=0:=Classical.not_not.1 ht22
   have hiy:=ids_at p (holds_len hp0)
   have hiz:=ids_at q (holds_len hq0)
   refine CSQQR ?_;refine A0 (oFp zbZ) ?_;refine A0 (oLb zbd ty_3) ?_;refine A0 (oFp zbZ) ?_;refine A0 (oLb zbd ty_3) ?_;refine A0 zaz ?_
   refine zaw (d:=28) (p:=¬p.m=q.m) rfl (by simp [IntL.toI]) (fun g28=>?_) (fun g28=>?_)
   ·
    refine A0 mV ?_;refine A2 ?_;refine A2 ?_;refine A2 ?_;refine A2 ?_;refine A2 ?_;refine A0 oK ?_;refine CN ?_;refine Ct ?_;refine CQR ?_;refine A0 aV ?_;refine A0 aV ?_;refine CN ?_
    exact zad rfl rfl (zd rfl (by rw [zdU (by rw [zcX hp0 hq0];unfold alikeE;rw [if_pos (.inl g28)];decide)])) (zd rfl (by rw [zcX hp0 hq0];unfold alikeE;rw [if_pos (.inl g28)]))
   ·
    refine A0 mV ?_;refine A1 (oFp zbS) ?_;refine A1 (oLb za3 ty_3) ?_;refine A1 (oFp zbS) ?_;refine A1 (oLb za3 ty_3) ?_;refine A1 zaz ?_;refine A0 oK ?_;refine CN ?_
    refine zo (p:=¬p.k=q.k) rfl (by simp [IntL.toI]) (fun ht35=>?_) (fun ht35=>?_)
    ·
     refine CQR ?_;refine A0 aV ?_;refine A0 aV ?_;refine CN ?_
     exact zad rfl rfl (zd rfl (by rw [zdU (by rw [zcX hp0 hq0];unfold alikeE;rw [if_pos (.inr ht35)];decide)])) (zd rfl (by rw [zcX hp0 hq0];unfold alikeE;rw [if_pos (.inr ht35)]))
    ·
     refine CSQR ?_;refine A0 (oLs rfl rfl rfl zy) ?_;refine A0 (oCl (zw (r18ids_ok p (by omega))) rfl fn_31 ⟨(ze rfl),trivial⟩) ?_;refine A0 aV ?_;refine CNQR ?_;refine A0 (oLs rfl rfl rfl zy) ?_
     refine A0 (oCl (zw (r18ids_ok q (by omega))) rfl fn_31 ⟨(ze rfl),trivial⟩) ?_;refine A0 aV ?_;refine CNQ ?_;refine CQ ?_;refine CD mixed ?_;refine G0 mV ?_
     refine G0 (zD (i:=0) rfl rfl rfl (by omega) za5 (by assumption)) ?_;refine G0 (zg rfl rfl zx) ?_;refine G0 mV ?_;refine G0 (zD (i:=0) rfl rfl rfl (by omega) za5 (by assumption)) ?_
     refine G0 (zg rfl rfl zx) ?_;refine G0 (zdc rfl rfl rfl (zdd)) ?_;refine GK.nil ?_
     refine zo (p:=¬headId (yAt p 0).h=headId (yAt q 0).h) rfl (by simp) (fun ht46=>?_) (fun ht46=>?_)
     ·
      refine CQR ?_;refine A0 aV ?_;refine A0 aV ?_;refine CN ?_
      exact zad rfl rfl (zd rfl (by rw [zdU (by rw [zcX hp0 hq0];unfold alikeE;rw [if_neg (fun h=>h.elim g28 ht35),if_pos ⟨fun h=>ht46 (by rw [h]),ht46⟩];decide)])) (zd rfl (by rw [zcX hp0 hq0];unfold alikeE;rw [if_neg (fun h=>h.elim g28 ht35),if_pos ⟨fun h=>ht46 (by rw [h]),ht46⟩]))
     ·
      have hbe:betterE p q=0:=by rw [zcX hp0 hq0];unfold alikeE;rw [if_neg (fun h=>h.elim g28 ht35),if_neg (fun h=>ht46 h.2)]
      have hmm:p.m=q.m:=Classical.not_not.1 g28
      refine CSQR ?_;refine A0 (oLs rfl rfl rfl zy) ?_;refine A0 (oLs rfl rfl rfl zy) ?_;refine A0 (oCl (rcommon_ok p q hp hq) rfl fn_14 ⟨(ze rfl),(ze rfl),trivial⟩) ?_;refine A0 mX ?_
      refine A0 (by first|exact z6 rfl rfl|exact zY rfl rfl) ?_;refine A0 (by first|exact z8 rfl rfl|exact z7 rfl rfl) ?_;refine A0 aV ?_;refine A0 aV ?_;refine CNQR ?_;refine A0 (oLs rfl rfl rfl zy) ?_
      refine A0 (oCl (zw (r18levels_ok p (by omega))) rfl fn_39 ⟨(ze rfl),trivial⟩) ?_;refine A0 aV ?_;refine CNQR ?_;refine A0 (oLs rfl rfl rfl zy) ?_
      refine A0 (oCl (zw (r18levels_ok q (by omega))) rfl fn_39 ⟨(ze rfl),trivial⟩) ?_;refine A0 aV ?_;refine CNQ ?_;refine CD mixed ?_;refine G0 mV ?_;refine G0 mV ?_;refine G0 zs ?_
      refine G0 (g_sl_l rfl rfl rfl zdq (by first|assumption|omega|(simp;omega))) ?_;refine G0 (oFp zbZ) ?_;refine G0 (oLb zbd ty_3) ?_
      refine G0 (oCl (rscore_ok ((levelsP q).drop ((commonOf p q).2+1).toNat) p.m) rfl fn_23 ⟨(ze rfl),(ze rfl),trivial⟩) ?_;refine G0 mV ?_;refine G0 mV ?_;refine G0 zs ?_
      refine G0 (g_sl_l rfl rfl rfl zdq (by first|assumption|omega|(simp;omega))) ?_;refine G0 (oFp zbZ) ?_;refine G0 (oLb zbd ty_3) ?_
      refine G0 (oCl (rscore_ok ((levelsP p).drop ((commonOf p q).1+1).toNat) p.m) rfl fn_23 ⟨(ze rfl),(ze rfl),trivial⟩) ?_;refine G0 zaP ?_;refine G0 aV ?_;refine G0 aV ?_;refine GK.nil ?_
      exact zad rfl rfl (zd rfl (by unfold betterB worthOf;rw [hbe,hmm];simp [IntL.toI])) (zd rfl (hbe.symm))
theorem rpick_ok (p q:Proof) (hp:smallP p) (hq:smallP q):Tells P 18 [.val proofT p,.val proofT q] (.tup2 (.val proofT (pickOf p q).1) (.val i64T (pickOf p q).2)):=by
 refine zc Tryz.func18 rfl rfl rfl (fun ext w hext=>?_)
 refine CQR ?_;refine zj rfl rfl rfl rfl rfl ?_;refine zj rfl rfl rfl rfl rfl ?_;refine zf zcO rfl rfl rfl rfl ?_;refine A0 aV ?_;refine CNQR ?_;refine A0 (oLs rfl rfl rfl zy) ?_
 refine A0 (oCl (zep p) rfl fn_38 ⟨(ze rfl),trivial⟩) ?_;refine A0 aV ?_;refine CNQR ?_;refine A0 (oLs rfl rfl rfl zy) ?_;refine A0 (oCl (zep q) rfl fn_38 ⟨(ze rfl),trivial⟩) ?_;refine A0 aV ?_;refine CNQQR ?_
 refine A0 mV ?_;refine A0 zaz ?_
 refine zaw (d:=15) (p:=¬checkP p=0) rfl (by simp [IntL.toI]) (fun g15=>?_) (fun g15=>?_)
 ·
  refine A0 mV ?_;refine A1 mV ?_;refine A1 zbb ?_;refine A0 oK ?_;refine CN ?_
  refine zo (p:=checkP q=0) rfl (by simp [IntL.toI]) (fun ht19=>?_) (fun ht19=>?_)
  ·
   refine CQR ?_;refine A0 (oLs rfl rfl rfl zy) ?_;refine za rfl rfl rfl rfl rfl (Lens.self _) zy rfl ?_;refine A0 aV ?_;refine CN ?_
   exact zH rfl rfl (zE rfl rfl zy (by unfold pickOf;rw [if_pos ⟨g15,ht19⟩])) (zah (zd rfl (by unfold pickOf;rw [if_pos ⟨g15,ht19⟩])))
  ·
   refine CSQQR ?_;refine A0 mV ?_;refine A0 zaz ?_;refine CN ?_;refine aw_if_t rfl (by simpa [IntL.toI] using g15) ?_;refine CQR ?_;refine A0 (oLs rfl rfl rfl zy) ?_;refine A0 mV ?_
   refine za rfl rfl rfl rfl rfl (Lens.self _) zy rfl ?_;refine A0 aV ?_;refine CN ?_
   exact zH rfl rfl (zE rfl rfl zy (by unfold pickOf;rw [if_neg (fun h=>ht19 h.2),if_pos (.inl g15)])) (zah (zd rfl (by unfold pickOf;rw [if_neg (fun h=>ht19 h.2),if_pos (.inl g15)])))
 ·
  refine A0 mV ?_;refine A2 ?_;refine A2 ?_;refine A0 oK ?_;refine CN ?_;refine Cg ?_;refine CSQQR ?_;refine A0 mV ?_;refine A0 zaz ?_;refine CN ?_;refine zeP rfl (by simpa [IntL.toI] using g15) ?_;refine CSQQR ?_
  refine A0 mV ?_;refine A0 zaz ?_;refine CN ?_
  refine zo (p:=¬checkP q=0) rfl (by simp [IntL.toI]) (fun ht26=>?_) (fun ht26=>?_)
  ·
   refine CQR ?_;refine A0 (oLs rfl rfl rfl zy) ?_;refine za rfl rfl rfl rfl rfl (Lens.self _) zy rfl ?_;refine A0 aV ?_;refine CN ?_
   exact zH rfl rfl (zE rfl rfl zy (by unfold pickOf;rw [if_neg (fun h=>g15 h.1),if_pos (.inr ht26)])) (zah (zd rfl (by unfold pickOf;rw [if_neg (fun h=>g15 h.1),if_pos (.inr ht26)];exact (Classical.not_not.1 g15).symm)))
  ·
   refine CSQR ?_;refine A0 (oLs rfl rfl rfl zy) ?_;refine A0 (oLs rfl rfl rfl zy) ?_;refine A0 (oCl (rbetter_ok p q hp.1 hq.1) rfl fn_16 ⟨(ze rfl),(ze rfl),trivial⟩) ?_;refine A0 mX ?_
   refine A0 (by first|exact z6 rfl rfl|exact zY rfl rfl) ?_;refine A0 (by first|exact z8 rfl rfl|exact z7 rfl rfl) ?_;refine A0 aV ?_;refine A0 aV ?_;refine CNQQR ?_;refine A0 mV ?_;refine A0 zaz ?_;refine CN ?_
   refine zo (p:=¬betterE p q=0) rfl (by simp [IntL.toI]) (fun ht35=>?_) (fun ht35=>?_)
   ·
    refine CQR ?_;refine A0 (oLs rfl rfl rfl zy) ?_;refine A0 mV ?_;refine za rfl rfl rfl rfl rfl (Lens.self _) zy rfl ?_;refine A0 aV ?_;refine CN ?_
    exact zH rfl rfl (zE rfl rfl zy (by unfold pickOf;rw [if_neg (fun h=>g15 h.1),if_neg (fun h=>h.elim g15 ht26),if_neg (by rw [zdU ht35];decide)])) (zah (zd rfl (by unfold pickOf;rw [if_neg (fun h=>g15 h.1),if_neg (fun h=>h.elim g15 ht26),if_neg (by rw [zdU ht35];decide)])))
   ·
    refine CSQQR ?_;refine A0 mV ?_;refine CN ?_
    refine zo (p:=betterB p q=true) rfl (by simp) (fun ht38=>?_) (fun ht38=>?_)
    ·
     refine CQR ?_;refine A0 (oLs rfl rfl rfl zy) ?_;refine za rfl rfl rfl rfl rfl (Lens.self _) zy rfl ?_;refine A0 aV ?_;refine CN ?_
     exact zH rfl rfl (zE rfl rfl zy (by unfold pickOf;rw [if_neg (fun h=>g15 h.1),if_neg (fun h=>h.elim g15 ht26),if_pos ht38])) (zah (zd rfl (by unfold pickOf;rw [if_neg (fun h=>g15 h.1),if_neg (fun h=>h.elim g15 ht26),if_pos ht38])))
    ·
     refine CSQR ?_;refine A0 (oLs rfl rfl rfl zy) ?_;refine za rfl rfl rfl rfl rfl (Lens.self _) zy rfl ?_;refine A0 aV ?_;refine CN ?_
     exact zH rfl rfl (zE rfl rfl zy (by unfold pickOf;rw [if_neg (fun h=>g15 h.1),if_neg (fun h=>h.elim g15 ht26),if_neg ht38])) (zah (zd rfl (by unfold pickOf;rw [if_neg (fun h=>g15 h.1),if_neg (fun h=>h.elim g15 ht26),if_neg ht38];exact (Classical.not_not.1 ht35).symm)))
theorem rfold_ok (l:List Proof) (hl:∀p∈l,smallP p) (hn:l.length≤1000000):Tells P 20 [.val (bsl proofT) l] (.tup2 (.val proofT (foldOf l).1) (.val i64T (foldOf l).2)):=by
 refine zc Tryz.func20 rfl rfl rfl (fun ext w hext=>?_)
 refine zh (d:=0) rfl zn (fun hsl0=>?_)
 refine CQR ?_;refine zf zcO rfl rfl rfl rfl ?_;refine A0 aV ?_;refine CNQQR ?_;refine A0 mV ?_;refine A0 (zA rfl rfl isl_26) ?_;refine A0 zbb ?_;refine CN ?_
 refine zo (p:=l.length=0) rfl (by simp [IntL.toI]) (fun ht10=>?_) (fun ht10=>?_)
 ·
  obtain rfl:l=[]:=List.length_eq_zero_iff.1 ht10
  refine CQR ?_;refine A0 (zab rfl zcO bd_25 .nil rfl) ?_;refine za rfl rfl rfl rfl rfl (Lens.self _) zy rfl ?_;refine A0 aV ?_;refine CN ?_
  exact zH rfl rfl (zE rfl rfl zy (rfl)) (zah (zd rfl (rfl)))
 ·
  obtain ⟨p,r,rfl⟩:∃p r,l=p::r:=by cases l with|nil=>exact absurd rfl ht10|cons p r=>exact ⟨p,r,rfl⟩
  have hp0:=hl p (List.mem_cons_self ..)
  have hn2:r.length≤1000000:=by simp at hn;omega
  have hz:(p::r)[0]?=some p:=rfl
  refine CSQR ?_;refine A0 mV ?_;refine A0 (zD (i:=0) rfl rfl rfl (by omega) sl_26 (by assumption)) ?_;refine A0 (zg rfl rfl zy) ?_;refine zf zcO rfl rfl rfl rfl ?_
  refine za rfl rfl rfl rfl rfl (Lens.self _) zy rfl ?_;refine CNQQR ?_;refine A0 aV ?_;refine CNB ?_
  refine Lp (ι:=Nat×Proof) 2 (fun (i:Nat×Proof)=>match i with|(j,o)=>((((Fr.none).set 0 (.val (bsl proofT) (p::r))).set 2 (.ptr 0 0)).set 4 (.ptr 1 0)).set 5 (.val i64T ((j:Int)+1))) (fun (i:Nat×Proof)=>match i with|(j,o)=>((Hp.none).set 0 (.box 25 proofT zProof)).set 1 (.box 25 proofT o)) (fun (i:Nat×Proof)=>match i with|(j,o)=>j≤r.length∧o=(r.take j).foldl (fun o q=>(pickOf o q).1) p) (fun (i:Nat×Proof)=>match i with|(j,o)=>r.length-j) ((0,p)) (⟨Nat.zero_le _,rfl⟩) ?_
  intro ⟨j,o⟩ hinv
  dsimp only at hinv
  refine CQQR ?_;refine A0 mV ?_;refine A0 mV ?_;refine A0 (zA rfl rfl isl_26) ?_;refine A0 zC ?_;refine CN ?_
  refine zo (p:=j<r.length) rfl (by rw [decide_eq_decide];simp only [IntL.toI,id_eq,List.length_cons];omega) (fun ht18=>?_) (fun ht18=>?_)
  ·
   obtain ⟨q,hq⟩:∃q,r[j]?=some q:=⟨_,List.getElem?_eq_getElem ht18⟩
   have hlq:(p::r)[j+1]?=some q:=hq
   have hqs:=hl q (List.mem_cons_of_mem _ (List.mem_of_getElem? hq))
   have hos:smallP o:=by rw [hinv.2];exact fold_small (fun p hp=>hl p (List.mem_cons_of_mem _ (List.mem_of_mem_take hp))) hp0
   refine CS ?_;refine CQ ?_;refine CB ?_;refine CQ ?_
   refine zB [some 1000001,some 1000001,some 1000001,some 1000001,some 1000001,some 1000001,some 1000001,some 1000001,some 1000001,none,none,some 1] mixed (by decide +kernel) ?_
   refine XK.gf (t:=4) rfl rfl (fun _ he=>zp rfl rfl he (Lens.self _) zy) ⟨hpB rfl rfl,trivial⟩ rfl rfl rfl ?_;refine XK.ga (fun _=>g_mv (.inl rfl) rfl) rfl rfl rfl ?_;refine XK.ga (fun _=>g_mv (.inl rfl) rfl) rfl rfl rfl ?_
   refine XK.ga (fun _=>zD (i:=j+1) rfl rfl rfl (by omega) sl_26 (by assumption)) rfl rfl rfl ?_;refine XK.ga (fun _=>zg rfl rfl zy) rfl rfl rfl ?_
   refine XK.ga (fun _=>zcb (rpick_ok o q hos hqs) rfl fn_18 ⟨(ze rfl),(by first|exact zI rfl|exact zW rfl|exact zQ rfl rfl|exact zU rfl|exact zJ rfl|exact zak rfl rfl|exact zV rfl),trivial⟩ rfl) rfl rfl rfl ?_
   refine XK.ga (fun _=>by first|exact g_mv (.inl rfl) rfl|exact g_mp (.inl rfl) rfl|exact g_mo (.inl rfl) rfl|exact g_ml (.inl rfl) rfl|exact g_mc (.inl rfl) rfl|exact g_mr (.inl rfl) rfl|exact g_mf1 (.inl rfl) rfl|exact g_mf2 (.inl rfl) rfl|exact g_mw (.inl rfl) rfl|exact g_me (.inl rfl) rfl|exact g_ms (.inl rfl) rfl|exact zet (.inl rfl) rfl|exact zes (.inl rfl) rfl|exact g_mi (.inl rfl) rfl) rfl rfl rfl ?_
   refine XK.ga (fun _=>by first|exact z6 rfl rfl|exact zY rfl rfl) rfl rfl rfl ?_;refine XK.ga (fun _=>by first|exact z8 rfl rfl|exact z7 rfl rfl) rfl rfl rfl ?_
   refine XK.e (fun fr' hfr kk H=>by exact zf zcO rfl rfl rfl rfl (zG H)) ?_
   refine XK.e (x:=.idk) (fun fr' hfr kk H=>by exact za rfl rfl rfl ((hfr 6 (by decide +kernel)).trans rfl) rfl (Lens.self _) zy ((hfr 28 (by decide +kernel)).trans rfl) (zG H)) ?_;refine X0 aV ?_
   refine XK.nilp ⟨⟨hpB rfl rfl,hpB rfl rfl,trivial⟩,trivial⟩ ?_;refine CR ?_;refine A0 (oLs rfl rfl rfl zy) ?_;refine za rfl rfl rfl rfl rfl (Lens.self _) zy rfl ?_;refine CNIR ?_;refine A0 mV ?_;refine A0 zs ?_
   refine A0 aV ?_;refine CN ?_;refine zl (d:=5) (y:=((j+1:Nat):Int)+1) rfl (by omega) ?_
   exact Nx ((j+1,(pickOf o q).1)) (⟨by omega,by rw [List.take_add_one,hq,List.foldl_append,←hinv.2];rfl⟩) (by show r.length-(j+1)<r.length-j;omega)
  ·
   refine CE ?_;refine CQ ?_;refine zB [some 1,some 1,some 1,none,some 1] mixed (by decide +kernel) ?_;refine X0 (oLs rfl rfl rfl zy) ?_;refine X0 (oLs rfl rfl rfl zy) ?_
   refine X0 (oCl (zep o) rfl fn_38 ⟨(ze rfl),trivial⟩) ?_
   refine XK.e (x:=.idk) (fun fr' hfr kk H=>by exact za rfl rfl rfl ((hfr 2 (by decide +kernel)).trans rfl) rfl (Lens.self _) zy ((hfr 31 (by decide +kernel)).trans rfl) (zG H)) ?_;refine X0 aV ?_;refine XK.nil' ?_
   exact zH rfl rfl (zE rfl rfl zy (by rw [hinv.2,List.take_of_length_le (by omega)];rfl)) (zah (zd rfl (by rw [hinv.2,List.take_of_length_le (by omega)];rfl)))
theorem refParts_ok (l m:List Part):Tells P 41 [.val (bsl partT) l,.val (bsl partT) m] (.val boolT (decide (l=m))):=by
 refine zc Tryz.func41 rfl rfl rfl (fun ext w hext=>?_)
 refine zh (d:=0) rfl zn (fun hsl0=>?_)
 refine zh (d:=1) rfl zn (fun hsl1=>?_)
 refine CQR ?_;refine A0 aV ?_;refine CNQQR ?_;refine A0 mV ?_;refine A0 (zA rfl rfl zbL) ?_;refine A0 mV ?_;refine A0 (zA rfl rfl zbL) ?_;refine A0 zaz ?_;refine CN ?_
 refine zo (p:=¬l.length=m.length) rfl (by simp [IntL.toI];omega) (fun ht11=>?_) (fun ht11=>?_)
 ·
  refine CQR ?_;refine A0 aV ?_;refine CN ?_
  exact zb rfl rfl (zd rfl ((decide_eq_false (fun e=>ht11 (by rw [e]))).symm))
 ·
  refine CSQQR ?_;refine A0 aV ?_;refine CNB ?_
  refine Lp (ι:=Nat) 0 (fun (k:Nat)=>(((Fr.none).set 0 (.val (bsl partT) l)).set 1 (.val (bsl partT) m)).set 5 (.val i64T (k:Int))) (fun (k:Nat)=>Hp.none) (fun (k:Nat)=>k≤l.length∧l.take k=m.take k) (fun (k:Nat)=>l.length-k) (0) (⟨Nat.zero_le _,rfl⟩) ?_
  intro k hinv
  refine CQQR ?_;refine A0 mV ?_;refine A0 mV ?_;refine A0 (zA rfl rfl zbL) ?_;refine A0 zC ?_;refine CN ?_
  refine Cf (p:=k<l.length) (fun ht15=>?_) (fun ht15=>?_)
  ·
   obtain ⟨x,hx⟩:∃x,l[k]?=some x:=⟨_,List.getElem?_eq_getElem ht15⟩
   obtain ⟨y,hy⟩:∃y,m[k]?=some y:=⟨_,List.getElem?_eq_getElem (by omega)⟩
   refine CS ?_;refine CQ ?_;refine CB ?_;refine CQ ?_;refine CD mixed ?_;refine G0 mV ?_;refine G0 mV ?_;refine G0 (zD (i:=k) rfl rfl rfl (by omega) zcf (by assumption)) ?_;refine G0 (oFr zbx zaZ) ?_
   refine G0 (zg rfl rfl zbC) ?_;refine G0 mV ?_;refine G0 mV ?_;refine G0 (zD (i:=k) rfl rfl rfl (by omega) zcf (by assumption)) ?_;refine G0 (oFr zbx zaZ) ?_;refine G0 (zg rfl rfl zbC) ?_
   refine G0 (oCl (refIds_ok x.l y.l) rfl fn_64 ⟨(by first|exact zI rfl|exact zW rfl|exact zQ rfl rfl|exact zU rfl|exact zJ rfl|exact zak rfl rfl|exact zV rfl),(by first|exact zI rfl|exact zW rfl|exact zQ rfl rfl|exact zU rfl|exact zJ rfl|exact zak rfl rfl|exact zV rfl),trivial⟩) ?_
   refine G0 aV ?_;refine GK.nil ?_;refine CQ ?_;refine CD mixed ?_;refine G0 mV ?_;refine G0 oN ?_
   refine zag (d:=30) (p:=¬x.l=y.l) rfl (by simp) (fun g30=>?_) (fun g30=>?_)
   ·
    refine G0 mV ?_;refine G2 ?_;refine G2 ?_;refine G2 ?_;refine G2 ?_;refine G2 ?_;refine G2 ?_;refine G2 ?_;refine G2 ?_;refine G2 ?_;refine G2 ?_;refine G2 ?_;refine G0 oK ?_;refine GK.nil ?_;refine Ct ?_;refine CQR ?_
    refine A0 aV ?_;refine CN ?_
    exact zb rfl rfl (zd rfl ((decide_eq_false (zd4 hx hy (fun e=>g30 (by rw [e])))).symm))
   ·
    refine G0 mV ?_;refine G1 mV ?_;refine G1 mV ?_;refine G1 (zD (i:=k) rfl rfl rfl (by omega) zcf (by assumption)) ?_;refine G1 (oFr zaU zaH) ?_;refine G1 (zg rfl rfl zai) ?_;refine G1 mV ?_;refine G1 mV ?_
    refine G1 (zD (i:=k) rfl rfl rfl (by omega) zcf (by assumption)) ?_;refine G1 (oFr zaU zaH) ?_;refine G1 (zg rfl rfl zai) ?_;refine G1 (zdc rfl rfl rfl (eqt_55)) ?_;refine G0 oK ?_;refine GK.nil ?_
    refine zo (p:=¬x.h=y.h) rfl (by simp) (fun ht43=>?_) (fun ht43=>?_)
    ·
     refine CQR ?_;refine A0 aV ?_;refine CN ?_
     exact zb rfl rfl (zd rfl ((decide_eq_false (zd4 hx hy (fun e=>ht43 (by rw [e])))).symm))
    ·
     refine CSIR ?_;refine A0 mV ?_;refine A0 zs ?_;refine A0 aV ?_;refine CN ?_
     exact Nx (k+1) (⟨by omega,zb0 hx hy hinv.2 (by have h1:=Classical.not_not.1 g30;have h2:=Classical.not_not.1 ht43;cases x;cases y;simp only at h1 h2;rw [h1,h2])⟩) (by omega)
  ·
   refine CE ?_;refine CQR ?_;refine A0 aV ?_;refine CN ?_
   exact zb rfl rfl (zd rfl ((decide_eq_true (by have h:=hinv.2;rw [List.take_of_length_le (by omega),List.take_of_length_le (by omega)] at h;exact h)).symm))
theorem refProof_ok (a b:Proof):Tells P 21 [.val proofT a,.val proofT b] (.val boolT (decide (a=b))):=by
 refine zc Tryz.func21 rfl rfl rfl (fun ext w hext=>?_)
 refine CQR ?_;refine zj rfl rfl rfl rfl rfl ?_;refine zj rfl rfl rfl rfl rfl ?_;refine A0 aV ?_;refine CNQR ?_;refine A0 (oFp zac) ?_;refine A0 (oLb zP zbh) ?_;refine A0 (oFp zac) ?_
 refine A0 (oLb zP zbh) ?_;refine A0 (oCl (refParts_ok a.p b.p) rfl fn_41 ⟨(ze rfl),(ze rfl),trivial⟩) ?_;refine A0 aV ?_;refine CNQR ?_;refine A0 mV ?_
 refine zaw (d:=11) (p:=a.p=b.p) rfl (by simp) (fun g11=>?_) (fun g11=>?_)
 ·
  refine A0 mV ?_;refine A1 (oFp zbZ) ?_;refine A1 (oLb zbd ty_3) ?_;refine A1 (oFp zbZ) ?_;refine A1 (oLb zbd ty_3) ?_;refine A1 zbb ?_
  refine zaw (d:=17) (p:=a.m=b.m) rfl (by simp [IntL.toI]) (fun g17=>?_) (fun g17=>?_)
  ·
   refine A0 oK ?_;refine A0 mV ?_;refine A1 (oFp zbS) ?_;refine A1 (oLb za3 ty_3) ?_;refine A1 (oFp zbS) ?_;refine A1 (oLb za3 ty_3) ?_;refine A1 zbb ?_;refine A0 oK ?_;refine A0 aV ?_;refine CN ?_
   exact zb rfl rfl (zd rfl ((by rw [decide_eq_decide];exact ⟨fun h=>by simp only [IntL.toI,id_eq] at h;cases a;cases b;simp_all,fun h=>by rw [h]⟩)))
  ·
   refine A0 oK ?_;refine A0 mV ?_;refine A2 ?_;refine A2 ?_;refine A2 ?_;refine A2 ?_;refine A2 ?_;refine A0 oK ?_;refine A0 aV ?_;refine CN ?_
   exact zb rfl rfl (zd rfl ((by symm;apply decide_eq_false;intro h;exact g17 (by rw [h]))))
 ·
  refine A0 mV ?_;refine A2 ?_;refine A2 ?_;refine A2 ?_;refine A2 ?_;refine A2 ?_;refine A0 oK ?_;refine A0 mV ?_;refine A2 ?_;refine A2 ?_;refine A2 ?_;refine A2 ?_;refine A2 ?_;refine A0 oK ?_;refine A0 aV ?_;refine CN ?_
  exact zb rfl rfl (zd rfl ((by symm;apply decide_eq_false;intro h;exact g11 (by rw [h]))))
end Go.Proofs.YtdeghaedeefooaaGreat
set_option maxRecDepth 20000
namespace Go.Proofs.YtdeghaedeefooaaGreat
open Go.Ab Go.RowKit
theorem ScoreTells_ok (v:List Int) (m:Int) (p q:Proof) (l:List Proof):Tells P 3 [.val (sl i64T) v,.val i64T m,.val proofT p,.val proofT q,.val (sl proofT) l] (.val boolT true):=by
 refine zc Tryz.func3 rfl rfl rfl (fun ext w hext=>?_)
 refine zh (d:=0) rfl zn (fun hsl0=>?_)
 refine zh (d:=1) rfl zR (fun hin1=>?_)
 refine zh (d:=4) rfl zn (fun hsl4=>?_)
 refine CQR ?_;refine zj rfl rfl rfl rfl rfl ?_;refine zj rfl rfl rfl rfl rfl ?_;refine A0 aV ?_;refine CNQR ?_;refine A0 (oCl (awake19_ok) rfl fn_10 trivial) ?_;refine A0 aV ?_;refine CNQR ?_
 refine A0 (oLs rfl rfl rfl zy) ?_;refine A0 (oCl (fewPr_ok p) rfl fn_11 ⟨(ze rfl),trivial⟩) ?_;refine A0 aV ?_;refine CNQR ?_;refine A0 (oLs rfl rfl rfl zy) ?_;refine A0 (oCl (fewPr_ok q) rfl fn_11 ⟨(ze rfl),trivial⟩) ?_
 refine A0 aV ?_;refine CNQR ?_;refine A0 mV ?_;refine A0 (oCl (fewL_ok l) rfl fn_12 ⟨(ze rfl),trivial⟩) ?_;refine A0 aV ?_;refine CNQQR ?_;refine A0 mV ?_;refine A0 oN ?_;refine aw_isf (d:=41) rfl (rfl) ?_;refine A0 mV ?_
 refine A1 mV ?_;refine A1 oN ?_
 refine zaw (d:=44) (p:=fewPr p=false) rfl (by cases fewPr p<;>rfl) (fun g44=>?_) (fun g44=>?_)
 ·
  refine A0 oK ?_;refine A0 mV ?_;refine A2 ?_;refine A2 ?_;refine A0 oK ?_;refine A0 mV ?_;refine A2 ?_;refine A2 ?_;refine A0 oK ?_;refine A0 mV ?_;refine A2 ?_;refine A2 ?_;refine A2 ?_;refine A0 oK ?_;refine CN ?_
  refine Ct ?_;refine CQR ?_;refine A0 mV ?_;refine A0 aV ?_;refine CN ?_
  exact zb rfl rfl (zd rfl (rfl))
 ·
  have hp:smallP p:=fewPr_small (by simpa using g44)
  refine A0 oK ?_;refine A0 mV ?_;refine A1 mV ?_;refine A1 oN ?_
  refine zaw (d:=48) (p:=fewPr q=false) rfl (by cases fewPr q<;>rfl) (fun g48=>?_) (fun g48=>?_)
  ·
   refine A0 oK ?_;refine A0 mV ?_;refine A2 ?_;refine A2 ?_;refine A0 oK ?_;refine A0 mV ?_;refine A2 ?_;refine A2 ?_;refine A2 ?_;refine A0 oK ?_;refine CN ?_;refine Ct ?_;refine CQR ?_;refine A0 mV ?_;refine A0 aV ?_
   refine CN ?_
   exact zb rfl rfl (zd rfl (rfl))
  ·
   have hq:smallP q:=fewPr_small (by simpa using g48)
   refine A0 oK ?_;refine A0 mV ?_;refine A1 mV ?_;refine A1 oN ?_
   refine zaw (d:=52) (p:=fewL l=false) rfl (by cases fewL l<;>rfl) (fun g52=>?_) (fun g52=>?_)
   ·
    refine A0 oK ?_;refine A0 mV ?_;refine A2 ?_;refine A2 ?_;refine A2 ?_;refine A0 oK ?_;refine CN ?_;refine Ct ?_;refine CQR ?_;refine A0 mV ?_;refine A0 aV ?_;refine CN ?_
    exact zb rfl rfl (zd rfl (rfl))
   ·
    have hl:=fewL_small (by simpa using g52:fewL l=true)
    have hll:=hl.2
    refine A0 oK ?_;refine A0 mV ?_;refine A1 mV ?_;refine A1 (zA rfl rfl zdm) ?_;refine A1 zaP ?_;refine A0 oK ?_;refine CN ?_
    refine Cf (p:=120<v.length) (fun ht58=>?_) (fun ht58=>?_)
    ·
     refine CQR ?_;refine A0 mV ?_;refine A0 aV ?_;refine CN ?_
     exact zb rfl rfl (zd rfl (rfl))
    ·
     refine CSQR ?_;refine A0 (oLs rfl rfl rfl zy) ?_;refine A0 (oLs rfl rfl rfl zy) ?_;refine A0 (oCl (common_ok p q hp.1 hq.1) rfl fn_13 ⟨(ze rfl),(ze rfl),trivial⟩) ?_;refine A0 mX ?_
     refine A0 (by first|exact z6 rfl rfl|exact zY rfl rfl) ?_;refine A0 (by first|exact z8 rfl rfl|exact z7 rfl rfl) ?_;refine A0 aV ?_;refine A0 aV ?_;refine CNQR ?_;refine A0 (oLs rfl rfl rfl zy) ?_
     refine A0 (oLs rfl rfl rfl zy) ?_;refine A0 (oCl (rcommon_ok p q hp.1 hq.1) rfl fn_14 ⟨(ze rfl),(ze rfl),trivial⟩) ?_;refine A0 mX ?_;refine A0 (by first|exact z6 rfl rfl|exact zY rfl rfl) ?_
     refine A0 (by first|exact z8 rfl rfl|exact z7 rfl rfl) ?_;refine A0 aV ?_;refine A0 aV ?_;refine CNQR ?_;refine A0 (oLs rfl rfl rfl zy) ?_;refine A0 (oLs rfl rfl rfl zy) ?_
     refine A0 (oCl (better_ok p q hp.1 hq.1) rfl fn_15 ⟨(ze rfl),(ze rfl),trivial⟩) ?_;refine A0 mX ?_;refine A0 (by first|exact z6 rfl rfl|exact zY rfl rfl) ?_
     refine A0 (by first|exact z8 rfl rfl|exact z7 rfl rfl) ?_;refine A0 aV ?_;refine A0 aV ?_;refine CNQR ?_;refine A0 (oLs rfl rfl rfl zy) ?_;refine A0 (oLs rfl rfl rfl zy) ?_
     refine A0 (oCl (rbetter_ok p q hp.1 hq.1) rfl fn_16 ⟨(ze rfl),(ze rfl),trivial⟩) ?_;refine A0 mX ?_;refine A0 (by first|exact z6 rfl rfl|exact zY rfl rfl) ?_
     refine A0 (by first|exact z8 rfl rfl|exact z7 rfl rfl) ?_;refine A0 aV ?_;refine A0 aV ?_;refine CNQR ?_;refine A0 (oLs rfl rfl rfl zy) ?_;refine A0 (oLs rfl rfl rfl zy) ?_
     refine A0 (oCl (pick_ok p q hp hq) rfl fn_17 ⟨(ze rfl),(ze rfl),trivial⟩) ?_;refine A0 mX ?_;refine A0 (by first|exact z6 rfl rfl|exact zY rfl rfl) ?_;refine A0 (by first|exact z8 rfl rfl|exact z7 rfl rfl) ?_
     refine zf zcO rfl rfl rfl rfl ?_;refine za rfl rfl rfl rfl rfl (Lens.self _) zy rfl ?_;refine A0 aV ?_;refine CNQR ?_;refine A0 (oLs rfl rfl rfl zy) ?_;refine A0 (oLs rfl rfl rfl zy) ?_
     refine A0 (oCl (rpick_ok p q hp hq) rfl fn_18 ⟨(ze rfl),(ze rfl),trivial⟩) ?_;refine A0 mX ?_;refine A0 (by first|exact z6 rfl rfl|exact zY rfl rfl) ?_;refine A0 (by first|exact z8 rfl rfl|exact z7 rfl rfl) ?_
     refine zf zcO rfl rfl rfl rfl ?_;refine za rfl rfl rfl rfl rfl (Lens.self _) zy rfl ?_;refine A0 aV ?_;refine CNQR ?_;refine A0 mV ?_;refine A0 (oCl (fold_ok l hl.1 (by omega)) rfl fn_19 ⟨(ze rfl),trivial⟩) ?_
     refine A0 mX ?_;refine A0 (by first|exact z6 rfl rfl|exact zY rfl rfl) ?_;refine A0 (by first|exact z8 rfl rfl|exact z7 rfl rfl) ?_;refine zf zcO rfl rfl rfl rfl ?_
     refine za rfl rfl rfl rfl rfl (Lens.self _) zy rfl ?_;refine A0 aV ?_;refine CNQR ?_;refine A0 mV ?_;refine A0 (oCl (rfold_ok l hl.1 (by omega)) rfl fn_20 ⟨(ze rfl),trivial⟩) ?_;refine A0 mX ?_
     refine A0 (by first|exact z6 rfl rfl|exact zY rfl rfl) ?_;refine A0 (by first|exact z8 rfl rfl|exact z7 rfl rfl) ?_;refine zf zcO rfl rfl rfl rfl ?_
     refine za rfl rfl rfl rfl rfl (Lens.self _) zy rfl ?_;refine A0 aV ?_;refine CNQR ?_;refine A0 (oLs rfl rfl rfl zy) ?_;refine A0 (oLs rfl rfl rfl zy) ?_
     refine A0 (oCl (refProof_ok (pickOf p q).1 (pickOf p q).1) rfl fn_21 ⟨(ze rfl),(ze rfl),trivial⟩) ?_;refine A0 aV ?_;refine CNQR ?_;refine A0 (oLs rfl rfl rfl zy) ?_;refine A0 (oLs rfl rfl rfl zy) ?_
     refine A0 (oCl (refProof_ok (foldOf l).1 (foldOf l).1) rfl fn_21 ⟨(ze rfl),(ze rfl),trivial⟩) ?_;refine A0 aV ?_;refine CNQR ?_;refine A0 mV ?_;refine A0 mV ?_
     refine A0 (oCl (score_ok v m) rfl fn_22 ⟨(ze rfl),(ze rfl),trivial⟩) ?_;refine A0 mV ?_;refine A0 mV ?_;refine A0 (oCl (rscore_ok v m) rfl fn_23 ⟨(ze rfl),(ze rfl),trivial⟩) ?_;refine A0 zbb ?_
     refine zdg (d:=118) rfl (by simp) ?_;refine A0 mV ?_;refine A1 mV ?_;refine A1 mV ?_;refine A1 zbb ?_;refine zdg (d:=122) rfl (by simp) ?_;refine A0 oK ?_;refine A0 mV ?_;refine A1 mV ?_;refine A1 mV ?_
     refine A1 zbb ?_;refine zdg (d:=127) rfl (by simp) ?_;refine A0 oK ?_;refine A0 mV ?_;refine A1 mV ?_;refine A1 mV ?_;refine A1 (g_eqlB rfl rfl rfl ub_4) ?_;refine zdg (d:=132) rfl (by simp) ?_;refine A0 oK ?_
     refine A0 mV ?_;refine A1 mV ?_;refine A1 mV ?_;refine A1 zbb ?_;refine zdg (d:=137) rfl (by simp) ?_;refine A0 oK ?_;refine A0 mV ?_;refine A1 mV ?_;refine zdg (d:=140) rfl (by simp) ?_;refine A0 oK ?_;refine A0 mV ?_
     refine A1 mV ?_;refine A1 mV ?_;refine A1 zbb ?_;refine zdg (d:=145) rfl (by simp) ?_;refine A0 oK ?_;refine A0 mV ?_;refine A1 mV ?_;refine zdg (d:=148) rfl (by simp) ?_;refine A0 oK ?_;refine A0 mV ?_;refine A1 mV ?_
     refine A1 mV ?_;refine A1 zbb ?_;refine A0 oK ?_;refine A0 aV ?_;refine CN ?_
     exact zb rfl rfl (zd rfl (by simp))
end Go.Proofs.YtdeghaedeefooaaGreat
