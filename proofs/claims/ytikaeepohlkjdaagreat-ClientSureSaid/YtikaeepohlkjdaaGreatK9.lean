/- Parts of the proof: the layer that reads Go values as data, and what the functions of the program tell. -/
import Derived.Test.YtikaeepohlkjdaaGreatK8
set_option linter.unusedVariables false
set_option linter.unusedSimpArgs false
set_option maxRecDepth 20000
namespace Go.Proofs.YtikaeepohlkjdaaGreat
open Go.Ab Go.RowKit
theorem zn_ids56:zay P 56 nilT ():=zeR zjc yr
theorem zp_177:(P.info? 177).bind (·.zero)=some .nilFunc:=yr
def HPw (q:Nat) (out:List Ab.Id):Hp:=((Hp.none.set (q+2) (.row 49 idT out)).set 0 (.parts 56 [.own (q+2)])).set 1 (.parts 177 [.clo 101 [1,0]])
theorem zwU (q:Nat) (out:List Ab.Id):HPw q out (q+2) = .row 49 idT out:=by
  unfold HPw Hp.set;rw[zcD,ur yc,zcD,ur yc,zcD,ut rfl]
theorem zrU (q:Nat) (out:List Ab.Id):(AV.own (q+2)).isOne (HPw q out)=true:=by
  show(match HPw q out (q+2) with | .none_=>false|_=>true)=true;rw[zwU]
theorem hw_one {h:Hp} {n ty:Nat} {l:List Ab.Id}:(AV.own n).isOne (h.set n (.row ty idT l))=true:=by
  have e:(h.set n (.row ty idT l)) n = .row ty idT l:=by unfold Hp.set;rw[zcD,ut rfl]
  show(match (h.set n (.row ty idT l)) n with | .none_=>false|_=>true)=true;rw[e]
theorem hw_go (q N:Nat) (out out':List Ab.Id) (h:q<N):HPw N out'=(((HPw q out).set (q+2) .none_).set (N+2) (.row 49 idT out')).set 0 (.parts 56 [.own (N+2)]):=by
  funext t
  unfold HPw Hp.set;simp only[zcD];by_cases h1:t=1
  · subst h1
    rw[ut rfl,ur yc,ur yc,ur yc,ut rfl]
  rw[ur h1];by_cases h0:t=0
  · subst h0;rw[ut rfl,ut rfl]
  rw[ur h0,ur h0];by_cases h2:t=N+2
  · rw[ut h2,ut h2]
  rw[ur h2,ur h2];by_cases h3:t=q+2
  · rw[ut h3];rfl
  rw[ur h3,ur h1,ur h0,ur h3]
theorem hw_init (Z Z2:HE):HPw 0 []=(((((Hp.none.set 0 Z).set 1 Z2).set 1 (.parts 177 [.clo 101 [1,0]])).set 2 (.row 49 idT [])).set 0 (.parts 56 [.own 2])):=by
  funext t
  match t with
  | 0=>rfl
  | 1=>rfl
  | 2=>rfl
  | t+3=>rfl
def qf (q m n:Nat):Nat:=if n=0 then q else m+n
theorem qf_lt {q m n:Nat} (h:q<m+1):qf q m n<m+n+1:=by unfold qf;split<;>omega
def zh6 (l:List Ab.Id) (i:Nat):Prop:=∀{J:Job} {fr:Fr} {k:List It} {ops:Array Oper} {rest:List Oper} {o:Oper} {d:Nat} {x ya yb:Operand} {ts:Array TypeId} {q m:Nat} {out:List Ab.Id},J.P=P→o.op = .call { callee:=.value x,args:=#[ya,yb],argTypes:=ts }→o.dst=some d→o.guard=none→Nat.blt d J.nt=true→
  fr.ev x = .clo 101 [1,0]→fr.ev ya = .val (bsl idT) l→fr.ev yb = .val i64T (i:Int)→q<m+1→out.length+(zcV l i).length≤1000→
  AW J (m+(zcV l i).length+3) (fr.set d (.lit (.tuple #[]))) (HPw (qf q m (zcV l i).length) (out++zcV l i)) (.ops ops rest::k)→AW J (m+3) fr (HPw q out) (.ops ops (o::rest)::k)
theorem walk_ok (n:Nat):∀(l:List Ab.Id) (i:Nat),l.length≤n→l.length≤64→i<l.length→zh6 l i:=by
 induction n using Nat.strongRecOn with
 | _ n ih =>
 intro l i hn hl hi J fr k ops rest o d x ya yb ts q m out hP ho hd hg hlt hx hya hyb hqm hol H;cases J;dsimp only at hP;subst hP;refine zcN ho hd hg hlt hx Tryz.func101 fn_101 rfl rfl yM (fun ia iok=>?_);have hargs:((#[ya,yb]:Array Operand).toList.map fr.ev++([1,0]:List Nat).map fun n=>AV.ptr n 0)=[.val (bsl idT) l,.val i64T (i:Int),.ptr 1 0,.ptr 0 0]:=by simp[hya,hyb]
 rw[hargs];refine qb1 ?_;refine qaS ?_;refine A0 zbZ ?_;refine CN ?_;refine zn (p:=l.length=1) rfl yab (fun ht10=>?_) (fun ht10=>?_)
 ·
  have hp1:=zrx (i:=i) (show ¬2≤l.length by omega);refine aw_back0 rfl ?_;rw[hp1] at H;exact zpl (by rw[List.append_nil];rfl) H
 have hp:=zcY l.length;have hh:=zev (n:=l.length) yc;refine qcG ?_;refine qaS ?_;refine A0 (oCl (zvm l.length yc yc) rfl fn_102 yf) ?_;refine qag ?_;refine qax ?_;refine A0 (zhi rfl rfl rfl zb8 yg) ?_;refine qaj ?_;refine qax ?_;refine qaY ?_;refine Cf (p:=i<halfN l.length) (fun ht19=>?_) (fun ht19=>?_)
 ·
  have hpe:=(zry (i:=i) (show 2≤l.length by omega)).trans (ut ht19);have ihl:zh6 _ _:=ih (halfN l.length) yc (l.take (halfN l.length)) i yx yx yx;obtain⟨p,hpp⟩:∃p,p=zcV (l.take (halfN l.length)) i:=⟨_,rfl⟩;unfold zh6 at ihl;rw[←hpp] at ihl hpe;rw[hpe,ue,List.length_singleton] at hol;refine zx [some 1,some 1,some 1,some 1,some 1,none] mixed ye ?_;refine X0 (zy rfl rfl rfl rfl rfl zv9) ?_;refine X0 mV ?_;refine qa3 ?_;refine X0 mV ?_;refine XK.e (fun fr' hfr kk H=>by exact ihl rfl rfl rfl rfl rfl ((hfr 20 ye).trans rfl) ((hfr 23 ye).trans rfl) ((hfr 24 ye).trans rfl) hqm yc (zr H)) ?_;refine xf ?_;refine zx [some 1,some 1,some 1,some 1,none,none] mixed ye ?_;refine X0 (zy rfl rfl rfl rfl (zrU _ _) za5) ?_;refine X0 mV ?_;refine X0 (oCl (zlO (l.drop (halfN l.length)) yx) rfl zqC yf) ?_;refine qc2 ?_;refine XK.e (fun fr' hfr kk H=>by exact zF rfl rfl rfl rfl ((hfr 37 ye).trans rfl) (zwU _ _) ((hfr 40 ye).trans rfl) zfa (by rw[ue,List.length_singleton];omega) (zr H)) ?_;refine XK.e (x:=.idk) (fun fr' hfr kk H=>by exact zZ rfl rfl rfl ((hfr 3 ye).trans rfl) rfl rfl ((hfr 41 ye).trans rfl) hw_one rfl rfl za5 (zr H)) ?_;refine xf ?_;refine zgB rfl ?_;rw[hpe,ue] at H;exact zpl (hw_go _ _ _ _ (qf_lt hqm)) (by first|exact H|(rw[←List.append_assoc] at H;exact H))
 have hpe:=(zry (i:=i) (show 2≤l.length by omega)).trans (ur ht19);have ihl:zh6 _ _:=ih (l.length-halfN l.length) yc (l.drop (halfN l.length)) (i-halfN l.length) yy yx yx;obtain⟨p,hpp⟩:∃p,p=zcV (l.drop (halfN l.length)) (i-halfN l.length):=⟨_,rfl⟩;unfold zh6 at ihl;rw[←hpp] at ihl hpe;rw[hpe,ue,List.length_singleton] at hol;refine CQ ?_;refine zx [some 1,some 1,some 1,some 1,some 1,some 1,some 1,none] mixed ye ?_;refine X0 (zy rfl rfl rfl rfl rfl zv9) ?_;refine qcz ?_;refine X0 (zhi rfl rfl rfl zb8 yg) ?_;refine qcz ?_;refine X0 (zj5 rfl rfl rfl (show _=(((i-halfN l.length:Nat):Int):Int) from(show IntKind.i64.wrap ((i:Int)-(halfN l.length:Int))=_ from(zax yc).trans yc))) ?_;refine XK.e (fun fr' hfr kk H=>by exact ihl rfl rfl rfl rfl rfl ((hfr 26 ye).trans rfl) ((hfr 29 ye).trans rfl) ((hfr 32 ye).trans rfl) hqm yc (zr H)) ?_;refine xf ?_;refine CR ?_;refine qao ?_;refine A0 yad ?_;refine qad ?_;refine zx [some 1,some 1,some 1,some 1,none,none] mixed ye ?_;refine X0 (zy rfl rfl rfl rfl (zrU _ _) za5) ?_;refine X0 mV ?_;refine X0 (oCl (zlO (l.take (halfN l.length)) yx) rfl zqC yf) ?_;refine qc2 ?_;refine XK.e (fun fr' hfr kk H=>by exact zF rfl rfl rfl rfl ((hfr 37 ye).trans rfl) (zwU _ _) ((hfr 40 ye).trans rfl) zfa (by rw[ue,List.length_singleton];omega) (zr H)) ?_;refine XK.e (x:=.idk) (fun fr' hfr kk H=>by exact zZ rfl rfl rfl ((hfr 3 ye).trans rfl) rfl rfl ((hfr 41 ye).trans rfl) hw_one rfl rfl za5 (zr H)) ?_;refine xf ?_;refine zgB rfl ?_;rw[hpe,ue] at H;exact zpl (hw_go _ _ _ _ (qf_lt hqm)) (by first|exact H|(rw[←List.append_assoc] at H;exact H))
theorem path22_ok (l:List Ab.Id) (i:Int):Tells P 45 [.val (bsl idT) l,.val i64T i] (.tup2 (.fresh 49 idT (if 0≤i∧i<l.length∧l.length≤64 then zcV l i.toNat else [])) (.val zm (decide (0≤i∧i<l.length∧l.length≤64)))):=by
 refine zc Tryz.func45 rfl rfl rfl (fun ext w hext=>?_);refine ze (d:=0) rfl zk (fun hsl0=>?_);refine ze (d:=1) rfl zt (fun hin1=>?_);refine qaq ?_;refine qaj ?_;refine qaS ?_;refine A0 zc1 ?_;refine qax ?_;refine Sp (d:=11) (p:=64<l.length) (fun g11=>?_) (fun g11=>?_)
 ·
  refine A2 ?_;refine qav ?_;refine qaw ?_;refine Ct ?_;refine qbp ?_;exact zV rfl rfl (by rw[ur yc];exact zp rfl) (za rfl (uh yc).symm)
 refine A1 mV ?_;refine A1 zb2 ?_;refine qal ?_;refine Sp (d:=15) (p:=i<0) (fun g15=>?_) (fun g15=>?_)
 ·
  refine qb7 ?_;refine qaw ?_;refine Ct ?_;refine qbp ?_;exact zV rfl rfl (by rw[ur yc];exact zp rfl) (za rfl (uh yc).symm)
 refine qca ?_;refine A1 (zW rfl rfl zcq) ?_;refine A1 zfd ?_;refine qaw ?_;refine Cf (p:=(l.length:Int)≤i) (fun ht20=>?_) (fun ht20=>?_)
 ·
  refine qbp ?_;exact zV rfl rfl (by rw[ur yc];exact zp rfl) (za rfl (uh yc).symm)
 obtain⟨I,rfl⟩:∃I:Nat,i=I:=⟨i.toNat,by omega⟩;have hwk:zh6 l I:=walk_ok l.length l I (ug _) yc yc;have hpl:(zcV l I).length≤l.length:=by rw[zkL l.length l I rfl];exact zoZ
 unfold zh6 at hwk;obtain⟨p,hpp⟩:∃p,p=zcV l I:=⟨_,rfl⟩;rw[←hpp] at hwk hpl;refine CSQR ?_;refine zs zn_ids56 rfl rfl rfl rfl ?_;refine CNQR ?_;refine zf2 zp_177 rfl rfl rfl rfl rfl rfl ?_;refine CNQR ?_;refine xp ?_;refine zZ rfl rfl rfl rfl rfl rfl rfl rfl rfl rfl zv9 ?_;refine CN ?_;refine zur 0 49 idT rfl ?_;refine zpl (hp':=HPw 0 []) (hw_init _ _) ?_;refine CQR ?_;refine A0 (zy rfl rfl rfl rfl rfl zv9) ?_;refine qao ?_;refine hwk (q:=0) (m:=0) rfl rfl rfl rfl rfl rfl rfl rfl yc yx ?_;refine CNQR ?_;refine A0 (zy rfl rfl rfl rfl (zrU _ _) za5) ?_;refine qch ?_;exact zV rfl rfl (by rw[ut yc,Int.toNat_natCast];exact zh rfl (zwU _ _) hpp) (za rfl (ui yc).symm)
set_option maxRecDepth 20000
theorem fewC_tx {l:List Block} {b:Block} (h:fewC l=true) (hb:b∈l):b.t.length≤64:=by
  unfold fewC at h;rw[uk] at h;have h2:=List.all_eq_true.1 h.1 b hb;unfold fewB at h2;simp only[uk,uj] at h2;omega
def zm6 (l:List Block) (m k q:Int):Client:=⟨m,k,[0],true,wiOf l m k q⟩
theorem give_run {m k:Int} {R:List UInt8} {p:Proof} (h1:zcG R=true) (h2:zdD R=p) (hm:p.m=m) (hk:p.k=k) (hc:zaa p=0):runC (newC m k) (ancM R)=⟨m,k,[0],true,p⟩∧runE (newC m k) (ancM R)=[0,0]:=by
  have s1:zbY (newC m k) zMsg=(⟨m,k,[0],false,zbL⟩,0):=rfl;have g1:zbY ⟨m,k,[0],false,zbL⟩ ⟨2,0,R⟩=(⟨m,k,[0],true,p⟩,0):=by
    rw[step_give (List.mem_singleton.2 rfl),give_first ⟨h1,by rw[h2];exact hm,by rw[h2];exact hk,by rw[h2];exact hc⟩ rfl,h2]
  constructor
  · show(zbY (zbY (newC m k) zMsg).1 ⟨2,0,R⟩).1=_
    rw[s1];show(zbY ⟨m,k,[0],false,zbL⟩ ⟨2,0,R⟩).1=_;rw[g1]
  show [(zbY (newC m k) zMsg).2,(zbY (zbY (newC m k) zMsg).1 ⟨2,0,R⟩).2]=_;rw[s1];show [(0:Int),(zbY ⟨m,k,[0],false,zbL⟩ ⟨2,0,R⟩).2]=_;rw[g1]
section
variable {l:List Block} {m k q:Int}
theorem wi_run (hw:wiE l m k q=0) (hn:l.length≤50) (hbw:BW l):runC (newC m k) (ancM (zfu (wiOf l m k q)))=zm6 l m k q∧runE (newC m k) (ancM (zfu (wiOf l m k q)))=[0,0]:=by
  have hwp:=way_put hw hn hbw;have hb:=put_back hwp.2.1 hwp.1;exact give_run hb.1 hb.2 (by rw[wi_is hw]) (by rw[wi_is hw]) (wi_holds hw)
theorem wi_at (hw:wiE l m k q=0):∃b:Block,l[q.toNat]?=some b∧b.h.height=q∧atOk (zm6 l m k q) q=true∧atP (zm6 l m k q) q=⟨b.h,b.l⟩:=by
  have hp:(zm6 l m k q).p.p=wayP l m k q:=by show(wiOf l m k q).p=_;rw[wi_is hw]
  have ho:atOk (zm6 l m k q) q=true:=by
    unfold atOk atI;rw[hp,zhL];exact way_it hw
  have hy:=zxE ho;have hm:=ud hy.2.2.1;rw[hp] at hm;obtain⟨p,hpm,he⟩:=List.mem_map.1 hm;obtain⟨b,hb,hbh,hbp⟩:=way_at hw hpm;rw[hbp] at he;have hq:p=q:=by
    have h1:=hy.2.1;rw[←he] at h1;exact hbh.symm.trans h1
  subst hq;exact⟨b,hb,hbh,ho,he.symm⟩
theorem wi_last (hw:wiE l m k q=0):((zm6 l m k q).p.p.getD ((zm6 l m k q).p.p.length-1) zsH).h.height=(l.length:Int)-1:=by
  obtain⟨h1,h2,h3⟩:=zuG hw;have hb:=zfQ h1;have hk1:=hb.k1;have hkl:=hb.kl;have hwy:=zv3 hb h2 h3;have hmem:=hwy.last ((l.length:Int)-1) yc yc;obtain⟨j,hj⟩:=List.getElem?_of_mem hmem;obtain⟨hjl,hje⟩:=ul.1 hj;have hjend:j=(zb0 l m k q).length-1:=by
    by_cases c:j<(zb0 l m k q).length-1
    · have hlt:=List.pairwise_iff_getElem.1 hwy.rise j ((zb0 l m k q).length-1) hjl yc c
      have hin:=(hwy.inn _ (List.getElem_mem (show(zb0 l m k q).length-1<(zb0 l m k q).length by omega))).2;rw[hje] at hlt;omega
    omega
  have hp:(zm6 l m k q).p.p=(zb0 l m k q).map (zaN l):=by show(wiOf l m k q).p=_;rw[wi_is hw];rfl
  obtain⟨b,_,hbh,hbp⟩:=way_at hw hmem;rw[hp,List.length_map,←hjend,uq,List.getElem?_map,hj];show(zaN l ((l.length:Int)-1)).h.height=_;rw[hbp];exact hbh
theorem chain_txs (hc:(zH l).2=0) {b:Block} {i I:Nat} (hb:l[i]?=some b) (hI:I<b.t.length):b.h.txs=zcF (b.t.map idOf):=by
  have hch:=zdr hc;by_cases h0:i=0
  · subst h0
    obtain⟨t',h1,_⟩:=zf1 hch (ug 1) (by obtain⟨h,_⟩:=ul.1 hb;omega);have e:l.take 1=[b]:=by rw[List.take_one];cases l with|nil=>cases hb|cons a r=>simp at hb;simp[hb]
    rw[e] at h1;have h2:=(zhm h1).2.1;rw[h2] at hI;cases hI
  obtain⟨t',_,h2,_⟩:=zjv hch yc hb;have h3:=(zfH.1 h2).2.1;rw[h3];rfl
theorem sure_is (hw:wiE l m k q=0) (hf:fewC l=true) {b:Block} (hb:l[q.toNat]?=some b) (hp:atP (zm6 l m k q) q=⟨b.h,b.l⟩) (ho:atOk (zm6 l m k q) q=true) {I:Nat} (hI:I<b.t.length) {x:Ab.Id} (hx:(b.t.map idOf)[I]?=some x) :
    zuK (zm6 l m k q) q ((b.t.map idOf).length:Nat) (I:Int) x (zcV (b.t.map idOf) I)=decide (q≤(l.length:Int)-1-k):=by
  have hbo:=zfQ (zuG hw).1;have h50:=zxi hf;have hk1:=hbo.k1;have hk2:=hbo.k2;have hkl:=hbo.kl;have hr:=chain_txs hbo.c hb hI;have hck:=zu6 (l:=b.t.map idOf) (i:=I) (by rw[List.length_map];exact fewC_tx hf (ud hb)) hx;unfold zuK;rw[ho,wi_last hw,hp,Bool.true_and];show(decide (q≤IntKind.i64.wrap ((l.length:Int)-1-k))&&zgt b.h.txs _ _ x _)=_;rw[hr,hck,Bool.and_true,zax yc]
end
theorem big_msgs {raw:List UInt8} (h:raw.length≤126903):zxP (ancM raw):=⟨by show 2≤100;decide,fun x hx=>by
  simp only[ancM,List.mem_cons,List.not_mem_nil,or_false] at hx;rcases hx with rfl|rfl
  · decide
  show raw.length≤_;omega⟩
set_option maxRecDepth 20000
set_option maxHeartbeats 2000000
theorem zsB (l:List Block) (m k q i:Int) (hl:zia l):Tells P 12 [.val (sl zL) l,.val i64T m,.val i64T k,.val i64T q,.val i64T i] (.val zm true):=by
 have hll:=hl.1;refine zc Tryz.func12 rfl rfl rfl (fun ext w hext=>?_);refine ze (d:=0) rfl zk (fun hsl0=>?_);refine ze (d:=1) rfl zt (fun hin1=>?_);refine ze (d:=2) rfl zt (fun hin2=>?_);refine ze (d:=3) rfl zt (fun hin3=>?_);refine ze (d:=4) rfl zt (fun hin4=>?_);refine ze (d:=0) rfl fact_bw (fun hbw=>?_);refine CQR ?_;refine qaz ?_;refine A0 (oCl (awake22_ok) rfl fn_28 trivial) ?_;refine qag ?_;refine A0 (oCl (fewC_ok l) rfl fn_20 yf) ?_;refine qaj ?_;refine A0 oN ?_;refine qax ?_;refine zi4 (d:=32) rfl (rfl) ?_;refine A1 mV ?_;refine A1 oN ?_;refine qaw ?_;refine zn (p:=¬fewC l=true) rfl (by cases fewC l<;>rfl) (fun ht35=>?_) (fun ht35=>?_)
 ·
  refine qbK ?_;exact zb rfl rfl (za rfl (rfl))
 have hfc:=ua ht35;have h50:=zxi hfc;refine CSQR ?_;refine qao ?_;refine qao ?_;refine A0 (oCl (prWith_ok l m k q hl) rfl fn_42 ybi) ?_;refine qbi ?_;refine qby ?_;refine qam ?_;refine qaz ?_;refine qaQ ?_;refine A0 (oCl (zu3 (wiOf l m k q)) rfl fn_43 yf) ?_;refine qbi ?_;refine A0 aV ?_;refine qag ?_;refine qax ?_;refine A0 (oCl (zok _ _) rfl fn_14 yl) ?_;refine qbi ?_;refine qbW ?_;refine qar ?_;refine qaj ?_;refine A0 zdQ ?_;refine qax ?_;refine zaP (d:=58) (p:=¬wiE l m k q=0) rfl yH (fun g58=>?_) (fun g58=>?_)
 ·
  refine qaX ?_;refine qco ?_;refine Ct ?_;refine qas ?_;exact zb rfl rfl (za rfl (rfl))
 have hwe:=ua g58;have hwp:=way_put hwe h50 hbw;refine A1 mV ?_;refine A1 oN ?_;refine qal ?_;refine zi4 (d:=62) rfl (by rw[hwp.1];rfl) ?_;refine A1 mV ?_;refine A1 oN ?_;refine qaw ?_;refine zn (p:=zjG m k=false) rfl (by cases zjG m k<;>rfl) (fun ht65=>?_) (fun ht65=>?_)
 ·
  refine qas ?_;exact zb rfl rfl (za rfl (rfl))
 have hnr:=zwC (show zjG m k=true by cases hh:zjG m k<;>simp_all);refine zP (n:=1) (y:=newC m k) rfl hnr.1 ?_;have hmo:=big_msgs (pput_bd hwp.2.1);have hrun:=wi_run hwe h50 hbw;obtain⟨b,hb,hbh,hao,hap⟩:=wi_at hwe;obtain⟨d,hd⟩:∃d,d=zm6 l m k q:=⟨_,rfl⟩;rw[←hd] at hrun hao hap;have hsd:SmC d:=by rw[←hrun.1];exact zkB _ (ziB m k)
 have hwk:=zuG hwe;have hbo:=zfQ hwk.1;have hk1:=hbo.k1;have hk2:=hbo.k2;have hbl:=(ul.1 hb).1;have hl0:([0,0]:List Int)[0]?=some 0:=rfl;have hl1:([0,0]:List Int)[1]?=some 0:=rfl;refine CSQR ?_;refine qba ?_;refine A0 (zC rfl zsF zvM .nil rfl) ?_;refine qax ?_;refine A0 (zC rfl zsF zvM (.cons zhT zds ty_3 rfl (.cons zoN zlA zbi rfl .nil)) rfl) ?_;refine A0 (zX (T:=msgT) (xs:=[_,_]) rfl sl_37 row_37 y4 rfl rfl) ?_;refine zj (d:=71) (y:=ancM (zfu (wiOf l m k q))) rfl (rfl) ?_;refine A0 (oCl (zrp (newC m k) (ancM (zfu (wiOf l m k q))) (ziB m k) hmo) rfl fn_15 yl) ?_;refine qaB ?_;refine zj (d:=73) (y:=d) rfl (hrun.1) ?_;refine qaU ?_;refine zj (d:=74) (y:=([0,0]:List Int)) rfl (hrun.2) ?_;refine qbW ?_;refine qar ?_;refine qaz ?_;refine qba ?_;refine qax ?_;refine A0 (oCl (zss d q hsd) rfl fn_26 yl) ?_;refine qaB ?_;refine zj (d:=79) (y:=(⟨b.h,b.l⟩:Part)) rfl (hap) ?_;refine qaU ?_;refine zj (d:=80) (y:=true) rfl (hao) ?_;refine qa1 ?_;refine qa7 ?_;refine qaV ?_;refine G0 mV ?_;refine G0 (zW rfl rfl isl_32) ?_;refine G0 zdQ ?_;refine G0 mV ?_;refine zjU (d:=84) rfl (rfl) ?_;refine G1 mV ?_;refine G1 (zK (i:=0) rfl rfl rfl yc sl_32 yh) ?_;refine G1 (zg rfl rfl ty_40) ?_;refine G1 zdQ ?_;refine qaT ?_;refine zjU (d:=90) rfl (rfl) ?_;refine G1 mV ?_;refine G1 (zK (i:=1) rfl rfl rfl yc sl_32 yh) ?_;refine G1 (zg rfl rfl ty_40) ?_;refine G1 zdQ ?_;refine qaT ?_;refine zjU (d:=96) rfl (rfl) ?_;refine G1 mV ?_;refine G1 oN ?_;refine qaT ?_;refine zjU (d:=100) rfl (rfl) ?_;refine G1 mV ?_;refine G1 zb2 ?_;refine qaT ?_;refine zjU (d:=104) rfl (uh yS) ?_;refine G1 mV ?_;refine G1 mV ?_;refine G1 (zW rfl rfl zeP) ?_;refine G1 zfd ?_;refine qaT ?_;refine zjU (d:=110) rfl (uh yS) ?_;refine G1 (oFp zbk) ?_;refine G1 (oLb zaU zaM) ?_;refine G1 mV ?_;refine G1 mV ?_;refine G1 (zK (i:=q.toNat) rfl rfl rfl yc zdz yh) ?_;refine qct ?_;refine G1 (zee rfl rfl rfl (zjQ)) ?_;refine qaW ?_;refine ze1 rfl yy ?_;refine qbM ?_;refine A0 zb2 ?_;refine qax ?_;refine Sp (d:=122) (p:=i<0) (fun g122=>?_) (fun g122=>?_)
 ·
  refine qac ?_;refine qb7 ?_;refine qco ?_;refine Ct ?_;refine qas ?_;exact zb rfl rfl (za rfl (rfl))
 refine qca ?_;refine A1 mV ?_;refine A1 (zK (i:=q.toNat) rfl rfl rfl yc zdz yh) ?_;refine A1 (oFr zdE zcf) ?_;refine A1 (zg rfl rfl zjF) ?_;refine A1 ybA ?_;refine A1 zfd ?_;refine qaw ?_;refine Cf (p:=(b.t.length:Int)≤i) (fun ht131=>?_) (fun ht131=>?_)
 ·
  refine qas ?_;exact zb rfl rfl (za rfl (rfl))
 obtain⟨I,rfl⟩:∃I:Nat,i=I:=⟨i.toNat,by omega⟩;have hI:I<b.t.length:=yc;have hb64:=fewC_tx hfc (ud hb);have hbm:(b.t.map idOf).length=b.t.length:=List.length_map ..;refine CSQR ?_;refine A0 aL ?_;refine CNQQR ?_;refine qc7 ?_;refine zcv (T:=idT) (d:=23) 49 rfl ?_;refine Lp (ι:=Nat) 5 (fun (j:Nat)=>(((((((Fr.none).set 0 (.val (sl zL) l)).set 2 (.val i64T k)).set 3 (.val i64T q)).set 4 (.val i64T (I:Int))).set 19 (.ptr 2 0)).set 23 (.own 4)).set 24 (.val i64T (j:Int))) (fun (j:Nat)=>((Hp.none).set 2 (.box 29 zaK d)).set 4 (.row 49 idT ((b.t.map idOf).take j))) (fun (j:Nat)=>j≤b.t.length) (fun (j:Nat)=>b.t.length-j) (0) (uf _) ?_;intro j hinv;refine CQQR ?_;refine qao ?_;refine qax ?_;refine A0 (zK (i:=q.toNat) rfl rfl rfl yc zdz yh) ?_;refine A0 (oFr zdE zcf) ?_;refine A0 (zg rfl rfl zjF) ?_;refine A0 ybA ?_;refine qaY ?_;refine Cf (p:=j<b.t.length) (fun ht139=>?_) (fun ht139=>?_)
 ·
  obtain⟨x,hx⟩:∃x,b.t[j]?=some x:=⟨_,ub ht139⟩;refine qcl ?_;refine CB ?_;refine CR ?_;refine A0 mO ?_;refine qao ?_;refine A0 (zK (i:=q.toNat) rfl rfl rfl yc zdz yh) ?_;refine A0 (oFr zdE zcf) ?_;refine A0 (zg rfl rfl zjF) ?_;refine qax ?_;refine A0 (zK (i:=j) rfl rfl rfl yc zlM yh) ?_;refine A0 (zg rfl rfl zgb) ?_;refine A0 (oCl (id_ok x) rfl fn_44 ybN) ?_;refine A0 (zX (T:=idT) (xs:=[_]) rfl zb8 zfa yB rfl rfl) ?_;refine zF rfl rfl rfl rfl rfl rfl rfl zfa yaa ?_;refine A0 aO ?_;refine CNIR ?_;refine qbb ?_;refine qad ?_;refine zaQ 5 4 6 rfl rfl rfl rfl rfl rfl ?_;refine zA (n:=4) (y:=(b.t.map idOf).take (j+1)) rfl (by rw[un,List.getElem?_map,hx];rfl) ?_;exact Nx (j+1) yc yc
 refine zA (n:=4) (y:=b.t.map idOf) rfl yN ?_;obtain⟨x,hx⟩:∃x,(b.t.map idOf)[I]?=some x:=yv;have hsure:zuK d q ((b.t.map idOf).length:Nat) (I:Int) x (zcV (b.t.map idOf) I)=decide (q≤(l.length:Int)-1-k):=by rw[hd] at hap hao ⊢;exact sure_is hwe hfc hb hap hao hI hx
 refine CE ?_;refine qb6 ?_;refine qax ?_;refine A0 (oCl (zcn (path22_ok (b.t.map idOf) (I:Int))) rfl fn_45 ⟨(zO rfl rfl),yo,trivial⟩) ?_;refine qaB ?_;refine zj (d:=158) (y:=zcV (b.t.map idOf) I) rfl (by rw[ut yc,Int.toNat_natCast]) ?_;refine qaU ?_;refine zj (d:=159) (y:=true) rfl (ui yc) ?_;refine A0 aV ?_;refine qbI ?_;refine qbY ?_;refine zmR (d:=161) rfl (rfl) ?_;refine G1 (oLs rfl rfl rfl zdk) ?_;refine G1 mV ?_;refine G1 mO ?_;refine G1 (zaJ rfl rfl rfl zcq) ?_;refine G1 mV ?_;refine G1 mO ?_;refine G1 mV ?_;refine G1 (zcs (i:=I) rfl rfl rfl rfl yn zb8 yg) ?_;refine G1 (zbX rfl rfl rfl rfl yh (Lens.self _) zaj) ?_;refine G1 mV ?_;refine G1 (oCl (sure22_ok d q ((b.t.map idOf).length:Nat) (I:Int) x (zcV (b.t.map idOf) I) hsd) rfl fn_40 ⟨yo,yo,yo,yo,yo,yo,trivial⟩) ?_;refine G1 mV ?_;refine G1 mV ?_;refine G1 (zW rfl rfl zeP) ?_;refine G1 zbb ?_;refine G1 mV ?_;refine G1 zbb ?_;refine G1 zih ?_;refine G1 (g_eqlB rfl rfl rfl ub_4) ?_;refine G0 oK ?_;refine qaP ?_;exact zb rfl rfl (za rfl (by rw[hsure];simp[IntL.toI]))
end Go.Proofs.YtikaeepohlkjdaaGreat
