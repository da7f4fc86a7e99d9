/- Parts of the proof: the layer that reads Go values as data, and what the functions of the program tell. -/
import Derived.Test.YtikaeepohlkjdaaGreatK7
set_option linter.unusedVariables false
set_option linter.unusedSimpArgs false
set_option maxRecDepth 20000
set_option maxHeartbeats 2000000
namespace Go.Proofs.YtikaeepohlkjdaaGreat
open Go.Ab Go.RowKit
def zgb (c:Client) (l:List Msg):Bool:=l.all (fun x=>decide (x.raw.length≤6000))&&(zoM c.p&&(decide (c.opn.length≤12)&&decide (l.length≤12)))
theorem zkd {c:Client} {l:List Msg} (h:zgb c l=true):SmC c∧zhm l∧l.length≤12∧c.opn.length≤12:=by
  unfold zgb at h;rw[uk,uk,uk,uj,uj,List.all_eq_true] at h;obtain⟨h1,h2,h3,h4⟩:=h;exact⟨⟨zua h2,by omega⟩,⟨by omega,fun x hx=>by have:=h1 x hx;rw[uj] at this;omega⟩,h4,h3⟩
theorem zhY {c:Client} {l:List Msg} (h:¬zgb c l=false):zgb c l=true:=by
  cases hh:zgb c l<;>simp_all
theorem zmb {l m:List Msg} (h:zhm l) (hl:m.length≤100) (hm:∀x∈m,x∈l):zhm m:=⟨hl,fun x hx=>h.2 x (hm x hx)⟩
theorem msgs_nil:zhm []:=⟨by decide,fun x hx=>by cases hx⟩
def zl0:Client:=⟨1,1,[3],true,zdG⟩
def zsX (R:List UInt8):List Msg:=[⟨2,3,R⟩,⟨0,3,[]⟩,⟨2,3,R⟩]
theorem easy_run0 {R:List UInt8} (h1:zbs R=true) (h2:zam R=zdG):runC (newC 1 1) (zsX R)=zl0∧runE (newC 1 1) (zsX R)=[9,0,0]:=by
  have s1:zZ (newC 1 1) ⟨2,3,R⟩=(newC 1 1,9):=by
    rw[zaW ya,ur yr,ur yr,ur (by show ¬(3:Int)∈[];decide)]
  have s2:zZ (newC 1 1) ⟨0,3,[]⟩=(⟨1,1,[3],false,zb3⟩,0):=rfl;have g:zaI ⟨1,1,[3],false,zb3⟩ R=(zl0,0):=by
    unfold zaI;rw[h2,ur (fun h=>h h1),ur (by show ¬(¬(1:Int)=1∨¬(1:Int)=1);decide),ur (fun h=>h zpx),ur yr];rfl
  have s3:zZ ⟨1,1,[3],false,zb3⟩ ⟨2,3,R⟩=(zl0,0):=by
    rw[zaW ya,ur yr,ur yr,ut (by show(3:Int)∈[3];decide)];exact g
  constructor
  · show runC (zZ (zZ (zZ (newC 1 1) ⟨2,3,R⟩).1 ⟨0,3,[]⟩).1 ⟨2,3,R⟩).1 []=_
    rw[s1,s2,s3];rfl
  show [(zZ (newC 1 1) ⟨2,3,R⟩).2,(zZ (zZ (newC 1 1) ⟨2,3,R⟩).1 ⟨0,3,[]⟩).2,(zZ (zZ (zZ (newC 1 1) ⟨2,3,R⟩).1 ⟨0,3,[]⟩).1 ⟨2,3,R⟩).2]=_;rw[s1,s2,s3]
theorem easy_read:zam (zja zdG)=zdG:=(zmZ ziu.1).trans ziu.2
theorem zv4:runC (newC 1 1) (zsX (zja zdG))=zl0∧runE (newC 1 1) (zsX (zja zdG))=[9,0,0]:=easy_run0 ziu.1 easy_read
theorem easy_msgs:zhm (zsX (zja zdG)):=⟨by show 3≤100;decide,fun x hx=>by
  simp only[zsX,List.mem_cons,List.not_mem_nil,or_false] at hx;rcases hx with rfl|rfl|rfl
  · rw[znK];decide
  · decide
  rw[znK];decide⟩
theorem zui:SmC zl0:=⟨⟨by decide,fun x hx=>by
  have hx:x∈[(⟨zh3,[]⟩:Part),⟨zbm.h,[id0]⟩]:=hx;simp only[List.mem_cons,List.not_mem_nil,or_false] at hx;rcases hx with rfl|rfl<;>decide⟩,by decide⟩
theorem easy_at:atI zl0 1=1:=by rfl
theorem zsW:atOk zl0 1=true:=by unfold atOk;rw[easy_at];rfl
theorem easy_atP:atP zl0 1=⟨zbm.h,[id0]⟩:=by unfold atP;rw[ut zsW,easy_at];rfl
theorem zjV {m k:Int} (h:zfS m k=true):newR m k=newC m k∧1≤m∧m≤20∧1≤k∧k≤20:=by
  unfold zfS at h;rw[uj] at h;exact⟨ut h,h⟩
theorem zvk (m k:Int):(newR m k).have_=false∧(newR m k).opn=[]∧SmC (newR m k):=by
  unfold newR
  split
  · exact⟨rfl,rfl,zgs m k⟩
  exact⟨rfl,rfl,⟨by decide,fun x hx=>by cases hx⟩,by decide⟩
theorem newR_at (m k h:Int):atOk (newR m k) h=false:=by unfold atOk;rw[(zvk m k).1];rfl
theorem zfW {m k:Int} (h:m<1∨20<m∨k<1∨20<k):zfS m k=false:=uh ya
theorem zjW {m k:Int} (h1:1≤m) (h2:m≤20) (h3:1≤k) (h4:k≤20):zfS m k=true:=ui ya
theorem fewN {m k:Int} {l:List Msg} (h:¬zgb (newR m k) l=false):zhm l∧l.length≤12:=⟨(zkd (zhY h)).2.1,(zkd (zhY h)).2.2.1⟩
def zbV (m k:Int) (a:List UInt8):Prop:=zbs a=true∧(zam a).m=m∧(zam a).k=k∧zK (zam a)=0
theorem zt6 {c:Client} {a:List UInt8} (h:¬zbV c.m c.k a):(zaI c a).1=c∧¬(zaI c a).2=0:=by
  unfold zaI;by_cases h1:zbs a=true
  · rw[ur (fun x=>x h1)]
    by_cases h2:¬(zam a).m=c.m∨¬(zam a).k=c.k
    · rw[ut h2];exact⟨rfl,by show ¬(1:Int)=0;decide⟩
    rw[ur h2];by_cases h3:zK (zam a)=0
    · exact absurd ⟨h1,ua fun x=>h2 (.inl x),ua fun x=>h2 (.inr x),h3⟩ h
    rw[ut h3];exact⟨rfl,h3⟩
  rw[ut h1];exact⟨rfl,by show ¬(2:Int)=0;decide⟩
theorem zpm {c:Client} {a:List UInt8} (h:zbV c.m c.k a) (hh:c.have_=false):zaI c a=({ c with p:=zam a,have_:=true },0):=by
  unfold zaI;rw[ur (fun x=>x h.1),ur (fun x=>x.elim (fun y=>y h.2.1) (fun y=>y h.2.2.1)),ur (fun x=>x h.2.2.2),ur (by rw[hh];decide)]
theorem give_next {c:Client} {a:List UInt8} (h:zbV c.m c.k a) (hh:c.have_=true) (hp:zK c.p=0):(zaI c a).1.have_=true∧(zaI c a).1.p=if zc1 c.p (zam a)=true then zam a else c.p:=by
  unfold zaI;rw[ur (fun x=>x h.1),ur (fun x=>x.elim (fun y=>y h.2.1) (fun y=>y h.2.2.1)),ur (fun x=>x h.2.2.2),ut hh];by_cases hb:zc1 c.p (zam a)=true
  · rw[zu7 hp h.2.2.2 hb,ut rfl,ut hb];exact⟨rfl,rfl⟩
  rw[zu6 hp h.2.2.2 hb,ur hb]
  split
  · exact⟨rfl,rfl⟩
  exact⟨hh,rfl⟩
def choM (a b:List UInt8):List Msg:=[zMsg,⟨2,0,a⟩,⟨2,0,b⟩]
structure Choice (m k:Int) (a b:List UInt8) (d:Client) (e1 e2:Int):Prop where
  h1:e1=0↔zbV m k a
  h2:¬zbV m k b→¬e2=0
  hh:d.have_=true↔(zbV m k a∨zbV m k b)
  pa:zbV m k a→¬zbV m k b→d.p=zam a
  pb:¬zbV m k a→zbV m k b→d.p=zam b
  pp:zbV m k a→zbV m k b→d.p=if zc1 (zam a) (zam b)=true then zam b else zam a
theorem zrF {c:Client} {a:List UInt8} (h:(0:Int)∈c.opn):zZ c ⟨2,0,a⟩=zaI c a:=by
  unfold zZ;rw[ur (by show ¬((0:Int)<0∨63<(0:Int)∨(2:Int)<0∨3≤(2:Int));decide),ur (by show ¬(2:Int)=0;decide),ur (by show ¬(2:Int)=1;decide),ut h]
theorem choice_is (m k:Int) (a b:List UInt8):∃e1 e2,runE (newC m k) (choM a b)=[0,e1,e2]∧Choice m k a b (runC (newC m k) (choM a b)) e1 e2:=by
  have s1:zZ (newC m k) zMsg=(⟨m,k,[0],false,zb3⟩,0):=rfl;obtain⟨c,hc⟩:∃c:Client,c=⟨m,k,[0],false,zb3⟩:=⟨_,rfl⟩;have hm:c.m=m:=by rw[hc]
  have hk:c.k=k:=by rw[hc]
  have hh:c.have_=false:=by rw[hc]
  have ho:(0:Int)∈c.opn:=by rw[hc];exact List.mem_singleton.2 rfl
  have g1:=zrF (a:=a) ho;have ho2:(0:Int)∈(zaI c a).1.opn:=by rw[(zhS c a).2.2];exact ho
  have g2:=zrF (a:=b) ho2;have hm2:(zaI c a).1.m=m:=by rw[(zhS c a).1];exact hm
  have hk2:(zaI c a).1.k=k:=by rw[(zhS c a).2.1];exact hk
  have hr:runC (newC m k) (choM a b)=(zaI (zaI c a).1 b).1:=by
    show(zZ (zZ (zZ (newC m k) zMsg).1 ⟨2,0,a⟩).1 ⟨2,0,b⟩).1=_;rw[s1];show(zZ (zZ ⟨m,k,[0],false,zb3⟩ ⟨2,0,a⟩).1 ⟨2,0,b⟩).1=_;rw[←hc,g1,g2]
  have he:runE (newC m k) (choM a b)=[0,(zaI c a).2,(zaI (zaI c a).1 b).2]:=by
    show [(zZ (newC m k) zMsg).2,(zZ (zZ (newC m k) zMsg).1 ⟨2,0,a⟩).2,(zZ (zZ (zZ (newC m k) zMsg).1 ⟨2,0,a⟩).1 ⟨2,0,b⟩).2]=_;rw[s1];show [(0:Int),(zZ ⟨m,k,[0],false,zb3⟩ ⟨2,0,a⟩).2,(zZ (zZ ⟨m,k,[0],false,zb3⟩ ⟨2,0,a⟩).1 ⟨2,0,b⟩).2]=_;rw[←hc,g1,g2]
  refine⟨_,_,he,?_⟩;rw[hr];by_cases ha:zbV m k a
  · have f1:=zpm (c:=c) (a:=a) (by rw[hm,hk];exact ha) hh
    have e1:(zaI c a).1.have_=true:=by rw[f1]
    have e2:(zaI c a).1.p=zam a:=by rw[f1]
    by_cases hb:zbV m k b
    · have f2:=give_next (c:=(zaI c a).1) (a:=b) (by rw[hm2,hk2];exact hb) e1 (by rw[e2];exact ha.2.2.2)
      rw[e2] at f2;exact⟨⟨fun _=>ha,fun _=>by rw[f1]⟩,fun h=>absurd hb h,⟨fun _=>.inl ha,fun _=>f2.1⟩,fun _ h=>absurd hb h,fun h=>absurd ha h,fun _ _=>f2.2⟩
    have f2:=zt6 (c:=(zaI c a).1) (a:=b) (by rw[hm2,hk2];exact hb);exact⟨⟨fun _=>ha,fun _=>by rw[f1]⟩,fun _=>f2.2,⟨fun _=>.inl ha,fun _=>by rw[f2.1];exact e1⟩,fun _ _=>by rw[f2.1];exact e2,fun h=>absurd ha h,fun _ h=>absurd h hb⟩
  have f1:=zt6 (c:=c) (a:=a) (by rw[hm,hk];exact ha);by_cases hb:zbV m k b
  · have f2:=zpm (c:=(zaI c a).1) (a:=b) (by rw[hm2,hk2];exact hb) (by rw[f1.1];exact hh)
    exact⟨⟨fun h=>absurd h f1.2,fun h=>absurd h ha⟩,fun h=>absurd hb h,⟨fun _=>.inr hb,fun _=>by rw[f2]⟩,fun h=>absurd h ha,fun _ _=>by rw[f2],fun h=>absurd h ha⟩
  have f2:=zt6 (c:=(zaI c a).1) (a:=b) (by rw[hm2,hk2];exact hb);refine⟨⟨fun h=>absurd h f1.2,fun h=>absurd h ha⟩,fun _=>f2.2,⟨fun h=>?_,fun h=>h.elim (fun h=>absurd h ha) (fun h=>absurd h hb)⟩,fun h=>absurd h ha,fun _ h=>absurd h hb,fun h=>absurd h ha⟩;rw[f2.1,f1.1,hh] at h;cases h
theorem cho_msgs {a b:List UInt8} (ha:a.length≤6000) (hb:b.length≤6000):zhm (choM a b):=⟨by show 3≤100;decide,fun x hx=>by
  simp only[choM,List.mem_cons,List.not_mem_nil,or_false] at hx;rcases hx with rfl|rfl|rfl
  · decide
  · show a.length≤_;omega
  show b.length≤_;omega⟩
theorem zkc (c:Client) (l:List Msg):Tells P 29 [.val zE c,.val (bsl msgT) l] (.val zl (zgb c l)):=by
 refine zd Tryz.func29 rfl rfl rfl (fun ext w hext=>?_);refine ze (d:=1) rfl zm (fun hsl1=>?_);refine qah ?_;refine qbO ?_;refine qcq ?_;refine Lp (ι:=Nat) 1 (fun (i:Nat)=>(((Fr.none).set 1 (.val (bsl msgT) l)).set 2 (.ptr 0 0)).set 5 (.val i64T (i:Int))) (fun (i:Nat)=>(Hp.none).set 0 (.box 29 zE c)) (fun (i:Nat)=>i≤l.length∧(l.take i).all (fun x=>decide (x.raw.length≤6000))=true) (fun (i:Nat)=>l.length-i) (0) (⟨uf _,rfl⟩) ?_;intro i hinv;refine CQQR ?_;refine qav ?_;refine A0 (zN rfl rfl zls) ?_;refine qbr ?_;refine Cf (p:=i<l.length) (fun ht10=>?_) (fun ht10=>?_)
 ·
  obtain⟨x,hx⟩:∃x,l[i]?=some x:=⟨_,ub ht10⟩;refine CSQBQR ?_;refine qav ?_;refine A0 (zV (i:=i) rfl rfl rfl ya ze9 yj) ?_;refine A0 (oFr zem zeV) ?_;refine A0 (zf rfl rfl zcx) ?_;refine qbE ?_;refine qcL ?_;refine Cf (p:=6000<x.raw.length) (fun ht19=>?_) (fun ht19=>?_)
  ·
   refine qa3 ?_;exact zb rfl rfl (za rfl ((by symm;unfold zgb;rw[Bool.and_eq_false_iff];left;rw[List.all_eq_false];exact⟨x,ud hx,by simp;omega⟩)))
  refine qa2 ?_;exact Nx (i+1) (⟨by omega,by rw[un,hx,List.all_append,hinv.2];simp;omega⟩) ya
 have hal:=hinv.2;rw[uc ya] at hal;refine CE ?_;refine CQR ?_;refine A0 (oFp za8) ?_;refine A0 (oLb zb2 zaD) ?_;refine A0 (oCl (fewPr_ok c.p) rfl fn_81 yd) ?_;refine qbv ?_;refine zo (d:=24) (p:=zoM c.p=true) rfl yA (fun g24=>?_) (fun g24=>?_)
 ·
  refine qbl ?_;refine A1 zgV ?_;refine qaf ?_;refine Sp (d:=30) (p:=c.opn.length≤12) (fun g30=>?_) (fun g30=>?_)
  ·
   refine qcV ?_;refine A1 (zN rfl rfl zls) ?_;refine A1 zgV ?_;refine qa6 ?_;exact zb rfl rfl (za rfl ((by unfold zgb;rw[hal,g24,ui g30,Bool.true_and,Bool.true_and,Bool.true_and,uo];simp only[IntL.toI,id_eq];omega)))
  refine qaa ?_;refine qa6 ?_;exact zb rfl rfl (za rfl ((by unfold zgb;rw[uh g30];simp)))
 refine qaa ?_;refine qa8 ?_;refine qa6 ?_;exact zb rfl rfl (za rfl ((by unfold zgb;simp[g24])))
theorem ziy:Tells P 28 [] (.val zl true):=by
 refine zd Tryz.func28 rfl rfl rfl (fun ext w hext=>?_);have hl0:([9,0,0]:List Int)[0]?=some 9:=rfl;have hl1:([9,0,0]:List Int)[1]?=some 0:=rfl;have hl2:([9,0,0]:List Int)[2]?=some 0:=rfl;refine CQR ?_;refine qaj ?_;refine A0 (oCl (znb 1 1) rfl fn_14 ye) ?_;refine qa4 ?_;refine zi (d:=13) (y:=newC 1 1) rfl (rfl) ?_;refine qaD ?_;refine zi (d:=14) (y:=true) rfl (rfl) ?_;refine qaJ ?_;refine qaj ?_;refine A0 (oCl (two_ok) rfl fn_46 trivial) ?_;refine A0 (oCl (zo8 [zcZ,zbm] 1 1 zmJ) rfl fn_47 yaf) ?_;refine qa4 ?_;refine zi (d:=18) (y:=zdG) rfl (easy_pr) ?_;refine qaD ?_;refine qbC ?_;refine qas ?_;refine qaj ?_;refine qaU ?_;refine A0 (oCl (pput_ok zdG) rfl fn_43 yd) ?_;refine qaN ?_;refine zi (d:=24) (y:=true) rfl (zit) ?_;refine A0 aV ?_;refine qaj ?_;refine qcw ?_;refine A0 (zy rfl zhp ziJ (.cons zbr zax ty_3 rfl (.cons za1 zaM ty_3 rfl (.cons zem zeV zcx rfl .nil))) rfl) ?_;refine A0 (zy rfl zhp ziJ (.cons za1 zaM ty_3 rfl .nil) rfl) ?_;refine qa7 ?_;refine A0 (zy rfl zhp ziJ (.cons zbr zax ty_3 rfl (.cons za1 zaM ty_3 rfl (.cons zem zeV zcx rfl .nil))) rfl) ?_;refine A0 (zL (T:=msgT) (xs:=[_,_,_]) rfl ze9 zgq yaA rfl rfl) ?_;refine zi (d:=32) (y:=zsX (zja zdG)) rfl (rfl) ?_;refine A0 (oCl (zc8 (newC 1 1) (zsX (zja zdG)) (zgs 1 1) easy_msgs) rfl zk3 ye) ?_;refine qa4 ?_;refine zi (d:=34) (y:=zl0) rfl (zv4.1) ?_;refine qaD ?_;refine zi (d:=35) (y:=([9,0,0]:List Int)) rfl (zv4.2) ?_;refine qaJ ?_;refine qaj ?_;refine qaB ?_;refine A0 (oCl (zra zl0 1 zui) rfl fn_26 ye) ?_;refine qa4 ?_;refine zi (d:=39) (y:=(⟨zbm.h,[id0]⟩:Part)) rfl (easy_atP) ?_;refine qaD ?_;refine zi (d:=40) (y:=true) rfl (zsW) ?_;refine qaI ?_;refine qbv ?_;refine zar (d:=42) rfl (rfl) ?_;refine qcV ?_;refine qaf ?_;refine zar (d:=45) rfl (rfl) ?_;refine qcV ?_;refine A1 (zN rfl rfl znp) ?_;refine A1 zaH ?_;refine qaf ?_;refine zar (d:=50) rfl (rfl) ?_;refine qcV ?_;refine A1 (zV (i:=0) rfl rfl rfl ya zpX yj) ?_;refine A1 (zf rfl rfl zrv) ?_;refine A1 zaH ?_;refine qaf ?_;refine zar (d:=56) rfl (rfl) ?_;refine qcV ?_;refine A1 (zV (i:=1) rfl rfl rfl ya zpX yj) ?_;refine A1 (zf rfl rfl zrv) ?_;refine A1 zaH ?_;refine qaf ?_;refine zar (d:=62) rfl (rfl) ?_;refine qcV ?_;refine A1 (zV (i:=2) rfl rfl rfl ya zpX yj) ?_;refine A1 (zf rfl rfl zrv) ?_;refine A1 zaH ?_;refine qaf ?_;refine zar (d:=68) rfl (rfl) ?_;refine qaW ?_;refine qaf ?_;refine zar (d:=72) rfl (rfl) ?_;refine qcV ?_;refine qaf ?_;refine zar (d:=75) rfl (rfl) ?_;refine A1 (oFp za7) ?_;refine A1 (oFp zcf) ?_;refine A1 (oLb (zaV.comp zaa) ty_3) ?_;refine A1 zaH ?_;refine qaf ?_;refine zar (d:=81) rfl (rfl) ?_;refine qcJ ?_;refine A1 (oCl (zdN zl0 zl0) rfl zsO ye) ?_;refine qa6 ?_;exact zb rfl rfl (za rfl yA)
theorem ztr (m k h:Int):Tells P 5 [.val i64T m,.val i64T k,.val i64T h] (.val zl true):=by
 have hna:=zvk m k;refine zd Tryz.func5 rfl rfl rfl (fun ext w hext=>?_);refine ze (d:=0) rfl zu (fun hin0=>?_);refine ze (d:=1) rfl zu (fun hin1=>?_);refine ze (d:=2) rfl zu (fun hin2=>?_);refine qb6 ?_;refine A0 (oCl (zra (newR m k) h hna.2.2) rfl fn_26 ye) ?_;refine qaN ?_;refine zi (d:=25) (y:=false) rfl (newR_at m k h) ?_;refine qaI ?_;refine qaL ?_;refine A0 zfb ?_;refine qa7 ?_;refine Sp (d:=28) (p:=1≤m) (fun g28=>?_) (fun g28=>?_)
 ·
  refine qcV ?_;refine A1 zgV ?_;refine qaf ?_;refine Sp (d:=32) (p:=m≤20) (fun g32=>?_) (fun g32=>?_)
  ·
   refine qcV ?_;refine A1 zfb ?_;refine qaf ?_;refine Sp (d:=36) (p:=1≤k) (fun g36=>?_) (fun g36=>?_)
   ·
    refine qcV ?_;refine A1 zgV ?_;refine Sp (d:=38) (p:=k≤20) (fun g38=>?_) (fun g38=>?_)
    ·
     refine qba ?_;refine zw (d:=47) rfl (by rw[zjW g28 g32 g36 g38];rfl) ?_;refine qcd ?_;refine zw (d:=54) rfl (by rw[hna.1]) ?_;refine qbl ?_;refine A1 zcQ ?_;refine qau ?_;refine zae rfl ybL ?_;refine qc4 ?_;refine qcS ?_;refine zw (d:=62) rfl (by rw[zjW g28 g32 g36 g38];rfl) ?_;refine A1 (oFp zh0) ?_;refine A1 (oLb ziG ty_3) ?_;refine qcV ?_;refine A1 zaH ?_;refine qcV ?_;refine zar (d:=67) rfl (by rw[(zjV (zjW g28 g32 g36 g38)).1];simp[newC,IntL.toI]) ?_;refine A1 (oFp zgg) ?_;refine A1 (oLb zfs ty_3) ?_;refine qcV ?_;refine A1 zaH ?_;refine A1 oK ?_;refine qa6 ?_;exact zb rfl rfl (za rfl (by rw[(zjV (zjW g28 g32 g36 g38)).1];simp[newC,IntL.toI]))
    refine qba ?_;refine zw (d:=47) rfl yay ?_;refine qcd ?_;refine zw (d:=54) rfl (by rw[hna.1]) ?_;refine qbl ?_;refine A1 zcQ ?_;refine qau ?_;refine zae rfl ybL ?_;refine qc4 ?_;refine qcS ?_;refine zar (d:=62) rfl yay ?_;refine qaa ?_;refine qam ?_;refine qa6 ?_;exact zb rfl rfl (za rfl (rfl))
   refine qbm ?_;refine qba ?_;refine zw (d:=47) rfl yay ?_;refine qcd ?_;refine zw (d:=54) rfl (by rw[hna.1]) ?_;refine qbl ?_;refine A1 zcQ ?_;refine qau ?_;refine zae rfl ybL ?_;refine qc4 ?_;refine qcS ?_;refine zar (d:=62) rfl yay ?_;refine qaa ?_;refine qam ?_;refine qa6 ?_;exact zb rfl rfl (za rfl (rfl))
  refine qcA ?_;refine qba ?_;refine zw (d:=47) rfl yay ?_;refine qcd ?_;refine zw (d:=54) rfl (by rw[hna.1]) ?_;refine qbl ?_;refine A1 zcQ ?_;refine qau ?_;refine zae rfl ybL ?_;refine qc4 ?_;refine qcS ?_;refine zar (d:=62) rfl yay ?_;refine qaa ?_;refine qam ?_;refine qa6 ?_;exact zb rfl rfl (za rfl (rfl))
 refine qcA ?_;refine qaf ?_;refine qbm ?_;refine qba ?_;refine zw (d:=47) rfl yay ?_;refine qcd ?_;refine zw (d:=54) rfl (by rw[hna.1]) ?_;refine qbl ?_;refine A1 zcQ ?_;refine qau ?_;refine zae rfl ybL ?_;refine qc4 ?_;refine qcS ?_;refine zar (d:=62) rfl yay ?_;refine qaa ?_;refine qam ?_;refine qa6 ?_;exact zb rfl rfl (za rfl (rfl))
theorem zuC (c:Client) (h n i:Int) (tx:Ab.Id) (path:List Ab.Id):Tells P 11 [.val zE c,.val i64T h,.val i64T n,.val i64T i,.val idT tx,.val (sl idT) path] (.val zl true):=by
 refine zd Tryz.func11 rfl rfl rfl (fun ext w hext=>?_);refine ze (d:=1) rfl zu (fun hin1=>?_);refine ze (d:=2) rfl zu (fun hin2=>?_);refine ze (d:=3) rfl zu (fun hin3=>?_);refine ze (d:=5) rfl zm (fun hsl5=>?_);refine qaA ?_;refine qaj ?_;refine A0 (oCl (ziy) rfl fn_28 trivial) ?_;refine qaj ?_;refine qaB ?_;refine A0 (oCl (zkc c []) rfl fn_29 ⟨yn,yb,trivial⟩) ?_;refine qap ?_;refine qcS ?_;refine zw (d:=24) rfl (rfl) ?_;refine qcV ?_;refine A1 oN ?_;refine qaf ?_;refine zo (d:=28) (p:=zgb c []=false) rfl (by cases zgb c []<;>rfl) (fun g28=>?_) (fun g28=>?_)
 ·
  refine qcU ?_;refine Ct ?_;refine qb4 ?_;exact zb rfl rfl (za rfl (rfl))
 have hsm:=(zkd (zhY g28)).1;have hc1:=hsm.1.1;refine qcV ?_;refine A1 (zN rfl rfl zfA) ?_;refine A1 zbH ?_;refine qau ?_;refine Cf (p:=12<path.length) (fun ht32=>?_) (fun ht32=>?_)
 ·
  refine qb4 ?_;exact zb rfl rfl (za rfl (rfl))
 refine CSQR ?_;refine qcw ?_;refine A0 (oCl (zra c h hsm) rfl fn_26 ye) ?_;refine qaN ?_;refine qaI ?_;refine qaj ?_;refine qaB ?_;refine qav ?_;refine qa7 ?_;refine qbG ?_;refine qa7 ?_;refine A0 (oCl (sure22_ok c h n i tx path hsm) rfl fn_40 ⟨yn,yn,yn,yn,yn,yn,trivial⟩) ?_;refine qap ?_;refine qb3 ?_;refine zn (p:=¬atOk c h=true) rfl yA (fun ht48=>?_) (fun ht48=>?_)
 ·
  refine qaE ?_;refine qcS ?_;refine zar (d:=51) rfl (by unfold ztA;simp[ht48]) ?_;refine A1 (oFp za7) ?_;refine A1 (oLb zaV zaX) ?_;refine A1 (zy rfl zon bd_55 .nil rfl) ?_;refine A1 (ziU rfl rfl rfl (zlz)) ?_;refine qaf ?_;refine zar (d:=57) rfl (by rw[at_no ht48];simp;rfl) ?_;refine A1 (oFp zbz) ?_;refine A1 (oLb zbC zcc) ?_;refine A1 (zN rfl rfl zfA) ?_;refine A1 zaH ?_;refine qa6 ?_;exact zb rfl rfl (za rfl (by rw[at_no ht48];rfl))
 have hyo:=ua ht48;have hya:=at_yes hyo;have hpl:=hya.2.2.2;obtain⟨y,hy⟩:∃y,c.p.p[c.p.p.length-1]?=some y:=yB;have hlast:c.p.p.getD (c.p.p.length-1) zrn=y:=ybl;refine CSQQR ?_;refine A0 (oFp zfG) ?_;refine A0 (oLb zds ty_4) ?_;refine qcS ?_;refine zw (d:=66) rfl (by rw[hya.1];rfl) ?_;refine A1 (oFp za7) ?_;refine A1 (oFp zcf) ?_;refine A1 (oLb (zaV.comp zaa) ty_3) ?_;refine qcV ?_;refine A1 zcQ ?_;refine qaf ?_;refine zw (d:=73) rfl (by rw[hya.2.1];simp[IntL.toI]) ?_;refine A1 (oFp za8) ?_;refine A1 (oFp zag) ?_;refine A1 (oLb (zb2.comp zao) zci) ?_;refine A1 (zN rfl rfl zb5) ?_;refine A1 zaH ?_;refine qau ?_;refine zae rfl (uh yy) ?_;refine CS ?_;refine qb0 ?_;refine G0 mV ?_;refine G0 (oFp za8) ?_;refine G0 (oFp zag) ?_;refine G0 (oLb (zb2.comp zao) zci) ?_;refine G0 (oFp za8) ?_;refine G0 (oFp zag) ?_;refine G0 (oLb (zb2.comp zao) zci) ?_;refine G0 (zN rfl rfl zb5) ?_;refine G0 zbT ?_;refine G0 (zV (i:=c.p.p.length-1) rfl rfl rfl ya zdV yj) ?_;refine G0 (oFr za7 zaV) ?_;refine G0 (oFr zcf zaa) ?_;refine qc8 ?_;refine G0 (oFp zgg) ?_;refine G0 (oLb zfs ty_3) ?_;refine G0 (zkX rfl rfl rfl (show _=(IntKind.i64.wrap (y.h.height-c.k):Int) from rfl)) ?_;refine G0 zgV ?_;refine qbs ?_;refine CQR ?_;refine qav ?_;refine qa7 ?_;refine Sp (d:=99) (p:=h≤IntKind.i64.wrap (y.h.height-c.k)) (fun g99=>?_) (fun g99=>?_)
 ·
  refine A1 (oFp za7) ?_;refine A1 (oFp zgf) ?_;refine A1 (oLb (zaV.comp zew) z6) ?_;refine qcV ?_;refine qcV ?_;refine A1 (oLs rfl rfl rfl z6) ?_;refine qcV ?_;refine A1 (oCl (zpE (atP c h).h.txs n i tx path) rfl fn_41 ⟨yn,yn,yn,yn,yn,trivial⟩) ?_;refine A0 oK ?_;refine A0 (zvH rfl rfl rfl ub_4) ?_;refine qae ?_;exact zb rfl rfl (za rfl (by unfold ztA;rw[hyo,hlast,ui g99];simp))
 refine qaa ?_;refine qaa ?_;refine qbm ?_;refine A0 oK ?_;refine A0 (zvH rfl rfl rfl ub_4) ?_;refine qae ?_;exact zb rfl rfl (za rfl (by unfold ztA;rw[hyo,hlast,uh g99];simp))
theorem zri (c:Client) (l:List Msg) (i:Int):Tells P 6 [.val zE c,.val (sl msgT) l,.val i64T i] (.val zl true):=by
 refine zd Tryz.func6 rfl rfl rfl (fun ext w hext=>?_);refine ze (d:=1) rfl zm (fun hsl1=>?_);refine ze (d:=2) rfl zu (fun hin2=>?_);refine qah ?_;refine qaj ?_;refine A0 (oCl (ziy) rfl fn_28 trivial) ?_;refine qaj ?_;refine qcw ?_;refine A0 (oCl (zkc c l) rfl fn_29 ye) ?_;refine qap ?_;refine qcS ?_;refine zw (d:=21) rfl (rfl) ?_;refine qcV ?_;refine A1 oN ?_;refine qaf ?_;refine zo (d:=25) (p:=zgb c l=false) rfl (by cases zgb c l<;>rfl) (fun g25=>?_) (fun g25=>?_)
 ·
  refine qc1 ?_;refine qcm ?_;refine Ct ?_;refine qb4 ?_;exact zb rfl rfl (za rfl (rfl))
 obtain⟨hsm,hms,hll,_⟩:=zkd (zhY g25);refine qcV ?_;refine A1 zcy ?_;refine qaf ?_;refine Sp (d:=29) (p:=i<0) (fun g29=>?_) (fun g29=>?_)
 ·
  refine qaa ?_;refine qcm ?_;refine Ct ?_;refine qb4 ?_;exact zb rfl rfl (za rfl (rfl))
 refine qcV ?_;refine qcV ?_;refine A1 (zN rfl rfl zls) ?_;refine A1 zfb ?_;refine qau ?_;refine Cf (p:=(l.length:Int)≤i) (fun ht34=>?_) (fun ht34=>?_)
 ·
  refine qb4 ?_;exact zb rfl rfl (za rfl (rfl))
 obtain⟨I,rfl⟩:∃I:Nat,i=I:=⟨i.toNat,by omega⟩;obtain⟨x,hx⟩:∃x,l[I]?=some x:=yB;obtain⟨e,he⟩:∃e,(runE c l)[I]?=some e:=⟨_,ub (by rw[zez];omega)⟩;have hxm:=ud hx;have hlT:=List.length_take_le I l;have hm1:zhm (l.take I++l.drop (I+1)):=zmb hms yK (fun y hy=>(List.mem_append.1 hy).elim List.mem_of_mem_take List.mem_of_mem_drop);have hm2:zhm (l.take (I+1)++[x]++l.drop (I+1)):=zmb hms yK (fun y hy=>(List.mem_append.1 hy).elim (fun hy=>(List.mem_append.1 hy).elim List.mem_of_mem_take (fun hy=>by rw[List.mem_singleton.1 hy];exact hxm)) List.mem_of_mem_drop);refine CSQR ?_;refine qcw ?_;refine A0 (oCl (zc8 c l hsm hms) rfl zk3 ye) ?_;refine qaN ?_;refine qaJ ?_;refine qaQ ?_;refine zq6 14 (.box 29 zE zeb) [some 1000001,some 1,some 1,some 1,none,some 2,some 2,some 2,some 2,none,some 1,some 1,some 1,some 1000001,some 1000003,none,some 1] mixed yc rfl ?_;refine XKF.gf (t:=3) rfl rfl rfl (fun _ he=>zr rfl rfl he (Lens.self _) zbv) rfl rfl ⟨rfl,trivial⟩ rfl rfl rfl ?_;refine xE ?_;refine xE ?_;refine XKF.g rfl yW yW rfl rfl rfl rfl ?_;refine XKF.e rfl (fun fr' hfr kk H=>by exact zgH rfl rfl rfl rfl rfl ((hfr 46 yc).trans rfl) zgq yL (zt H)) (EffA.conv (fun fr' hfr kk H=>by exact zgH rfl rfl rfl rfl rfl ((hfr 46 yc).trans rfl) zgq yL (zt H)) y5) yai yai yai (by (repeat refine zi1 ?_ rfl);exact fun _ _=>rfl) ?_;refine XKF.ga rfl (fun _=>g_mv (.inl rfl) rfl) rfl rfl rfl rfl ?_;refine XKF.ga rfl (fun _=>g_mv (.inl rfl) rfl) rfl rfl rfl rfl ?_;refine XKF.ga rfl ybd rfl rfl rfl rfl ?_;refine XKF.ga rfl (fun _=>zhh rfl rfl rfl ze9 yg) rfl rfl rfl rfl ?_;refine XKF.e rfl (fun fr' hfr kk H=>by exact zC rfl rfl rfl rfl ((hfr 47 yc).trans rfl) rfl ((hfr 51 yc).trans rfl) zgq yL (zt H)) (EffA.conv (fun fr' hfr kk H=>by exact zC rfl rfl rfl rfl ((hfr 47 yc).trans rfl) rfl ((hfr 51 yc).trans rfl) zgq yL (zt H)) y5) yai yai yai (by (repeat refine zi1 ?_ rfl);exact fun _ _=>rfl) ?_;refine XKF.g rfl (zd1 (zc8 c (l.take I++l.drop (I+1)) hsm hm1) rfl zk3 ⟨yn,(zM rfl rfl),trivial⟩ rfl) (zd1 (zc8 c (l.take I++l.drop (I+1)) hsm hm1) rfl zk3 ⟨yn,(zM rfl rfl),trivial⟩ rfl) rfl rfl rfl rfl ?_;refine XKF.g rfl yx yx rfl rfl rfl rfl ?_;refine XKF.g rfl yS yS rfl rfl rfl rfl ?_;refine XKF.ga rfl yR rfl rfl rfl rfl ?_;refine XKF.f rfl zi2 rfl rfl rfl rfl rfl rfl ?_;refine XKF.ew (x:=.idk) rfl yc (fun fr' hfr kk H=>by exact zg rfl rfl rfl ((hfr 11 yc).trans rfl) rfl (Lens.self _) zbv ((hfr 54 yc).trans rfl) (zt H)) yai (by (repeat refine zi1 ?_ rfl);exact fun _ _=>rfl) ?_;refine XKF.gw rfl yc (g_mv (.inr rfl) rfl) rfl rfl rfl ?_;refine XKF.nilp ⟨⟨hpB rfl rfl,hpB rfl rfl,hpB rfl rfl,trivial⟩,trivial⟩ ?_;refine CQ ?_;refine zq6 21 (.box 29 zE zeb) [some 1000001,some 1,some 1,some 1,some 1,none,some 2,some 2,some 2,some 2,some 2,none,some 3,some 3,some 3,some 3,none,some 1,some 1,some 1,some 1000001,some 1000004,none,some 1] mixed yc rfl ?_;refine XKF.gf (t:=3) rfl rfl rfl (fun _ he=>zr rfl rfl he (Lens.self _) zbv) rfl rfl ⟨rfl,trivial⟩ rfl rfl rfl ?_;refine xE ?_;refine xE ?_;refine XKF.g rfl ybm ybm rfl rfl rfl rfl ?_
 refine XKF.g rfl yW yW rfl rfl rfl rfl ?_;refine XKF.e rfl (fun fr' hfr kk H=>by exact zgH rfl rfl rfl rfl rfl ((hfr 61 yc).trans rfl) zgq yL (zt H)) (EffA.conv (fun fr' hfr kk H=>by exact zgH rfl rfl rfl rfl rfl ((hfr 61 yc).trans rfl) zgq yL (zt H)) y5) yai yai yai (by (repeat refine zi1 ?_ rfl);exact fun _ _=>rfl) ?_;refine XKF.ga rfl (fun _=>g_mv (.inl rfl) rfl) rfl rfl rfl rfl ?_;refine XKF.ga rfl (fun _=>g_mv (.inl rfl) rfl) rfl rfl rfl rfl ?_;refine XKF.ga rfl (fun _=>zV (i:=I) rfl rfl rfl ya ze9 yj) rfl rfl rfl rfl ?_;refine XKF.ga rfl (fun _=>zf rfl rfl zmx) rfl rfl rfl rfl ?_;refine XKF.ga rfl (fun _=>zL (T:=msgT) (xs:=[_]) rfl ze9 zgq yE rfl rfl) rfl rfl rfl rfl ?_;refine XKF.e rfl (fun fr' hfr kk H=>by exact zC rfl rfl rfl rfl ((hfr 62 yc).trans rfl) rfl ((hfr 67 yc).trans rfl) zgq yL (zt H)) (EffA.conv (fun fr' hfr kk H=>by exact zC rfl rfl rfl rfl ((hfr 62 yc).trans rfl) rfl ((hfr 67 yc).trans rfl) zgq yL (zt H)) y5) yai yai yai (by (repeat refine zi1 ?_ rfl);exact fun _ _=>rfl) ?_;refine XKF.ga rfl (fun _=>g_mv (.inl rfl) rfl) rfl rfl rfl rfl ?_;refine XKF.ga rfl (fun _=>g_mv (.inl rfl) rfl) rfl rfl rfl rfl ?_;refine XKF.ga rfl ybd rfl rfl rfl rfl ?_;refine XKF.ga rfl (fun _=>zhh rfl rfl rfl ze9 yg) rfl rfl rfl rfl ?_;refine XKF.e rfl (fun fr' hfr kk H=>by exact zC rfl rfl rfl rfl ((hfr 68 yc).trans rfl) rfl ((hfr 72 yc).trans rfl) zgq yL (zt H)) (EffA.conv (fun fr' hfr kk H=>by exact zC rfl rfl rfl rfl ((hfr 68 yc).trans rfl) rfl ((hfr 72 yc).trans rfl) zgq yL (zt H)) y5) yai yai yai (by (repeat refine zi1 ?_ rfl);exact fun _ _=>rfl) ?_;refine XKF.g rfl (zd1 (zc8 c (l.take (I+1)++[x]++l.drop (I+1)) hsm hm2) rfl zk3 ⟨yn,(zM rfl rfl),trivial⟩ rfl) (zd1 (zc8 c (l.take (I+1)++[x]++l.drop (I+1)) hsm hm2) rfl zk3 ⟨yn,(zM rfl rfl),trivial⟩ rfl) rfl rfl rfl rfl ?_;refine XKF.g rfl yx yx rfl rfl rfl rfl ?_;refine XKF.g rfl yS yS rfl rfl rfl rfl ?_;refine XKF.ga rfl yR rfl rfl rfl rfl ?_;refine XKF.f rfl zi2 rfl rfl rfl rfl rfl rfl ?_;refine XKF.ew (x:=.idk) rfl yc (fun fr' hfr kk H=>by exact zg rfl rfl rfl ((hfr 13 yc).trans rfl) rfl (Lens.self _) zbv ((hfr 75 yc).trans rfl) (zt H)) yai (by (repeat refine zi1 ?_ rfl);exact fun _ _=>rfl) ?_;refine XKF.gw rfl yc (g_mv (.inr rfl) rfl) rfl rfl rfl ?_;refine XKF.nilp ⟨⟨hpB rfl rfl,hpB rfl rfl,hpB rfl rfl,hpB rfl rfl,trivial⟩,trivial⟩ ?_;refine qbQ ?_;refine A0 (zN rfl rfl znp) ?_;refine qa7 ?_;refine A0 (zN rfl rfl zls) ?_;refine A0 zcQ ?_;refine qa7 ?_;refine zw (d:=82) rfl (by rw[zez];simp) ?_;refine qcV ?_;refine qcV ?_;refine A1 (zV (i:=I) rfl rfl rfl ya zpX yj) ?_;refine A1 (zf rfl rfl zrv) ?_;refine A1 zcQ ?_;refine qcV ?_;refine zo (d:=88) (p:=¬e=0) rfl yw (fun g88=>?_) (fun g88=>?_)
 ·
  refine qcJ ?_;refine A1 (oCl (zdN _ _) rfl zsO ye) ?_;refine A1 oN ?_;refine A1 oK ?_;refine qau ?_;refine zae rfl (by rw[run_lost hx he g88];simp) ?_;refine CSQR ?_;refine qaB ?_;refine qaB ?_;refine A0 (oCl (zdN _ _) rfl zsO ye) ?_;refine qae ?_;exact zb rfl rfl (za rfl (by rw[zrS hx];simp))
 refine qaa ?_;refine A2 ?_;refine A1 oK ?_;refine qau ?_;refine Cg ?_;refine CSQR ?_;refine qaB ?_;refine qaB ?_;refine A0 (oCl (zdN _ _) rfl zsO ye) ?_;refine qae ?_;exact zb rfl rfl (za rfl (by rw[zrS hx];simp))
theorem zto (m k:Int) (a b:List UInt8):Tells P 3 [.val i64T m,.val i64T k,.val (sl u8T) a,.val (sl u8T) b] (.val zl true):=by
 refine zd Tryz.func3 rfl rfl rfl (fun ext w hext=>?_);refine ze (d:=0) rfl zu (fun hin0=>?_);refine ze (d:=1) rfl zu (fun hin1=>?_);refine ze (d:=2) rfl zm (fun hsl2=>?_);refine ze (d:=3) rfl zm (fun hsl3=>?_);refine CQR ?_;refine qaj ?_;refine A0 (oCl (awakeT_ok) rfl fn_13 trivial) ?_;refine qbv ?_;refine A0 (oCl (znb _ _) rfl fn_14 ye) ?_;refine qaN ?_;refine qaJ ?_;refine qap ?_;refine qcS ?_;refine zw (d:=29) rfl (rfl) ?_;refine qcV ?_;refine A1 oN ?_;refine qaf ?_;refine zo (d:=33) (p:=zfS m k=false) rfl (by cases zfS m k<;>rfl) (fun g33=>?_) (fun g33=>?_)
 ·
  refine qb1 ?_;refine qau ?_;refine Ct ?_;refine qb4 ?_;exact zb rfl rfl (za rfl (rfl))
 refine qcV ?_;refine A1 (zN rfl rfl zcN) ?_;refine A1 zbH ?_;refine qaf ?_;refine Sp (d:=38) (p:=6000<a.length) (fun g38=>?_) (fun g38=>?_)
 ·
  refine qcU ?_;refine Ct ?_;refine qb4 ?_;exact zb rfl rfl (za rfl (rfl))
 refine qcV ?_;refine A1 (zN rfl rfl zcN) ?_;refine A1 zbH ?_;refine qau ?_;refine Cf (p:=6000<b.length) (fun ht42=>?_) (fun ht42=>?_)
 ·
  refine qb4 ?_;exact zb rfl rfl (za rfl (rfl))
 obtain⟨e1,e2,hes,hch⟩:=choice_is m k a b;have hl1:([0,e1,e2]:List Int)[1]?=some e1:=rfl;have hl2:([0,e1,e2]:List Int)[2]?=some e2:=rfl;have hnr:=zjV (show zfS m k=true by cases hh:zfS m k<;>simp_all);refine zF (n:=0) (y:=newC m k) rfl hnr.1 ?_;obtain⟨d,hd⟩:∃d,d=runC (newC m k) (choM a b):=⟨_,rfl⟩;rw[←hd] at hch;refine CSQR ?_;refine qaB ?_;refine A0 (zy rfl zhp ziJ .nil rfl) ?_;refine qa7 ?_;refine A0 (zy rfl zhp ziJ (.cons zbr zax ty_3 rfl (.cons zem zeV zcx rfl .nil)) rfl) ?_;refine qa7 ?_;refine A0 (zy rfl zhp ziJ (.cons zbr zax ty_3 rfl (.cons zem zeV zcx rfl .nil)) rfl) ?_;refine A0 (zL (T:=msgT) (xs:=[_,_,_]) rfl ze9 zgq yaA rfl rfl) ?_;refine zi (d:=51) (y:=choM a b) rfl (rfl) ?_;refine A0 (oCl (zc8 (newC m k) (choM a b) (zgs m k) (cho_msgs ya ya)) rfl zk3 ye) ?_;refine qa4 ?_;refine zi (d:=53) (y:=d) rfl (hd.symm) ?_;refine qaD ?_;refine zi (d:=54) (y:=([0,e1,e2]:List Int)) rfl (hes) ?_;refine qaJ ?_;refine qaL ?_;refine A0 (oCl (zcu a ya) rfl zjf yd) ?_;refine qaN ?_;refine qbC ?_;refine qas ?_;refine qaL ?_;refine A0 (oCl (zcu b ya) rfl zjf yd) ?_;refine qaN ?_;refine qbC ?_;refine qas ?_;refine qbv ?_;refine zo (d:=66) (p:=zbs a=true) rfl yA (fun g66=>?_) (fun g66=>?_)
 ·
  refine qaY ?_;refine zo (d:=72) (p:=(zam a).m=m) rfl yw (fun g72=>?_) (fun g72=>?_)
  ·
   refine qaZ ?_;refine zo (d:=78) (p:=(zam a).k=k) rfl yw (fun g78=>?_) (fun g78=>?_)
   ·
    refine qaM ?_;refine zo (d:=81) (p:=zK (zam a)=0) rfl yw (fun g81=>?_) (fun g81=>?_)
    ·
     have hX:zbV m k a:=⟨g66,g72,g78,g81⟩;refine A0 oK ?_;refine qbv ?_;refine zo (d:=84) (p:=zbs b=true) rfl yA (fun g84=>?_) (fun g84=>?_)
     ·
      refine qaY ?_;refine zo (d:=90) (p:=(zam b).m=m) rfl yw (fun g90=>?_) (fun g90=>?_)
      ·
       refine qaZ ?_;refine zo (d:=96) (p:=(zam b).k=k) rfl yw (fun g96=>?_) (fun g96=>?_)
       ·
        refine qaM ?_;refine zo (d:=99) (p:=zK (zam b)=0) rfl yw (fun g99=>?_) (fun g99=>?_)
        ·
         have hY:zbV m k b:=⟨g84,g90,g96,g99⟩;refine qaC ?_;refine zw (d:=112) rfl yZ ?_;refine qb8 ?_;refine zw (d:=121) rfl yak ?_;refine qbN ?_;refine Cg ?_;refine qbM ?_;refine Cg ?_;refine qcH ?_;have hla:=(zgv hX.2.2.2).1;have hlb:=(zgv hY.2.2.2).1;refine CR ?_;refine qaU ?_;refine qaU ?_;refine A0 (oCl (ztd (zam a) (zam b) hla hlb) rfl fn_19 ye) ?_;refine qaN ?_;refine A0 aV ?_;refine qbv ?_;refine zo (d:=165) (p:=zc1 (zam a) (zam b)=true) rfl yA (fun g165=>?_) (fun g165=>?_)
         ·
          refine qa1 ?_;refine qaf ?_;refine zar (d:=171) rfl (by rw[hch.pp hX hY,ut g165];simp) ?_;refine qaa ?_;refine A3 ?_;refine A3 ?_;refine A3 ?_;refine A3 ?_;refine A2 ?_;refine qa6 ?_;exact zb rfl rfl (za rfl (rfl))
         refine qaa ?_;refine A2 ?_;refine qaf ?_;refine qcV ?_;refine A1 oN ?_;refine qcV ?_;refine zar (d:=174) rfl (by rw[show zc1 (zam a) (zam b)=false by cases hh:zc1 (zam a) (zam b)<;>simp_all];rfl) ?_;refine qa1 ?_;refine A1 oK ?_;refine qa6 ?_;exact zb rfl rfl (za rfl (by rw[hch.pp hX hY,ur g165];simp))
        have hY:¬zbV m k b:=fun h=>g99 h.2.2.2
        refine qaC ?_;refine zw (d:=112) rfl yZ ?_;refine qb8 ?_;refine zw (d:=121) rfl yak ?_;refine qag ?_;refine xF ?_;refine qbM ?_;refine Ct ?_;refine qat ?_;refine zw (d:=140) rfl yak ?_;refine qcV ?_;refine qcV ?_;refine qa1 ?_;refine A1 oK ?_;refine qaf ?_;refine zar (d:=149) rfl ybG ?_;refine qam ?_;refine qa6 ?_;exact zb rfl rfl (za rfl (rfl))
       have hY:¬zbV m k b:=fun h=>g96 h.2.2.1
       refine qaa ?_;refine qaC ?_;refine zw (d:=112) rfl yZ ?_;refine qb8 ?_;refine zw (d:=121) rfl yak ?_;refine qag ?_;refine xF ?_;refine qbM ?_;refine Ct ?_;refine qat ?_;refine zw (d:=140) rfl yak ?_;refine qcV ?_;refine qcV ?_;refine qa1 ?_;refine A1 oK ?_;refine qaf ?_;refine zar (d:=149) rfl ybG ?_;refine qam ?_;refine qa6 ?_;exact zb rfl rfl (za rfl (rfl))
      have hY:¬zbV m k b:=fun h=>g90 h.2.1
      refine qaa ?_;refine qa8 ?_;refine qaC ?_;refine zw (d:=112) rfl yZ ?_;refine qb8 ?_;refine zw (d:=121) rfl yak ?_;refine qag ?_;refine xF ?_;refine qbM ?_;refine Ct ?_;refine qat ?_;refine zw (d:=140) rfl yak ?_;refine qcV ?_;refine qcV ?_;refine qa1 ?_;refine A1 oK ?_;refine qaf ?_;refine zar (d:=149) rfl ybG ?_;refine qam ?_;refine qa6 ?_;exact zb rfl rfl (za rfl (rfl))
     have hY:¬zbV m k b:=fun h=>g84 h.1
     refine qaa ?_;refine qao ?_;refine qaC ?_;refine zw (d:=112) rfl yZ ?_;refine qb8 ?_;refine zw (d:=121) rfl yak ?_;refine qag ?_;refine xF ?_;refine qbM ?_;refine Ct ?_;refine qat ?_;refine zw (d:=140) rfl yak ?_;refine qcV ?_;refine qcV ?_;refine qa1 ?_;refine A1 oK ?_;refine qaf ?_;refine zar (d:=149) rfl ybG ?_;refine qam ?_;refine qa6 ?_;exact zb rfl rfl (za rfl (rfl))
    have hX:¬zbV m k a:=fun h=>g81 h.2.2.2
    refine A0 oK ?_;refine qbv ?_;refine zo (d:=84) (p:=zbs b=true) rfl yA (fun g84=>?_) (fun g84=>?_)
    ·
     refine qaY ?_;refine zo (d:=90) (p:=(zam b).m=m) rfl yw (fun g90=>?_) (fun g90=>?_)
     ·
      refine qaZ ?_;refine zo (d:=96) (p:=(zam b).k=k) rfl yw (fun g96=>?_) (fun g96=>?_)
      ·
       refine qaM ?_;refine zo (d:=99) (p:=zK (zam b)=0) rfl yw (fun g99=>?_) (fun g99=>?_)
       ·
        have hY:zbV m k b:=⟨g84,g90,g96,g99⟩;refine qaC ?_;refine xG ?_;refine qal ?_;refine zw (d:=121) rfl yaq ?_;refine qbN ?_;refine Cg ?_;refine qax ?_;refine Ct ?_;refine qat ?_;refine zw (d:=140) rfl yaq ?_;refine qb9 ?_;exact zb rfl rfl (za rfl ybF)
       have hY:¬zbV m k b:=fun h=>g99 h.2.2.2
       refine qaC ?_;refine xG ?_;refine qal ?_;refine xH ?_;refine qag ?_;refine xF ?_;refine qax ?_;refine Ct ?_;refine qat ?_;refine xI ?_;refine qbh ?_;exact zb rfl rfl (za rfl (rfl))
      have hY:¬zbV m k b:=fun h=>g96 h.2.2.1
      refine qaa ?_;refine qaC ?_;refine xG ?_;refine qal ?_;refine xH ?_;refine qag ?_;refine xF ?_;refine qax ?_;refine Ct ?_;refine qat ?_;refine xI ?_;refine qbh ?_;exact zb rfl rfl (za rfl (rfl))
     have hY:¬zbV m k b:=fun h=>g90 h.2.1
     refine qaa ?_;refine qa8 ?_;refine qaC ?_;refine xG ?_;refine qal ?_;refine xH ?_;refine qag ?_;refine xF ?_;refine qax ?_;refine Ct ?_;refine qat ?_;refine xI ?_;refine qbh ?_;exact zb rfl rfl (za rfl (rfl))
    have hY:¬zbV m k b:=fun h=>g84 h.1
    refine qaa ?_;refine qao ?_;refine qaC ?_;refine xG ?_;refine qal ?_;refine xH ?_;refine qag ?_;refine xF ?_;refine qax ?_;refine Ct ?_;refine qat ?_;refine xI ?_;refine qbh ?_;exact zb rfl rfl (za rfl (rfl))
   have hX:¬zbV m k a:=fun h=>g78 h.2.2.1
   refine qaa ?_;refine A0 oK ?_;refine qbv ?_;refine zo (d:=84) (p:=zbs b=true) rfl yA (fun g84=>?_) (fun g84=>?_)
   ·
    refine qaY ?_;refine zo (d:=90) (p:=(zam b).m=m) rfl yw (fun g90=>?_) (fun g90=>?_)
    ·
     refine qaZ ?_;refine zo (d:=96) (p:=(zam b).k=k) rfl yw (fun g96=>?_) (fun g96=>?_)
     ·
      refine qaM ?_;refine zo (d:=99) (p:=zK (zam b)=0) rfl yw (fun g99=>?_) (fun g99=>?_)
      ·
       have hY:zbV m k b:=⟨g84,g90,g96,g99⟩;refine qaC ?_;refine xG ?_;refine qal ?_;refine zw (d:=121) rfl yaq ?_;refine qbN ?_;refine Cg ?_;refine qax ?_;refine Ct ?_;refine qat ?_;refine zw (d:=140) rfl yaq ?_;refine qb9 ?_;exact zb rfl rfl (za rfl ybF)
      have hY:¬zbV m k b:=fun h=>g99 h.2.2.2
      refine qaC ?_;refine xG ?_;refine qal ?_;refine xH ?_;refine qag ?_;refine xF ?_;refine qax ?_;refine Ct ?_;refine qat ?_;refine xI ?_;refine qbh ?_;exact zb rfl rfl (za rfl (rfl))
     have hY:¬zbV m k b:=fun h=>g96 h.2.2.1
     refine qaa ?_;refine qaC ?_;refine xG ?_;refine qal ?_;refine xH ?_;refine qag ?_;refine xF ?_;refine qax ?_;refine Ct ?_;refine qat ?_;refine xI ?_;refine qbh ?_;exact zb rfl rfl (za rfl (rfl))
    have hY:¬zbV m k b:=fun h=>g90 h.2.1
    refine qaa ?_;refine qa8 ?_;refine qaC ?_;refine xG ?_;refine qal ?_;refine xH ?_;refine qag ?_;refine xF ?_;refine qax ?_;refine Ct ?_;refine qat ?_;refine xI ?_;refine qbh ?_;exact zb rfl rfl (za rfl (rfl))
   have hY:¬zbV m k b:=fun h=>g84 h.1
   refine qaa ?_;refine qao ?_;refine qaC ?_;refine xG ?_;refine qal ?_;refine xH ?_;refine qag ?_;refine xF ?_;refine qax ?_;refine Ct ?_;refine qat ?_;refine xI ?_;refine qbh ?_;exact zb rfl rfl (za rfl (rfl))
  have hX:¬zbV m k a:=fun h=>g72 h.2.1
  refine qaa ?_;refine qa8 ?_;refine A0 oK ?_;refine qbv ?_;refine zo (d:=84) (p:=zbs b=true) rfl yA (fun g84=>?_) (fun g84=>?_)
  ·
   refine qaY ?_;refine zo (d:=90) (p:=(zam b).m=m) rfl yw (fun g90=>?_) (fun g90=>?_)
   ·
    refine qaZ ?_;refine zo (d:=96) (p:=(zam b).k=k) rfl yw (fun g96=>?_) (fun g96=>?_)
    ·
     refine qaM ?_;refine zo (d:=99) (p:=zK (zam b)=0) rfl yw (fun g99=>?_) (fun g99=>?_)
     ·
      have hY:zbV m k b:=⟨g84,g90,g96,g99⟩;refine qaC ?_;refine xG ?_;refine qal ?_;refine zw (d:=121) rfl yaq ?_;refine qbN ?_;refine Cg ?_;refine qax ?_;refine Ct ?_;refine qat ?_;refine zw (d:=140) rfl yaq ?_;refine qb9 ?_;exact zb rfl rfl (za rfl ybF)
     have hY:¬zbV m k b:=fun h=>g99 h.2.2.2
     refine qaC ?_;refine xG ?_;refine qal ?_;refine xH ?_;refine qag ?_;refine xF ?_;refine qax ?_;refine Ct ?_;refine qat ?_;refine xI ?_;refine qbh ?_;exact zb rfl rfl (za rfl (rfl))
    have hY:¬zbV m k b:=fun h=>g96 h.2.2.1
    refine qaa ?_;refine qaC ?_;refine xG ?_;refine qal ?_;refine xH ?_;refine qag ?_;refine xF ?_;refine qax ?_;refine Ct ?_;refine qat ?_;refine xI ?_;refine qbh ?_;exact zb rfl rfl (za rfl (rfl))
   have hY:¬zbV m k b:=fun h=>g90 h.2.1
   refine qaa ?_;refine qa8 ?_;refine qaC ?_;refine xG ?_;refine qal ?_;refine xH ?_;refine qag ?_;refine xF ?_;refine qax ?_;refine Ct ?_;refine qat ?_;refine xI ?_;refine qbh ?_;exact zb rfl rfl (za rfl (rfl))
  have hY:¬zbV m k b:=fun h=>g84 h.1
  refine qaa ?_;refine qao ?_;refine qaC ?_;refine xG ?_;refine qal ?_;refine xH ?_;refine qag ?_;refine xF ?_;refine qax ?_;refine Ct ?_;refine qat ?_;refine xI ?_;refine qbh ?_;exact zb rfl rfl (za rfl (rfl))
 have hX:¬zbV m k a:=fun h=>g66 h.1
 refine qaa ?_;refine qao ?_;refine A0 oK ?_;refine qbv ?_;refine zo (d:=84) (p:=zbs b=true) rfl yA (fun g84=>?_) (fun g84=>?_)
 ·
  refine qaY ?_;refine zo (d:=90) (p:=(zam b).m=m) rfl yw (fun g90=>?_) (fun g90=>?_)
  ·
   refine qaZ ?_;refine zo (d:=96) (p:=(zam b).k=k) rfl yw (fun g96=>?_) (fun g96=>?_)
   ·
    refine qaM ?_;refine zo (d:=99) (p:=zK (zam b)=0) rfl yw (fun g99=>?_) (fun g99=>?_)
    ·
     have hY:zbV m k b:=⟨g84,g90,g96,g99⟩;refine qaC ?_;refine xG ?_;refine qal ?_;refine zw (d:=121) rfl yaq ?_;refine qbN ?_;refine Cg ?_;refine qax ?_;refine Ct ?_;refine qat ?_;refine zw (d:=140) rfl yaq ?_;refine qb9 ?_;exact zb rfl rfl (za rfl ybF)
    have hY:¬zbV m k b:=fun h=>g99 h.2.2.2
    refine qaC ?_;refine xG ?_;refine qal ?_;refine xH ?_;refine qag ?_;refine xF ?_;refine qax ?_;refine Ct ?_;refine qat ?_;refine xI ?_;refine qbh ?_;exact zb rfl rfl (za rfl (rfl))
   have hY:¬zbV m k b:=fun h=>g96 h.2.2.1
   refine qaa ?_;refine qaC ?_;refine xG ?_;refine qal ?_;refine xH ?_;refine qag ?_;refine xF ?_;refine qax ?_;refine Ct ?_;refine qat ?_;refine xI ?_;refine qbh ?_;exact zb rfl rfl (za rfl (rfl))
  have hY:¬zbV m k b:=fun h=>g90 h.2.1
  refine qaa ?_;refine qa8 ?_;refine qaC ?_;refine xG ?_;refine qal ?_;refine xH ?_;refine qag ?_;refine xF ?_;refine qax ?_;refine Ct ?_;refine qat ?_;refine xI ?_;refine qbh ?_;exact zb rfl rfl (za rfl (rfl))
 have hY:¬zbV m k b:=fun h=>g84 h.1
 refine qaa ?_;refine qao ?_;refine qaC ?_;refine xG ?_;refine qal ?_;refine xH ?_;refine qag ?_;refine xF ?_;refine qax ?_;refine Ct ?_;refine qat ?_;refine xI ?_;refine qbh ?_;exact zb rfl rfl (za rfl (rfl))
set_option maxRecDepth 20000
set_option maxHeartbeats 2000000
theorem zlr {l:List Int} {j:Nat} {y w:Int} (h:l[j]?=some y):decide (w∈l.take (j+1))=(decide (w∈l.take j)||decide (y=w)):=by
  rw[←Bool.decide_or,uo,un,h,List.mem_append]
  constructor
  · rintro (a|a)
    · exact .inl a
    exact .inr (List.mem_singleton.1 a).symm
  rintro (a|a)
  · exact .inl a
  exact .inr (List.mem_singleton.2 a.symm)
theorem zvg {l:List Int} (hn:l.Nodup) {i j:Nat} {x y:Int} (hx:l[i]?=some x) (hy:l[j]?=some y) (h:j<i):¬y=x:=fun e=>by
  obtain⟨h1,e1⟩:=ul.1 hx;obtain⟨h2,e2⟩:=ul.1 hy;exact(List.pairwise_iff_getElem.1 hn j i h2 h1 h) (by rw[e1,e2,e])
theorem wo_len:∀{l:List Int} {w:Int},l.Nodup→w∈l→(without l w).length=l.length-1
  | [],_,_,h=>by cases h
  | x::l,w,hn,h=>by
    have hn2:=List.nodup_cons.1 hn;unfold without;rw[List.filter_cons];by_cases c:x=w
    · subst c
      have e:(l.filter fun y=>!decide (y=x))=l:=ztx hn2.1;rw[ur yA,e];rfl
    rcases List.mem_cons.1 h with h|h
    · exact absurd h.symm c
    rw[ut (by simp[c]),List.length_cons];have ih:=wo_len hn2.2 h;unfold without at ih;rw[ih]
    have:0<l.length:=List.length_pos_of_mem h
    rw[List.length_cons];omega
theorem open_cases (d:Client) (who:Int) (h:zoi d.opn) :
    (who<0∧zZ d ⟨0,who,[]⟩=(d,1)∧zZ d ⟨1,who,[]⟩=(d,1))∨((¬who<0∧63<who)∧zZ d ⟨0,who,[]⟩=(d,1)∧zZ d ⟨1,who,[]⟩=(d,1))∨
    ((¬who<0∧¬63<who)∧who∈d.opn∧zZ d ⟨0,who,[]⟩=(d,10)∧zZ d ⟨1,who,[]⟩=({ d with opn:=without d.opn who },0)∧(without d.opn who).length=d.opn.length-1∧0<d.opn.length)∨
    ((¬who<0∧¬63<who)∧¬who∈d.opn∧d.opn.length=8∧zZ d ⟨0,who,[]⟩=(d,11)∧zZ d ⟨1,who,[]⟩=(d,9))∨
    ((¬who<0∧¬63<who)∧¬who∈d.opn∧¬d.opn.length=8∧zZ d ⟨0,who,[]⟩=({ d with opn:=d.opn++[who] },0)∧zZ { d with opn:=d.opn++[who] } ⟨1,who,[]⟩=(d,0)):=by
  by_cases a:who<0
  · exact .inl ⟨a,zdw (.inl a),zdw (.inl a)⟩
  by_cases b:63<who
  · exact .inr (.inl ⟨⟨a,b⟩,zdw (.inr (.inl b)),zdw (.inr (.inl b))⟩)
  have s0:∀c:Client,zZ c ⟨0,who,[]⟩=zeZ c who:=fun c=>by rw[zaW ya,ut rfl]
  have s1:∀c:Client,zZ c ⟨1,who,[]⟩=zc0 c who:=fun c=>by rw[zaW ya,ur yr,ut rfl]
  have hlen:=h.2;by_cases m:who∈d.opn
  · refine .inr (.inr (.inl ⟨⟨a,b⟩,m,by rw[s0];unfold zeZ;rw[ut m],by rw[s1];unfold zc0;rw[ut m],wo_len h.1 m,List.length_pos_of_mem m⟩))
  by_cases f:d.opn.length=8
  · exact .inr (.inr (.inr (.inl ⟨⟨a,b⟩,m,f,by rw[s0];unfold zeZ;rw[ur m,ut ya],by rw[s1];unfold zc0;rw[ur m]⟩)))
  refine .inr (.inr (.inr (.inr ⟨⟨a,b⟩,m,f,by rw[s0];unfold zeZ;rw[ur m,ur ya],?_⟩)));rw[s1];unfold zc0;rw[ut (List.mem_append_right _ (List.mem_singleton.2 rfl))]
  have:without (d.opn++[who]) who=d.opn:=by
    unfold without;rw[List.filter_append];have e:(d.opn.filter fun y=>!decide (y=who))=d.opn:=ztx m;rw[e];simp
  show({ d with opn:=without (d.opn++[who]) who },(0:Int))=(d,0);rw[this]
theorem ztq (c:Client) (l:List Msg) (n:Int):Tells P 8 [.val zE c,.val (sl msgT) l,.val i64T n] (.val zl true):=by
 refine zd Tryz.func8 rfl rfl rfl (fun ext w hext=>?_);refine ze (d:=1) rfl zm (fun hsl1=>?_);refine ze (d:=2) rfl zu (fun hin2=>?_);refine qah ?_;refine qaj ?_;refine A0 (oCl (ziy) rfl fn_28 trivial) ?_;refine qaj ?_;refine qcw ?_;refine A0 (oCl (zkc c l) rfl fn_29 ye) ?_;refine qap ?_;refine qcS ?_;refine zw (d:=29) rfl (rfl) ?_;refine qcV ?_;refine A1 oN ?_;refine qaf ?_;refine zo (d:=33) (p:=zgb c l=false) rfl (by cases zgb c l<;>rfl) (fun g33=>?_) (fun g33=>?_)
 ·
  refine qc1 ?_;refine qcm ?_;refine Ct ?_;refine qb4 ?_;exact zb rfl rfl (za rfl (rfl))
 obtain⟨hsm,hms,hll,_⟩:=zkd (zhY g33);refine qcV ?_;refine A1 zcy ?_;refine qaf ?_;refine Sp (d:=37) (p:=n<0) (fun g37=>?_) (fun g37=>?_)
 ·
  refine qaa ?_;refine qcm ?_;refine Ct ?_;refine qb4 ?_;exact zb rfl rfl (za rfl (rfl))
 refine qcV ?_;refine qcV ?_;refine A1 (zN rfl rfl zls) ?_;refine A1 zbH ?_;refine qau ?_;refine Cf (p:=(l.length:Int)<n) (fun ht42=>?_) (fun ht42=>?_)
 ·
  refine qb4 ?_;exact zb rfl rfl (za rfl (rfl))
 obtain⟨N,rfl⟩:∃N:Nat,n=N:=⟨n.toNat,by omega⟩;have hel:=zez l c;have hel1:(runE c (l.take N)).length=N:=by rw[zez,um];omega
 have hel2:(runE (runC c (l.take N)) (l.drop N)).length=l.length-N:=by rw[zez,List.length_drop]
 have hm1:zhm (l.take N):=zmb hms (by rw[um];omega) (fun y hy=>List.mem_of_mem_take hy);have hm2:zhm (l.drop N):=zmb hms (by rw[List.length_drop];omega) (fun y hy=>List.mem_of_mem_drop hy);refine CSQR ?_;refine qcw ?_;refine A0 (oCl (zc8 c l hsm hms) rfl zk3 ye) ?_;refine qaN ?_;refine qaJ ?_;refine qaQ ?_;refine xv ?_;refine XK.gf (t:=3) rfl rfl (fun _ he=>zr rfl rfl he (Lens.self _) zbv) ⟨hpB rfl rfl,trivial⟩ rfl rfl rfl ?_;refine XK.ga (fun _=>g_mv (.inl rfl) rfl) rfl rfl rfl ?_;refine XK.ga (fun _=>g_mv (.inl rfl) rfl) rfl rfl rfl ?_;refine XK.ga (fun _=>by first|exact zdy rfl rfl rfl yam ze9|exact zhi rfl rfl rfl ze9 yg) rfl rfl rfl ?_;refine XK.ga (fun _=>zd1 (zc8 c (l.take N) hsm hm1) rfl zk3 ye rfl) rfl rfl rfl ?_;refine XK.ga yh rfl rfl rfl ?_;refine XK.ga yap rfl rfl rfl ?_;refine XK.ga yR rfl rfl rfl ?_;refine XK.e (fun fr' hfr kk H=>by exact zq zi2 rfl rfl rfl rfl (zt H)) ?_;refine XK.e (x:=.idk) (fun fr' hfr kk H=>by exact zg rfl rfl rfl ((hfr 11 yc).trans rfl) rfl (Lens.self _) zbv ((hfr 56 yc).trans rfl) (zt H)) ?_;refine X0 aV ?_;refine XK.nilp ⟨⟨hpB rfl rfl,hpB rfl rfl,trivial⟩,trivial⟩ ?_;refine CQ ?_;refine xv ?_;refine XK.gf (t:=11) rfl rfl (fun _ he=>zr rfl rfl he (Lens.self _) zbv) ⟨hpB rfl rfl,trivial⟩ rfl rfl rfl ?_;refine XK.ga (fun _=>g_mv (.inl rfl) rfl) rfl rfl rfl ?_;refine XK.ga (fun _=>g_mv (.inl rfl) rfl) rfl rfl rfl ?_;refine XK.ga (fun _=>zhh rfl rfl rfl ze9 yg) rfl rfl rfl ?_;refine XK.ga (fun _=>zd1 (zc8 (runC c (l.take N)) (l.drop N) (zjH _ hsm) hm2) rfl zk3 ye rfl) rfl rfl rfl ?_;refine XK.ga yh rfl rfl rfl ?_;refine XK.ga yap rfl rfl rfl ?_;refine XK.ga yR rfl rfl rfl ?_;refine XK.e (fun fr' hfr kk H=>by exact zq zi2 rfl rfl rfl rfl (zt H)) ?_;refine XK.e (x:=.idk) (fun fr' hfr kk H=>by exact zg rfl rfl rfl ((hfr 13 yc).trans rfl) rfl (Lens.self _) zbv ((hfr 64 yc).trans rfl) (zt H)) ?_;refine X0 aV ?_;refine XK.nilp ⟨⟨hpB rfl rfl,hpB rfl rfl,trivial⟩,trivial⟩ ?_;refine CQR ?_;refine qaB ?_;refine A0 (oCl (zc8 c [] hsm msgs_nil) rfl zk3 ⟨yn,yb,trivial⟩) ?_;refine qaN ?_;refine qaJ ?_;refine qaj ?_;refine A0 aL ?_;refine CNQR ?_;refine A0 aL ?_;refine CNQQR ?_;refine qcq ?_;refine zbk (T:=i64T) (d:=17) 3 rfl ?_;refine Lp (ι:=Nat) 6 (fun i=>(((((((((((Fr.none.set 3 (.ptr 0 0)).set 9 (.ptr 1 0)).set 11 (.ptr 2 0)).set 13 (.ptr 3 0)).set 15 (.ptr 4 0)).set 16 (.val (sl i64T) (runE c []))).set 10 (.val (sl i64T) (runE c l))).set 12 (.val (sl i64T) (runE c (l.take N)))).set 14 (.val (sl i64T) (runE (runC c (l.take N)) (l.drop N)))).set 17 (.own 5)).set 18 (.lit (.slice none 0 0))).set 19 (.val i64T (i:Int))) (fun i=>(((((Hp.none.set 0 (.box 29 zE c)).set 1 (.box 29 zE (runC c l))).set 2 (.box 29 zE (runC c (l.take N)))).set 3 (.box 29 zE (runC (runC c (l.take N)) (l.drop N)))).set 4 (.box 29 zE (runC c []))).set 5 (.row 3 i64T ((runE c l).take i))) (fun i=>i≤(runE c l).length) (fun i=>(runE c l).length-i) (0) (uf _) ?_;intro i hinv;refine CQQR ?_;refine qav ?_;refine A0 (zN rfl rfl znp) ?_;refine qbr ?_;refine Cf (p:=i<(runE c l).length) (fun ht74=>?_) (fun ht74=>?_)
 ·
  obtain⟨x,hx⟩:∃x,(runE c l)[i]?=some x:=⟨_,ub ht74⟩;refine qcH ?_;refine CB ?_;refine qcP ?_;refine qav ?_;refine A0 (zV (i:=i) rfl rfl rfl ya zpX yj) ?_;refine A0 (zf rfl rfl zrv) ?_;refine qaG ?_;refine qcu ?_;refine zaz 6 5 7 rfl rfl rfl rfl rfl rfl ?_;refine zj (n:=5) (y:=(runE c l).take (i+1)) rfl (by rw[un,hx];rfl) ?_;exact Nx (i+1) ya ya
 refine zj (n:=5) (y:=runE c l) rfl yT ?_;refine CE ?_;refine qaE ?_;refine zgH rfl rfl rfl rfl rfl rfl zu1 yL ?_;refine qa7 ?_;refine zC rfl rfl rfl rfl rfl rfl rfl zu1 yL ?_;refine A0 aO ?_;refine CNQQR ?_;refine qcq ?_;refine zj (n:=7) (y:=runE c l) rfl (by rw[←zgS,List.take_append_drop]) ?_;refine zbk (T:=i64T) (d:=18) 3 rfl ?_;refine Lp (ι:=Nat) 9 (fun i=>(((((((((Fr.none.set 3 (.ptr 0 0)).set 9 (.ptr 1 0)).set 11 (.ptr 2 0)).set 13 (.ptr 3 0)).set 15 (.ptr 4 0)).set 16 (.val (sl i64T) (runE c []))).set 17 (.own 5)).set 18 (.own 8)).set 20 (.own 7)).set 21 (.val i64T (i:Int))) (fun i=>(((((((Hp.none.set 0 (.box 29 zE c)).set 1 (.box 29 zE (runC c l))).set 2 (.box 29 zE (runC c (l.take N)))).set 3 (.box 29 zE (runC (runC c (l.take N)) (l.drop N)))).set 4 (.box 29 zE (runC c []))).set 5 (.row 3 i64T (runE c l))).set 7 (.row 40 i64T (runE c l))).set 8 (.row 3 i64T ((runE c l).take i))) (fun i=>i≤(runE c l).length) (fun i=>(runE c l).length-i) (0) (uf _) ?_;intro i hinv;refine qbQ ?_;refine A0 mO ?_;refine A0 (zbe rfl rfl rfl znp) ?_;refine qbr ?_;refine Cf (p:=i<(runE c l).length) (fun ht91=>?_) (fun ht91=>?_)
 ·
  obtain⟨x,hx⟩:∃x,(runE c l)[i]?=some x:=⟨_,ub ht91⟩;refine qcH ?_;refine CB ?_;refine qcP ?_;refine A0 mO ?_;refine qa7 ?_;refine A0 (zb8 (i:=i) rfl rfl rfl rfl yp zpX yg) ?_;refine A0 (zcO rfl rfl rfl rfl yj (Lens.self _) zrv) ?_;refine qaG ?_;refine qcu ?_;refine zaz 9 8 10 rfl rfl rfl rfl rfl rfl ?_;refine zj (n:=8) (y:=(runE c l).take (i+1)) rfl (by rw[un,hx];rfl) ?_;exact Nx (i+1) ya ya
 refine zj (n:=8) (y:=runE c l) rfl yT ?_;refine CE ?_;refine qbZ ?_;refine A0 mO ?_;refine A0 (oCl (zo7 (runE c l) (runE c l)) rfl fn_32 ⟨(zM rfl rfl),(zM rfl rfl),trivial⟩) ?_;refine qbv ?_;refine zar (d:=105) rfl yA ?_;refine qcJ ?_;refine A1 (oCl (zdN (runC c l) (runC (runC c (l.take N)) (l.drop N))) rfl zsO ye) ?_;refine qaf ?_;refine zar (d:=110) rfl (by rw[←zdE,List.take_append_drop];simp) ?_;refine qcJ ?_;refine A1 (oCl (zdN (runC c []) c) rfl zsO ye) ?_;refine qaf ?_;refine zar (d:=115) rfl (ui rfl) ?_;refine qcV ?_;refine A1 (zN rfl rfl znp) ?_;refine A1 zaH ?_;refine qa6 ?_;exact zb rfl rfl (za rfl (rfl))
theorem zrh (m k:Int) (l:List Msg) (who:Int):Tells P 7 [.val i64T m,.val i64T k,.val (sl msgT) l,.val i64T who] (.val zl true):=by
 refine zd Tryz.func7 rfl rfl rfl (fun ext w hext=>?_);refine ze (d:=0) rfl zu (fun hin0=>?_);refine ze (d:=1) rfl zu (fun hin1=>?_);refine ze (d:=2) rfl zm (fun hsl2=>?_);refine ze (d:=3) rfl zu (fun hin3=>?_);refine qb6 ?_;refine A0 (oCl (zkc (newR m k) l) rfl fn_29 ye) ?_;refine qap ?_;refine qcS ?_;refine zw (d:=34) rfl (rfl) ?_;refine qcV ?_;refine A1 oN ?_;refine qaf ?_;refine zo (d:=38) (p:=zgb (newR m k) l=false) rfl (by cases zgb (newR m k) l<;>rfl) (fun g38=>?_) (fun g38=>?_)
 ·
  refine qbm ?_;refine qau ?_;refine Ct ?_;refine qb4 ?_;exact zb rfl rfl (za rfl (rfl))
 obtain⟨hms,hll⟩:=fewN g38;refine qcV ?_;refine A1 oN ?_;refine qau ?_;refine zn (p:=zfS m k=false) rfl (by cases zfS m k<;>rfl) (fun ht41=>?_) (fun ht41=>?_)
 ·
  refine qb4 ?_;exact zb rfl rfl (za rfl (rfl))
 have hnr:=zjV (show zfS m k=true by cases hh:zfS m k<;>simp_all);refine zF (n:=0) (y:=newC m k) rfl hnr.1 ?_;obtain⟨d,hd⟩:∃d,d=runC (newC m k) l:=⟨_,rfl⟩;have hop:zoi d.opn:=hd▸zp3 l _ (zvj m k);have hsd:SmC d:=hd▸zjH l (zgs m k);have hol:=hop.2;refine CSQR ?_;refine qcw ?_;refine A0 (oCl (zc8 (newC m k) l (zgs m k) hms) rfl zk3 ye) ?_;refine qa4 ?_;refine zi (d:=47) (y:=d) rfl (hd.symm) ?_;refine qaD ?_;refine qaJ ?_;refine qaj ?_;refine qbO ?_;refine qcq ?_;refine zi (d:=15) (y:=decide (who∈d.opn.take 0)) rfl yA ?_;refine Lp (ι:=Nat) 2 (fun i=>(((Fr.none.set 3 (.val i64T who)).set 13 (.ptr 1 0)).set 15 (.val zl (decide (who∈d.opn.take i)))).set 16 (.val i64T (i:Int))) (fun i=>Hp.none.set 1 (.box 29 zE d)) (fun i=>i≤d.opn.length) (fun i=>d.opn.length-i) (0) (uf _) ?_;intro i hinv;refine qbQ ?_;refine A0 (oFp za9) ?_;refine A0 (oLb zaU zcF) ?_;refine qb5 ?_;refine qbr ?_;refine Cf (p:=i<d.opn.length) (fun ht53=>?_) (fun ht53=>?_)
 ·
  obtain⟨x,hx⟩:∃x,d.opn[i]?=some x:=⟨_,ub ht53⟩;refine CSQBQR ?_;refine qav ?_;refine Sp (d:=57) (p:=who∈d.opn.take i) (fun g57=>?_) (fun g57=>?_)
  ·
   refine qaa ?_;refine qaa ?_;refine A2 ?_;refine A0 oK ?_;refine qaj ?_;refine qcq ?_
   first|refine zi (d:=15) (y:=decide (who∈d.opn.take (i+1))) rfl (by rw[zlr hx,ui g57];rfl) ?_|refine zi (d:=15) (y:=decide (who∈d.opn.take (i+1))) rfl (by rw[zlr hx,uh g57,Bool.false_or];rfl) ?_
   refine Lp (ι:=Nat) 2 (fun j=>((((Fr.none.set 3 (.val i64T who)).set 13 (.ptr 1 0)).set 15 (.val zl (decide (who∈d.opn.take (i+1))))).set 16 (.val i64T (i:Int))).set 17 (.val i64T (j:Int))) (fun j=>Hp.none.set 1 (.box 29 zE d)) (fun j=>j≤i) (fun j=>i-j) (0) (uf _) ?_;intro j hj;refine CQQR ?_;refine qav ?_;refine qbr ?_;refine Cf (p:=j<i) (fun ht68=>?_) (fun ht68=>?_)
   ·
    obtain⟨y,hy⟩:∃y,d.opn[j]?=some y:=yB;refine qcH ?_;refine CB ?_;refine qb0 ?_;refine G0 (oFp za9) ?_;refine G0 (oLb zaU zcF) ?_;refine G0 mV ?_;refine G0 (zV (i:=j) rfl rfl rfl ya zcj yj) ?_;refine qc8 ?_;refine G0 (oFp za9) ?_;refine G0 (oLb zaU zcF) ?_;refine G0 mV ?_;refine G0 (zV (i:=i) rfl rfl rfl ya zcj yj) ?_;refine qc8 ?_;refine G0 zaH ?_;refine GK.nil ?_;refine zae rfl (uh (by simp only[IntL.toI,id_eq];exact zvg hop.1 hx hy ht68)) ?_;refine qa2 ?_;exact Nx (j+1) ya ya
   refine CE ?_;refine CI ?_;refine CR ?_;refine qb2 ?_;refine qae ?_;exact Nx (i+1) ya ya
  refine A1 (oFp za9) ?_;refine A1 (oLb zaU zcF) ?_;refine qcV ?_;refine A1 (zV (i:=i) rfl rfl rfl ya zcj yj) ?_;refine A1 (zf rfl rfl ty_3) ?_;refine qcV ?_;refine A1 zaH ?_;refine A0 oK ?_;refine qaj ?_;refine qcq ?_
  first|refine zi (d:=15) (y:=decide (who∈d.opn.take (i+1))) rfl (by rw[zlr hx,ui g57];rfl) ?_|refine zi (d:=15) (y:=decide (who∈d.opn.take (i+1))) rfl (by rw[zlr hx,uh g57,Bool.false_or];rfl) ?_
  refine Lp (ι:=Nat) 2 (fun j=>((((Fr.none.set 3 (.val i64T who)).set 13 (.ptr 1 0)).set 15 (.val zl (decide (who∈d.opn.take (i+1))))).set 16 (.val i64T (i:Int))).set 17 (.val i64T (j:Int))) (fun j=>Hp.none.set 1 (.box 29 zE d)) (fun j=>j≤i) (fun j=>i-j) (0) (uf _) ?_;intro j hj;refine CQQR ?_;refine qav ?_;refine qbr ?_;refine Cf (p:=j<i) (fun ht68=>?_) (fun ht68=>?_)
  ·
   obtain⟨y,hy⟩:∃y,d.opn[j]?=some y:=yB;refine qcH ?_;refine CB ?_;refine qb0 ?_;refine G0 (oFp za9) ?_;refine G0 (oLb zaU zcF) ?_;refine G0 mV ?_;refine G0 (zV (i:=j) rfl rfl rfl ya zcj yj) ?_;refine qc8 ?_;refine G0 (oFp za9) ?_;refine G0 (oLb zaU zcF) ?_;refine G0 mV ?_;refine G0 (zV (i:=i) rfl rfl rfl ya zcj yj) ?_;refine qc8 ?_;refine G0 zaH ?_;refine GK.nil ?_;refine zae rfl (uh (by simp only[IntL.toI,id_eq];exact zvg hop.1 hx hy ht68)) ?_;refine qa2 ?_;exact Nx (j+1) ya ya
  refine CE ?_;refine CI ?_;refine CR ?_;refine qb2 ?_;refine qae ?_;exact Nx (i+1) ya ya
 refine zi (d:=15) (y:=decide (who∈d.opn)) rfl yT ?_;refine CE ?_;refine CQ ?_;rcases open_cases d who hop with ⟨hw,hs1,hs2⟩|⟨hw,hs1,hs2⟩|⟨hw,hw2,hs1,hs2,hwl,hdl⟩|⟨hw,hw2,hw3,hs1,hs2⟩|⟨hw,hw2,hw3,hs1,hs2⟩
 ·
  refine CR ?_;refine qcw ?_;refine xJ ?_;refine xK ?_;refine qa4 ?_;refine xL ?_;refine qaD ?_;refine zi (d:=88) (y:=(1:Int)) rfl (congrArg (·.2) hs1) ?_;refine qaJ ?_;refine qaj ?_;refine qcw ?_;refine xJ ?_;refine xM ?_;refine qa4 ?_;refine xN ?_;refine qaD ?_;refine zi (d:=95) (y:=(1:Int)) rfl (congrArg (·.2) hs2) ?_;refine qbb ?_;refine zw (d:=100) rfl (uh yy) ?_;refine qaF ?_;refine qa7 ?_;refine A0 zcy ?_;refine qa7 ?_;refine zar (d:=113) rfl (by simpa [IntL.toI] using hw) ?_;refine qda ?_;refine Ct ?_;refine qaE ?_;refine A0 zaH ?_;refine qae ?_;exact zb rfl rfl (za rfl (rfl))
 ·
  refine CR ?_;refine qcw ?_;refine xJ ?_;refine xK ?_;refine qa4 ?_;refine xL ?_;refine qaD ?_;refine zi (d:=88) (y:=(1:Int)) rfl (congrArg (·.2) hs1) ?_;refine qaJ ?_;refine qaj ?_;refine qcw ?_;refine xJ ?_;refine xM ?_;refine qa4 ?_;refine xN ?_;refine qaD ?_;refine zi (d:=95) (y:=(1:Int)) rfl (congrArg (·.2) hs2) ?_;refine qbb ?_;refine zw (d:=100) rfl (uh yy) ?_;refine qaF ?_;refine qa7 ?_;refine qbL ?_;refine zes rfl (ui yy) ?_;refine qaE ?_;refine A0 zaH ?_;refine qae ?_;exact zb rfl rfl (za rfl (rfl))
 ·
  refine CR ?_;refine qcw ?_;refine xJ ?_;refine xK ?_;refine qa4 ?_;refine xL ?_;refine qaD ?_;refine zi (d:=88) (y:=(10:Int)) rfl (congrArg (·.2) hs1) ?_;refine qaJ ?_;refine qaj ?_;refine qcw ?_;refine xJ ?_;refine xM ?_;refine qa4 ?_;refine zi (d:=94) (y:=({ d with opn:=without d.opn who }:Client)) rfl (congrArg (·.1) hs2) ?_;refine qaD ?_;refine zi (d:=95) (y:=(0:Int)) rfl (congrArg (·.2) hs2) ?_;refine qbb ?_;refine zw (d:=100) rfl (uh yy) ?_;refine qaF ?_;refine qa7 ?_;refine qbL ?_;refine zae rfl (uh yy) ?_;refine qb4 ?_;refine zes rfl (ui hw2) ?_;refine qaE ?_;refine A0 zaH ?_;refine qa7 ?_;refine zar (d:=123) rfl (rfl) ?_;refine qcV ?_;refine A1 zaH ?_;refine qaf ?_;refine zar (d:=127) rfl (rfl) ?_;refine qbl ?_;refine qbl ?_;refine A1 zbT ?_;refine A1 zaH ?_;refine qa6 ?_;exact zb rfl rfl (za rfl (by rw[hwl];simp[IntL.toI];omega))
 ·
  refine CR ?_;refine qcw ?_;refine xJ ?_;refine xK ?_;refine qa4 ?_;refine xL ?_;refine qaD ?_;refine zi (d:=88) (y:=(11:Int)) rfl (congrArg (·.2) hs1) ?_;refine qaJ ?_;refine qaj ?_;refine qcw ?_;refine xJ ?_;refine xM ?_;refine qa4 ?_;refine xN ?_;refine qaD ?_;refine zi (d:=95) (y:=(9:Int)) rfl (congrArg (·.2) hs2) ?_;refine qbb ?_;refine zw (d:=100) rfl (uh yy) ?_;refine qaF ?_;refine qa7 ?_;refine qbL ?_;refine zae rfl (uh yy) ?_;refine qb4 ?_;refine zae rfl (uh hw2) ?_;refine CQR ?_;refine A0 (oFp za9) ?_;refine A0 (oLb zaU zcF) ?_;refine qb5 ?_;refine A0 zaH ?_;refine qae ?_;refine zes rfl (ui yy) ?_;refine qaE ?_;refine A0 zaH ?_;refine qa7 ?_;refine zar (d:=144) rfl (rfl) ?_;refine qcV ?_;refine A1 zaH ?_;refine qa6 ?_;exact zb rfl rfl (za rfl (rfl))
 refine CR ?_;refine qcw ?_;refine xJ ?_;refine xK ?_;refine qa4 ?_;refine zi (d:=87) (y:=({ d with opn:=d.opn++[who] }:Client)) rfl (congrArg (·.1) hs1) ?_;refine qaD ?_;refine zi (d:=88) (y:=(0:Int)) rfl (congrArg (·.2) hs1) ?_;have hso:SmC { d with opn:=d.opn++[who] }:=⟨hsd.1,by simp;omega⟩;refine qaJ ?_;refine qaj ?_;refine qcw ?_;refine xJ ?_;refine A0 (oCl (zcS { d with opn:=d.opn++[who] } ⟨1,who,[]⟩ hso yA) rfl znC ye) ?_;refine qa4 ?_;refine xN ?_;refine qaD ?_;refine zi (d:=95) (y:=(0:Int)) rfl (congrArg (·.2) hs2) ?_;refine qbb ?_;refine zw (d:=100) rfl (uh yy) ?_;refine qcV ?_;refine A1 zcQ ?_;refine qcV ?_;refine zw (d:=103) rfl (rfl) ?_;refine qaa ?_;refine A2 ?_;refine A1 oK ?_;refine qau ?_;refine Cg ?_;refine qaR ?_;refine qbL ?_;refine zae rfl (uh yy) ?_;refine qb4 ?_;refine zae rfl (uh hw2) ?_;refine CQR ?_;refine A0 (oFp za9) ?_;refine A0 (oLb zaU zcF) ?_;refine qb5 ?_;refine A0 zaH ?_;refine qae ?_;refine zae rfl (uh yy) ?_;refine CS ?_;refine CI ?_;refine qaE ?_;refine A0 zaH ?_;refine qa7 ?_;refine zar (d:=150) rfl (rfl) ?_;refine qcV ?_;refine A1 zaH ?_;refine qaf ?_;refine zar (d:=154) rfl (rfl) ?_;refine qcJ ?_;refine A1 (oCl (zdN _ _) rfl zsO ye) ?_;refine qa6 ?_;exact zb rfl rfl (za rfl yA)
theorem zoO (m k:Int) (l:List Msg):Tells P 9 [.val i64T m,.val i64T k,.val (sl msgT) l] (.val zl true):=by
 refine zd Tryz.func9 rfl rfl rfl (fun ext w hext=>?_);refine ze (d:=0) rfl zu (fun hin0=>?_);refine ze (d:=1) rfl zu (fun hin1=>?_);refine ze (d:=2) rfl zm (fun hsl2=>?_);refine qb6 ?_;refine A0 (oCl (zkc (newR m k) l) rfl fn_29 ye) ?_;refine qap ?_;refine qcS ?_;refine zw (d:=38) rfl (rfl) ?_;refine qcV ?_;refine A1 oN ?_;refine qaf ?_;refine zo (d:=42) (p:=zgb (newR m k) l=false) rfl (by cases zgb (newR m k) l<;>rfl) (fun g42=>?_) (fun g42=>?_)
 ·
  refine qbm ?_;refine qau ?_;refine Ct ?_;refine qb4 ?_;exact zb rfl rfl (za rfl (rfl))
 obtain⟨hms,hll⟩:=fewN g42;refine qcV ?_;refine A1 oN ?_;refine qau ?_;refine zn (p:=zfS m k=false) rfl (by cases zfS m k<;>rfl) (fun ht45=>?_) (fun ht45=>?_)
 ·
  refine qb4 ?_;exact zb rfl rfl (za rfl (rfl))
 have hnr:=zjV (show zfS m k=true by cases hh:zfS m k<;>simp_all);refine zF (n:=0) (y:=newC m k) rfl hnr.1 ?_;obtain⟨d,hd⟩:∃d,d=runC (newC m k) l:=⟨_,rfl⟩;refine CSQR ?_;refine qcw ?_;refine A0 (oCl (zc8 (newC m k) l (zgs m k) hms) rfl zk3 ye) ?_;refine qa4 ?_;refine zi (d:=51) (y:=d) rfl (hd.symm) ?_;refine qaD ?_;refine qaJ ?_;refine qaj ?_;refine A0 aL ?_;refine CNQR ?_;refine A0 aL ?_;refine CNQQR ?_;refine qcq ?_;refine zbk (T:=i64T) (d:=13) 3 rfl ?_;refine zbk (T:=zP) (d:=14) 27 rfl ?_;refine Lp (ι:=Nat×List Int) 4 (fun(i,o)=>(((((((Fr.none.set 0 (.val i64T m)).set 1 (.val i64T k)).set 2 (.val (sl msgT) l)).set 11 (.ptr 1 0)).set 12 (.val (sl i64T) (runE (newC m k) l))).set 13 (.own 2)).set 14 (.own 3)).set 15 (.val i64T (i:Int))) (fun(i,o)=>((Hp.none.set 1 (.box 29 zE d)).set 2 (.row 3 i64T o)).set 3 (.row 27 zP (za6 (newC m k) (l.take i)))) (fun(i,o)=>i≤l.length∧o=(runC (newC m k) (l.take i)).opn) (fun(i,o)=>l.length-i) ((0,[])) (⟨uf _,rfl⟩) ?_;intro⟨i,o⟩ hinv;dsimp only at hinv;refine CQQR ?_;refine qav ?_;refine A0 (zN rfl rfl zls) ?_;refine qbr ?_;refine Cf (p:=i<l.length) (fun ht56=>?_) (fun ht56=>?_)
 ·
  obtain⟨x,hx⟩:∃x,l[i]?=some x:=⟨_,ub ht56⟩;have hss:=zuU (c:=newC m k) hx;have hfit:=zuV (l.take i) (c:=newC m k) (new_fits m k);have hopn:=step_opn (c:=runC (newC m k) (l.take i)) (x:=x) hfit;have hg:=give_is (c:=runC (newC m k) (l.take i)) (x:=x) hfit;have hmk:(runC (newC m k) (l.take i)).m=m∧(runC (newC m k) (l.take i)).k=k:=run_mk (l.take i) (newC m k);have hox:=(zp3 (l.take i) (newC m k) (zvj m k)).2;rw[←hinv.2] at hfit hopn hg hox;have hgl:=znr (l.take i) (newC m k);have hrw:=hms.2 x (ud hx);rw[um] at hgl;refine CSQBQR ?_;refine qav ?_;refine A0 (zV (i:=i) rfl rfl rfl ya ze9 yj) ?_;refine A0 (zf rfl rfl zmx) ?_;refine zq zhp rfl rfl rfl rfl ?_;refine zg rfl rfl rfl rfl rfl (Lens.self _) zmx rfl ?_;refine CNQR ?_;refine qaj ?_;refine A0 aL ?_;refine CNQQR ?_;refine qcq ?_;refine zi (d:=17) (y:=decide (x.who∈o.take 0)) rfl yA ?_;refine zbk (T:=i64T) (d:=18) 3 rfl ?_;refine Lp (ι:=Nat) 6 (fun j=>(((((((((((Fr.none.set 0 (.val i64T m)).set 1 (.val i64T k)).set 2 (.val (sl msgT) l)).set 11 (.ptr 1 0)).set 12 (.val (sl i64T) (runE (newC m k) l))).set 13 (.own 2)).set 14 (.own 3)).set 15 (.val i64T (i:Int))).set 16 (.ptr 4 0)).set 17 (.val zl (decide (x.who∈o.take j)))).set 18 (.own 5)).set 19 (.val i64T (j:Int))) (fun j=>((((Hp.none.set 1 (.box 29 zE d)).set 2 (.row 3 i64T o)).set 3 (.row 27 zP (za6 (newC m k) (l.take i)))).set 4 (.box 36 msgT x)).set 5 (.row 3 i64T (without (o.take j) x.who))) (fun j=>j≤o.length) (fun j=>o.length-j) (0) (uf _) ?_;intro j hj;refine qbQ ?_;refine A0 mO ?_;refine A0 (zbe rfl rfl rfl zgu) ?_;refine qbr ?_;refine Cf (p:=j<o.length) (fun ht66=>?_) (fun ht66=>?_)
  ·
   obtain⟨y,hy⟩:∃y,o[j]?=some y:=⟨_,ub ht66⟩;have hwt:=zpS (who:=x.who) hy;have hwl:(without (o.take j) x.who).length≤8:=by have h1:(without (o.take j) x.who).length≤(o.take j).length:=List.length_filter_le _ _;rw[um] at h1;omega
   refine qcH ?_;refine CB ?_;refine qb0 ?_;refine qcr ?_;refine zaG (d:=70) (p:=x.who∈o.take j) rfl yz (fun g70=>?_) (fun g70=>?_)
   ·
    refine qad ?_;refine G2 ?_;refine G0 oK ?_;refine qbs ?_;refine qb0 ?_;refine G0 mO ?_;refine G0 mV ?_;refine G0 (zb8 (i:=j) rfl rfl rfl rfl yp zcj yg) ?_;refine G0 (zcO rfl rfl rfl rfl yj (Lens.self _) ty_3) ?_;refine G0 (oFp za1) ?_;refine G0 (oLb zaM ty_3) ?_;refine G0 zcQ ?_;refine GK.nil ?_;refine zn (p:=¬y=x.who) rfl yw (fun ht85=>?_) (fun ht85=>?_)
    ·
     refine qcP ?_;refine A0 mO ?_;refine qa7 ?_;refine A0 (zb8 (i:=j) rfl rfl rfl rfl yp zcj yg) ?_;refine qcF ?_;refine qaG ?_;refine qcu ?_;refine zi (d:=17) (y:=decide (x.who∈o.take (j+1))) rfl (by rw[zlr hy,ui g70];rfl) ?_;refine zaz 6 5 7 rfl rfl rfl rfl rfl rfl ?_;refine zj (n:=5) (y:=without (o.take (j+1)) x.who) rfl (by rw[hwt,ur ht85]) ?_;exact Nx (j+1) ya ya
    refine qa2 ?_;refine zi (d:=17) (y:=decide (x.who∈o.take (j+1))) rfl (by rw[zlr hy,ui g70];rfl) ?_;refine zj (n:=5) (y:=without (o.take (j+1)) x.who) rfl (by rw[hwt,ut (ua ht85),List.append_nil]) ?_;exact Nx (j+1) ya ya
   refine G1 mO ?_;refine G1 mV ?_;refine G1 (zb8 (i:=j) rfl rfl rfl rfl yp zcj yg) ?_;refine G1 (zcO rfl rfl rfl rfl yj (Lens.self _) ty_3) ?_;refine G1 (oFp za1) ?_;refine G1 (oLb zaM ty_3) ?_;refine G1 zaH ?_;refine G0 oK ?_;refine qbs ?_;refine qb0 ?_;refine G0 mO ?_;refine G0 mV ?_;refine G0 (zb8 (i:=j) rfl rfl rfl rfl yp zcj yg) ?_;refine G0 (zcO rfl rfl rfl rfl yj (Lens.self _) ty_3) ?_;refine G0 (oFp za1) ?_;refine G0 (oLb zaM ty_3) ?_;refine G0 zcQ ?_;refine GK.nil ?_;refine zn (p:=¬y=x.who) rfl yw (fun ht85=>?_) (fun ht85=>?_)
   ·
    refine qcP ?_;refine A0 mO ?_;refine qa7 ?_;refine A0 (zb8 (i:=j) rfl rfl rfl rfl yp zcj yg) ?_;refine qcF ?_;refine qaG ?_;refine qcu ?_;refine zi (d:=17) (y:=decide (x.who∈o.take (j+1))) rfl (by rw[zlr hy,uh g70,Bool.false_or];rfl) ?_;refine zaz 6 5 7 rfl rfl rfl rfl rfl rfl ?_;refine zj (n:=5) (y:=without (o.take (j+1)) x.who) rfl (by rw[hwt,ur ht85]) ?_;exact Nx (j+1) ya ya
   refine qa2 ?_;refine zi (d:=17) (y:=decide (x.who∈o.take (j+1))) rfl (by rw[zlr hy,uh g70,Bool.false_or];rfl) ?_;refine zj (n:=5) (y:=without (o.take (j+1)) x.who) rfl (by rw[hwt,ut (ua ht85),List.append_nil]) ?_;exact Nx (j+1) ya ya
  refine zi (d:=17) (y:=decide (x.who∈o)) rfl yT ?_;refine zj (n:=5) (y:=without o x.who) rfl yT ?_;refine CE ?_;refine CQR ?_;refine A0 (oFp za1) ?_;refine A0 (oLb zaM ty_3) ?_;refine A0 zfb ?_;refine qa7 ?_;refine Sp (d:=96) (p:=0≤x.who) (fun g96=>?_) (fun g96=>?_)
  ·
   refine A1 (oFp za1) ?_;refine A1 (oLb zaM ty_3) ?_;refine A1 zgV ?_;refine A0 oK ?_;refine qbO ?_;refine qbe ?_;refine zo (d:=104) (p:=x.kind=0) rfl yw (fun g104=>?_) (fun g104=>?_)
   ·
    refine qcV ?_;refine qaf ?_;refine Sp (d:=107) (p:=x.who≤63) (fun g107=>?_) (fun g107=>?_)
    ·
     refine qcV ?_;refine A1 oN ?_;refine qaf ?_;refine zo (d:=111) (p:=¬x.who∈o) rfl yA (fun g111=>?_) (fun g111=>?_)
     ·
      refine A1 mO ?_;refine A1 (zbe rfl rfl rfl zgu) ?_;refine A1 zcy ?_;refine qau ?_;refine Cf (p:=o.length<8) (fun ht115=>?_) (fun ht115=>?_)
      ·
       refine qcP ?_;refine A0 (oFp za1) ?_;refine A0 (oLb zaM ty_3) ?_;refine qaG ?_;refine A0 aO ?_;refine CNQQR ?_;refine qbe ?_;refine zw (d:=124) rfl (uh yy) ?_;refine qcm ?_;refine Cg ?_;refine qbw ?_;refine xO ?_;refine qaw ?_;refine xP ?_;refine qbo ?_;refine Cg ?_;refine qa2 ?_;refine ze4 5 ?_;refine zaz 6 2 12 rfl rfl rfl rfl rfl rfl ?_;refine zj (n:=2) (y:=(runC (newC m k) (l.take (i+1))).opn) rfl (by rw[hss.1,hopn,ur (fun h=>by omega),ut ⟨g104,⟨g96,g107⟩,g111,ht115⟩]) ?_;refine xQ ?_;exact Nx ((i+1,(runC (newC m k) (l.take (i+1))).opn)) (⟨by omega,rfl⟩) yD
      refine CSQQR ?_;refine qbe ?_;refine zw (d:=124) rfl (uh yy) ?_;refine qcm ?_;refine Cg ?_;refine qbw ?_;refine xO ?_;refine qaw ?_;refine xP ?_;refine qbo ?_;refine Cg ?_;refine qa2 ?_;refine zj (n:=2) (y:=(runC (newC m k) (l.take (i+1))).opn) rfl (by rw[hss.1,hopn,ur (fun h=>by omega),ur (fun h=>ht115 h.2.2.2)]) ?_;refine xQ ?_;exact Nx ((i+1,(runC (newC m k) (l.take (i+1))).opn)) (⟨by omega,rfl⟩) yD
     refine qcU ?_;refine Cg ?_;refine CSQQR ?_;refine qbe ?_;refine zw (d:=124) rfl (uh yy) ?_;refine qcm ?_;refine Cg ?_;refine qbw ?_;refine xO ?_;refine qaw ?_;refine xP ?_;refine qbo ?_;refine Cg ?_;refine qa2 ?_;refine zj (n:=2) (y:=(runC (newC m k) (l.take (i+1))).opn) rfl (by rw[hss.1,hopn,ur (fun h=>by omega),ur (fun h=>g111 h.2.2.1)]) ?_;refine xQ ?_;exact Nx ((i+1,(runC (newC m k) (l.take (i+1))).opn)) (⟨by omega,rfl⟩) yD
    refine qc1 ?_;refine qau ?_;refine Cg ?_;refine CSQQR ?_;refine qbe ?_;refine zw (d:=124) rfl (uh yy) ?_;refine qcm ?_;refine Cg ?_;refine qbw ?_;refine xO ?_;refine qaw ?_;refine xP ?_;refine qbo ?_;refine Cg ?_;refine qa2 ?_;refine zj (n:=2) (y:=(runC (newC m k) (l.take (i+1))).opn) rfl (by rw[hss.1,hopn,ur (fun h=>by omega),ur (fun h=>g107 h.2.1.2)]) ?_;refine xQ ?_;exact Nx ((i+1,(runC (newC m k) (l.take (i+1))).opn)) (⟨by omega,rfl⟩) yD
   refine A2 ?_;refine qaf ?_;refine qc1 ?_;refine qau ?_;refine Cg ?_;refine CSQQR ?_;refine qbe ?_;refine zo (d:=124) (p:=x.kind=1) rfl yw (fun g124=>?_) (fun g124=>?_)
   ·
    refine qcV ?_;refine qau ?_;refine Cf (p:=x.who∈o) (fun ht126=>?_) (fun ht126=>?_)
    ·
     refine qcP ?_;refine A0 aO ?_;refine CNQR ?_;refine A0 (oFp zem) ?_;refine A0 (oLb zeV zcx) ?_;refine xO ?_;refine qaw ?_;refine xP ?_;refine qbo ?_;refine Cg ?_;refine qa2 ?_;refine ze4 2 ?_;refine zaz 5 2 12 rfl rfl rfl rfl rfl rfl ?_;refine zj (n:=2) (y:=(runC (newC m k) (l.take (i+1))).opn) rfl (by rw[hss.1,hopn,ut ⟨g124,ht126⟩]) ?_;refine xQ ?_;exact Nx ((i+1,(runC (newC m k) (l.take (i+1))).opn)) (⟨by omega,rfl⟩) yD
    refine qbw ?_;refine xO ?_;refine qaw ?_;refine xP ?_;refine qbo ?_;refine Cg ?_;refine qa2 ?_;refine zj (n:=2) (y:=(runC (newC m k) (l.take (i+1))).opn) rfl (by rw[hss.1,hopn,ur (fun h=>ht126 h.2),ur (fun h=>by omega)]) ?_;refine xQ ?_;exact Nx ((i+1,(runC (newC m k) (l.take (i+1))).opn)) (⟨by omega,rfl⟩) yD
   refine qcm ?_;refine Cg ?_;refine qbw ?_;refine xO ?_;refine qaw ?_;refine zo (d:=137) (p:=x.kind=2) rfl yw (fun g137=>?_) (fun g137=>?_)
   ·
    refine qcV ?_;refine qaf ?_;refine Sp (d:=140) (p:=x.who∈o) (fun g140=>?_) (fun g140=>?_)
    ·
     refine qcV ?_;refine qaf ?_;refine zo (d:=143) (p:=zbs x.raw=true) rfl yA (fun g143=>?_) (fun g143=>?_)
     ·
      refine qaY ?_;refine zo (d:=149) (p:=(zam x.raw).m=m) rfl yw (fun g149=>?_) (fun g149=>?_)
      ·
       refine qaZ ?_;refine zo (d:=155) (p:=(zam x.raw).k=k) rfl yw (fun g155=>?_) (fun g155=>?_)
       ·
        refine qaM ?_;refine qau ?_;refine zn (p:=zK (zam x.raw)=0) rfl yw (fun ht159=>?_) (fun ht159=>?_)
        ·
         refine qcP ?_;refine qaU ?_;refine A0 (zL (T:=zP) (xs:=[_]) rfl sl_85 zuZ yE rfl rfl) ?_;refine zC rfl rfl rfl rfl rfl rfl rfl zuZ yL ?_;refine qcu ?_;refine zaz 7 3 12 rfl rfl rfl rfl rfl rfl ?_;refine xR ?_;refine zj (n:=3) (y:=za6 (newC m k) (l.take (i+1))) rfl ybh ?_;exact Nx ((i+1,(runC (newC m k) (l.take (i+1))).opn)) (⟨by omega,rfl⟩) yD
        refine qa2 ?_;refine xR ?_;refine zj (n:=3) (y:=za6 (newC m k) (l.take (i+1))) rfl (by rw[zak hx,ur (fun h=>ht159 (hg.1 h).2.2.2.2.2),List.append_nil]) ?_;exact Nx ((i+1,(runC (newC m k) (l.take (i+1))).opn)) (⟨by omega,rfl⟩) yD
       refine qcU ?_;refine Cg ?_;refine qa2 ?_;refine xR ?_;refine zj (n:=3) (y:=za6 (newC m k) (l.take (i+1))) rfl ybv ?_;exact Nx ((i+1,(runC (newC m k) (l.take (i+1))).opn)) (⟨by omega,rfl⟩) yD
      refine qaa ?_;refine qa8 ?_;refine qau ?_;refine Cg ?_;refine qa2 ?_;refine xR ?_;refine zj (n:=3) (y:=za6 (newC m k) (l.take (i+1))) rfl yby ?_;exact Nx ((i+1,(runC (newC m k) (l.take (i+1))).opn)) (⟨by omega,rfl⟩) yD
     refine qaa ?_;refine qao ?_;refine qau ?_;refine Cg ?_;refine qa2 ?_;refine xR ?_;refine zj (n:=3) (y:=za6 (newC m k) (l.take (i+1))) rfl (by rw[zak hx,ur (fun h=>g143 (hg.1 h).2.2.1),List.append_nil]) ?_;exact Nx ((i+1,(runC (newC m k) (l.take (i+1))).opn)) (⟨by omega,rfl⟩) yD
    refine qao ?_;refine qa8 ?_;refine qau ?_;refine Cg ?_;refine qa2 ?_;refine xR ?_;refine zj (n:=3) (y:=za6 (newC m k) (l.take (i+1))) rfl (by rw[zak hx,ur (fun h=>g140 (hg.1 h).2.1),List.append_nil]) ?_;exact Nx ((i+1,(runC (newC m k) (l.take (i+1))).opn)) (⟨by omega,rfl⟩) yD
   refine qbo ?_;refine Cg ?_;refine qa2 ?_;refine xR ?_;refine zj (n:=3) (y:=za6 (newC m k) (l.take (i+1))) rfl (by rw[zak hx,ur (fun h=>g137 (hg.1 h).1),List.append_nil]) ?_;exact Nx ((i+1,(runC (newC m k) (l.take (i+1))).opn)) (⟨by omega,rfl⟩) yD
  refine qaa ?_;refine A0 oK ?_;refine qbO ?_;refine qbe ?_;refine zo (d:=104) (p:=x.kind=0) rfl yw (fun g104=>?_) (fun g104=>?_)
  ·
   refine qcV ?_;refine qaf ?_;refine qc1 ?_;refine qau ?_;refine Cg ?_;refine CSQQR ?_;refine qbe ?_;refine zw (d:=124) rfl (uh yy) ?_;refine qcm ?_;refine Cg ?_;refine qbw ?_;refine xO ?_;refine qaw ?_;refine xP ?_;refine qbo ?_;refine Cg ?_;refine qa2 ?_;refine zj (n:=2) (y:=(runC (newC m k) (l.take (i+1))).opn) rfl (by rw[hss.1,hopn,ur (fun h=>by omega),ur (fun h=>g96 h.2.1.1)]) ?_;refine xQ ?_;exact Nx ((i+1,(runC (newC m k) (l.take (i+1))).opn)) (⟨by omega,rfl⟩) yD
  refine A2 ?_;refine qaf ?_;refine qc1 ?_;refine qau ?_;refine Cg ?_;refine CSQQR ?_;refine qbe ?_;refine zo (d:=124) (p:=x.kind=1) rfl yw (fun g124=>?_) (fun g124=>?_)
  ·
   refine qcV ?_;refine qau ?_;refine Cf (p:=x.who∈o) (fun ht126=>?_) (fun ht126=>?_)
   ·
    refine qcP ?_;refine A0 aO ?_;refine CNQR ?_;refine A0 (oFp zem) ?_;refine A0 (oLb zeV zcx) ?_;refine xO ?_;refine qaw ?_;refine xP ?_;refine qbo ?_;refine Cg ?_;refine qa2 ?_;refine ze4 2 ?_;refine zaz 5 2 12 rfl rfl rfl rfl rfl rfl ?_;refine zj (n:=2) (y:=(runC (newC m k) (l.take (i+1))).opn) rfl (by rw[hss.1,hopn,ut ⟨g124,ht126⟩]) ?_;refine xQ ?_;exact Nx ((i+1,(runC (newC m k) (l.take (i+1))).opn)) (⟨by omega,rfl⟩) yD
   refine qbw ?_;refine xO ?_;refine qaw ?_;refine xP ?_;refine qbo ?_;refine Cg ?_;refine qa2 ?_;refine zj (n:=2) (y:=(runC (newC m k) (l.take (i+1))).opn) rfl (by rw[hss.1,hopn,ur (fun h=>ht126 h.2),ur (fun h=>by omega)]) ?_;refine xQ ?_;exact Nx ((i+1,(runC (newC m k) (l.take (i+1))).opn)) (⟨by omega,rfl⟩) yD
  refine qcm ?_;refine Cg ?_;refine qbw ?_;refine xO ?_;refine qaw ?_;refine zo (d:=137) (p:=x.kind=2) rfl yw (fun g137=>?_) (fun g137=>?_)
  ·
   refine qcV ?_;refine qaf ?_;refine Sp (d:=140) (p:=x.who∈o) (fun g140=>?_) (fun g140=>?_)
   ·
    refine qcV ?_;refine qaf ?_;refine zo (d:=143) (p:=zbs x.raw=true) rfl yA (fun g143=>?_) (fun g143=>?_)
    ·
     refine qaY ?_;refine zo (d:=149) (p:=(zam x.raw).m=m) rfl yw (fun g149=>?_) (fun g149=>?_)
     ·
      refine qaZ ?_;refine zo (d:=155) (p:=(zam x.raw).k=k) rfl yw (fun g155=>?_) (fun g155=>?_)
      ·
       refine qaM ?_;refine qau ?_;refine zn (p:=zK (zam x.raw)=0) rfl yw (fun ht159=>?_) (fun ht159=>?_)
       ·
        refine qcP ?_;refine qaU ?_;refine A0 (zL (T:=zP) (xs:=[_]) rfl sl_85 zuZ yE rfl rfl) ?_;refine zC rfl rfl rfl rfl rfl rfl rfl zuZ yL ?_;refine qcu ?_;refine zaz 7 3 12 rfl rfl rfl rfl rfl rfl ?_;refine xR ?_;refine zj (n:=3) (y:=za6 (newC m k) (l.take (i+1))) rfl ybh ?_;exact Nx ((i+1,(runC (newC m k) (l.take (i+1))).opn)) (⟨by omega,rfl⟩) yD
       refine qa2 ?_;refine xR ?_;refine zj (n:=3) (y:=za6 (newC m k) (l.take (i+1))) rfl (by rw[zak hx,ur (fun h=>ht159 (hg.1 h).2.2.2.2.2),List.append_nil]) ?_;exact Nx ((i+1,(runC (newC m k) (l.take (i+1))).opn)) (⟨by omega,rfl⟩) yD
      refine qcU ?_;refine Cg ?_;refine qa2 ?_;refine xR ?_;refine zj (n:=3) (y:=za6 (newC m k) (l.take (i+1))) rfl ybv ?_;exact Nx ((i+1,(runC (newC m k) (l.take (i+1))).opn)) (⟨by omega,rfl⟩) yD
     refine qaa ?_;refine qa8 ?_;refine qau ?_;refine Cg ?_;refine qa2 ?_;refine xR ?_;refine zj (n:=3) (y:=za6 (newC m k) (l.take (i+1))) rfl yby ?_;exact Nx ((i+1,(runC (newC m k) (l.take (i+1))).opn)) (⟨by omega,rfl⟩) yD
    refine qaa ?_;refine qao ?_;refine qau ?_;refine Cg ?_;refine qa2 ?_;refine xR ?_;refine zj (n:=3) (y:=za6 (newC m k) (l.take (i+1))) rfl (by rw[zak hx,ur (fun h=>g143 (hg.1 h).2.2.1),List.append_nil]) ?_;exact Nx ((i+1,(runC (newC m k) (l.take (i+1))).opn)) (⟨by omega,rfl⟩) yD
   refine qao ?_;refine qa8 ?_;refine qau ?_;refine Cg ?_;refine qa2 ?_;refine xR ?_;refine zj (n:=3) (y:=za6 (newC m k) (l.take (i+1))) rfl (by rw[zak hx,ur (fun h=>g140 (hg.1 h).2.1),List.append_nil]) ?_;exact Nx ((i+1,(runC (newC m k) (l.take (i+1))).opn)) (⟨by omega,rfl⟩) yD
  refine qbo ?_;refine Cg ?_;refine qa2 ?_;refine xR ?_;refine zj (n:=3) (y:=za6 (newC m k) (l.take (i+1))) rfl (by rw[zak hx,ur (fun h=>g137 (hg.1 h).1),List.append_nil]) ?_;exact Nx ((i+1,(runC (newC m k) (l.take (i+1))).opn)) (⟨by omega,rfl⟩) yD
 obtain⟨G,hG⟩:∃G,G=za6 (newC m k) l:=⟨_,rfl⟩;have hil:l.take i=l:=uc ya;refine zj (n:=2) (y:=d.opn) rfl (by rw[hinv.2,hil,hd]) ?_;refine zj (n:=3) (y:=G) rfl (by rw[hil,hG]) ?_;have hgl:=znr l (newC m k);rw[←hG] at hgl;have hgo:∀p∈G,zK p=0:=fun p hp=>zvB l (newC m k) p (hG▸hp)
 have hgs:∀p∈G,zfw p:=fun p hp=>zgv (hgo p hp)
 have hho:=zrR l (newC m k) [] (new_holds m k);rw[List.nil_append,←hG,←hd] at hho;refine CE ?_;refine qbZ ?_;refine A0 (oCl (fold_ok G hgs ya) rfl fn_33 ⟨(zM rfl rfl),trivial⟩) ?_;refine qaN ?_;refine qbC ?_;refine qas ?_;refine qaj ?_;refine A0 mO ?_;refine A0 (oFp za9) ?_;refine A0 (oLb zaU zcF) ?_;refine A0 (oCl (zo7 d.opn d.opn) rfl fn_32 ⟨(zM rfl rfl),yn,trivial⟩) ?_;refine qaL ?_;refine A0 (zN rfl rfl znp) ?_;refine qa7 ?_;refine A0 (zN rfl rfl zls) ?_;refine A0 zaH ?_;refine qa7 ?_;refine zar (d:=178) rfl (ui (by simp only[IntL.toI,id_eq,zez])) ?_;refine qcV ?_;refine qaf ?_;refine zar (d:=181) rfl yA ?_;refine qaW ?_;refine A1 mO ?_;refine A1 (zbe rfl rfl rfl isl_85) ?_;refine A1 zbH ?_;refine A1 (zvH rfl rfl rfl ub_4) ?_;refine qaf ?_;refine zar (d:=189) rfl (by rw[hho.have_];cases G<;>simp[IntL.toI]<;>omega) ?_;refine A1 (oFp za8) ?_;refine A1 (oLb zb2 zaD) ?_;refine A1 (oLs rfl rfl rfl zaD) ?_;refine A1 (oCl (zp2 d.p (zvM G).1) rfl fn_18 ye) ?_;refine qa6 ?_;exact zb rfl rfl (za rfl (by rw[hho.p,fold_held hgo];simp))
end Go.Proofs.YtikaeepohlkjdaaGreat
