/- Parts of the proof: the layer that reads Go values as data, and what the functions of the program tell. -/
import Derived.Test.YtikaeepohlkjdaaGreatK7
open Bool (eq_false_iff)
open Int (mul_comm pow_succ)
open List (all_eq_true drop_zero length_cons length_drop map_cons mem_append sum_cons)
set_option linter.unusedVariables false
set_option linter.unusedSimpArgs false
set_option maxRecDepth 20000
namespace Go.Proofs.YtikaeepohlkjdaaGreat
open Go.Ab Go.RowKit
theorem zhn {J:Job} {hp:Hp} {X:AV} {e:Nat} {α:Type} {T:GoT α} {l:List α} (h:X = .lit (.slice none 0 0)) (el:l=[]):zfC J hp X (.fresh e T l):=by subst el;exact zs h
theorem zn_rows:zaw P 189 nilT ():=zfD zj8 yt
theorem drop_two {b:List UInt8} {p:Nat} (h:p+2<=b.length):∃a c r,b.drop p=a::c::r/\r=b.drop (p+2):=by
  obtain⟨a,ha⟩:∃a,b[p]?=some a:=yr;obtain⟨c,hc⟩:∃c,b[p+1]?=some c:=yr;refine⟨a,c,b.drop (p+2),?_,rfl⟩;have h1:b.drop p=a::b.drop (p+1):=by
    obtain⟨h1,e⟩:=ul.1 ha;rw[List.drop_eq_getElem_cons h1,e]
  have h2:b.drop (p+1)=c::b.drop (p+2):=by
    obtain⟨h1,e⟩:=ul.1 hc;rw[List.drop_eq_getElem_cons h1,e]
  rw[h1,h2]
theorem zwG {b:List UInt8} {p:Nat} (hp:p<=b.length):cutN (b.drop p)=if cutE b p=true then some (cutX b p,b.drop (ziA b p).toNat) else none:=by
  by_cases h2:p+2<=b.length
  . obtain⟨a,c,r,e,er⟩:=drop_two h2
    have hg:zc7 b p 2=true:=by unfold zc7;rw[uj];omega
    have hu:(getU b p 2).toNat=256*a.toNat+c.toNat:=by
      rw[zgm hg];have e1:(b.drop (p:Int).toNat).take (2:Int).toNat=[a,c]:=by
        rw[show((p:Int)).toNat=p by omega,show(2:Int).toNat=2 from rfl,e];rfl
      rw[e1,zgJ [a,c] yw];show 256*(256*0+a.toNat)+c.toNat=_;omega
    have hrl:r.length=b.length-(p+2):=by rw[er,length_drop]
    rw[e,cutN];by_cases h3:256*a.toNat+c.toNat<=r.length
    . have hce : cutE b p = true := by
        unfold cutE;rw[hg,Bool.true_and,uj,hu];omega
      obtain⟨c1,c2⟩:=ziz hce;rw[ut h3,ut hce,c1,c2,hu,show((p:Int)).toNat=p by omega,<-er];congr 2;rw[er,List.drop_drop];congr 1
    have hce : ¬ cutE b p = true := by
      unfold cutE;rw[hg,Bool.true_and,uj,hu];omega
    rw[ur h3,ur hce]
  have hg:zc7 b p 2=false:=zbp ya;have hce:¬cutE b p=true:=by unfold cutE;rw[hg];simp
  rw[ur hce]
  match hd:b.drop p with
  | []=>rfl
  | [_]=>rfl
  | _::_::r =>
    have:=congrArg List.length hd
    rw[length_drop] at this;simp at this;omega
structure SplitAt (b:List UInt8) (N:Nat) (p:Nat) (out:List (List UInt8)):Prop where
  p1:1<=p
  p2:p<=b.length
  n:out.length<=N
  l:(pieces N (b.drop 1)).1=out++(pieces (N-out.length) (b.drop p)).1
  z:(pieces N (b.drop 1)).2=(pieces (N-out.length) (b.drop p)).2
theorem zns {b:List UInt8} {N:Nat} (h:1<=b.length):SplitAt b N 1 []:=⟨ug _,h,uf _,rfl,rfl⟩
theorem zrC {b:List UInt8} {p:Nat} (hp:p<=b.length) (hc:cutE b p=true):∃q:Nat,ziA b p=(q:Int)/\p<q/\q<=b.length/\(cutX b p).length<=65535:=by
  have hg:zc7 b p 2=true:=by
    unfold cutE at hc;rw[uk] at hc;exact hc.1
  have hu:=zux hg;have hgs:=hg;unfold zc7 at hgs;rw[uj] at hgs;have h2:=hc;unfold cutE at h2;rw[uk,uj] at h2;obtain⟨c1,c2⟩:=ziz hc;refine⟨p+2+(getU b p 2).toNat,by rw[c2];omega,by omega,by omega,?_⟩;rw[c1,um];omega
theorem zvr {b:List UInt8} {N p:Nat} {out:List (List UInt8)} (h:SplitAt b N p out) (hc:cutE b p=true) (hn:¬out.length=N):SplitAt b N (ziA b p).toNat (out++[cutX b p]):=by
  obtain⟨q,hq,h1,h2,_⟩:=zrC h.p2 hc;have hN:N-out.length=(N-(out++[cutX b p]).length)+1:=by
    have:=h.n
    rw[ue,List.length_singleton];omega
  have hp:pieces (N-out.length) (b.drop p)=(cutX b p::(pieces (N-(out++[cutX b p]).length) (b.drop (ziA b p).toNat)).1,(pieces (N-(out++[cutX b p]).length) (b.drop (ziA b p).toNat)).2):=by
    rw[hN,pieces,zwG h.p2,ut hc]
  have hp1:=h.p1;have hnn:=h.n;refine⟨by rw[hq];omega,by rw[hq];omega,by rw[ue,List.length_singleton];omega,?_,?_⟩
  . rw[h.l,hp,List.append_assoc];rfl
  rw[h.z,hp]
theorem zaP {b:List UInt8} {N p:Nat} {out:List (List UInt8)} (h:SplitAt b N p out) (hc:cutE b p=false\/out.length=N):pieces N (b.drop 1)=(out,b.drop p):=by
  have hp:pieces (N-out.length) (b.drop p)=([],b.drop p):=by
    by_cases e:out.length=N
    . rw[show N-out.length=0 by omega];rfl
    have hn:=h.n;rw[show N-out.length=(N-out.length-1)+1 by omega,pieces,zwG h.p2,ur (by rw[hc.resolve_right e];decide)]
  have h1:=h.l;have h2:=h.z;rw[hp] at h1 h2;rw[List.append_nil] at h1;exact Prod.ext h1 h2
theorem zaQ {b:List UInt8} {n0:UInt8} {p:Nat} {out:List (List UInt8)} (h0:b[0]?=some n0) (h:pieces n0.toNat (b.drop 1)=(out,b.drop p)):zw b=if out.length=n0.toNat/\b.drop p=[] then (out,true) else ([],false):=by
  match b,h0 with
  | n::r,h0 =>
    have e:n=n0:=by simpa using h0
    subst e;have h:pieces n.toNat r=(out,(n::r).drop p):=h;unfold zw;simp only[];rw[h]
theorem zuX (b:List UInt8) (hb:b.length<=1000000000):Tells P 172 [.val (bsl u8T) b] (.tup2 (.fresh 22 (sl u8T) (zw b).1) (.val zo (zw b).2)):=by
 refine zc Tryz.func172 rfl rfl rfl (fun ext w hext=>?_);refine ze (d:=0) rfl zk (fun hsl0=>?_);refine qbN ?_;refine qbT ?_;refine qez ?_;refine qcr ?_;refine qdh ?_;refine zl (p:=b.length=0) rfl yx (fun ht10=>?_) (fun ht10=>?_)
 .
  refine qbE ?_;exact zG rfl rfl (by rw[List.length_eq_zero_iff.1 ht10];exact zs rfl) (za rfl (by rw[List.length_eq_zero_iff.1 ht10];rfl))
 obtain⟨n0,hn0⟩:∃n0,b[0]?=some n0:=yr;have hn8:n0.toNat<256:=n0.toNat_lt;have hti8:IntL.toI u8T n0=(n0.toNat:Int):=rfl;refine CSQR ?_;refine zN zn_rows rfl rfl rfl rfl ?_;refine CN ?_;refine aw_nilbox 1 22 (sl u8T) rfl ?_;refine CQR ?_;refine zN ze_3 rfl rfl rfl rfl ?_;refine qdk ?_;refine CNQQR ?_;refine qez ?_;refine z6 rfl rfl rfl rfl Tryz.func232 fn_232 rfl rfl (fun ia2 iok2=>?_);refine qbN ?_;refine qcI ?_;refine CNB ?_;refine zi8 rfl rfl rfl Tryz.func273 fn_273 rfl rfl yH (fun fid3 ca3 lN3 DN3 cok3 rc3 hrc3=>?_);refine CQR ?_;refine qco ?_;refine zco 2 7 8 rfl rfl rfl rfl rfl rfl ?_;refine Lp (ι:=Nat×List (List UInt8)) 8 (fun(p,out)=>((Fr.none.set 0 (.lit (.func (.yield lN3) #[] #[]))).set 1 (.ptr 4 0)).set 3 (.val i64T (p:Int))) (fun(p,out)=>((((((Hp.none.set 0 (.box 22 (bsl u8T) b)).set 1 (.parts 189 [.own 7])).set 3 (.box 3 i64T (p:Int))).set 4 (.box 22 (bsl u8T) b)).set 7 (.row 22 (sl u8T) out)).set 5 (.objAt DN3 (.deferred (some [])))).set 6 (.objAt lN3 (rc3 .ready none))) (fun(p,out)=>SplitAt b n0.toNat p out) (fun(p,out)=>b.length-p) ((1,[])) (zns ya) ?_;intro⟨p,out⟩ hinv;dsimp only at hinv;refine qgf ?_;refine qez ?_;refine qaz ?_;refine A0 (oCl (zps (binCut_ok b p hb)) rfl fn_274 ye) ?_;refine qaA ?_;refine A0 e32 ?_;refine A0 aV ?_;refine A0 aV ?_;refine qag ?_;refine A0 oN ?_;refine zX (d:=15) (p:=cutE b p=false) rfl (by cases cutE b p<;>rfl) (fun g15=>?_) (fun g15=>?_)
 .
  refine qf6 ?_;refine qdg ?_;refine Ct ?_;refine zhJ (nL:=6) rfl hrc3 rfl yl ?_;refine CI ?_;refine CQ ?_;refine qbc ?_;refine G0 zd1 ?_;refine zaj (d:=33) (p:=¬out.length=n0.toNat) rfl (by rw[<-decide_not,uo,hti8];simp only[IntL.toI,id_eq];omega) (fun g33=>?_) (fun g33=>?_)
  .
   refine G0 mV ?_;refine qaP ?_;refine G2 ?_;refine qaY ?_;refine Ct ?_;refine qbE ?_;refine zaA (zcp (nD:=5) rfl rfl rfl ?_);exact zj2 rfl rfl (zhn rfl (by rw[zaQ hn0 (zaP hinv (.inl g15)),ur (fun h=>g33 h.1)])) (za rfl (by rw[zaQ hn0 (zaP hinv (.inl g15)),ur (fun h=>g33 h.1)]))
  refine G0 mV ?_;refine G1 (oLs rfl rfl rfl ty_3) ?_;refine G1 (oLs rfl rfl rfl zji) ?_;refine G1 (zaC rfl rfl zfT) ?_;refine G1 zd1 ?_;refine qaY ?_;refine zl (p:=¬p=b.length) rfl yag (fun ht39=>?_) (fun ht39=>?_)
  .
   refine qbE ?_;refine zaA (zcp (nD:=5) rfl rfl rfl ?_);exact zj2 rfl rfl (zhn rfl ya8) (za rfl ya8)
  refine qgi ?_;refine qcl ?_;refine zaA (zcp (nD:=5) rfl rfl rfl ?_);exact zj2 rfl rfl (zf rfl rfl ybh) (za rfl ybh)
 have hce:cutE b p=true:=by simpa using g15
 obtain⟨q,hq,hpq,hqb,hxl⟩:=zrC hinv.p2 hce;have hol:=hinv.n;refine qaz ?_;refine A1 mL ?_;refine qdi ?_;refine aw_unguard rfl rfl rfl rfl rfl rfl ?_;refine zi7 (nL:=6) rfl rfl rfl rfl rfl hrc3 rfl rfl rfl (fun ya4 yok4=>?_);refine CQR ?_;refine qcc ?_;refine qad ?_;refine zjb (nL:=6) hrc3 rfl ?_;refine CB ?_;refine CQ ?_;refine qbc ?_;refine G0 zd7 ?_;refine GK.nil ?_;refine Cf (p:=out.length=n0.toNat) (fun ht21=>?_) (fun ht21=>?_)
 .
  refine zrK (nL:=6) rfl hrc3 rfl ?_;refine A1 oN ?_;refine qat ?_;refine Ct ?_;refine zhJ (nL:=6) rfl hrc3 rfl yl ?_;refine qe7 ?_;refine qbc ?_;refine G0 zd1 ?_;refine zaj (d:=33) (p:=¬out.length=n0.toNat) rfl (by rw[<-decide_not,uo,hti8];simp only[IntL.toI,id_eq];omega) (fun g33=>?_) (fun g33=>?_)
  .
   refine G0 mV ?_;refine qaP ?_;refine G2 ?_;refine qaY ?_;refine Ct ?_;refine qbE ?_;refine zaA (zcp (nD:=5) rfl rfl rfl ?_);exact zj2 rfl rfl (zhn rfl (by rw[zaQ hn0 (zaP hinv (.inr ht21)),ur (fun h=>g33 h.1)])) (za rfl (by rw[zaQ hn0 (zaP hinv (.inr ht21)),ur (fun h=>g33 h.1)]))
  refine G0 mV ?_;refine G1 (oLs rfl rfl rfl ty_3) ?_;refine G1 (oLs rfl rfl rfl zji) ?_;refine G1 (zaC rfl rfl zfT) ?_;refine G1 zd1 ?_;refine qaY ?_;refine zl (p:=¬p=b.length) rfl yag (fun ht39=>?_) (fun ht39=>?_)
  .
   refine qbE ?_;refine zaA (zcp (nD:=5) rfl rfl rfl ?_);exact zj2 rfl rfl (zhn rfl ya6) (za rfl ya6)
  refine qgi ?_;refine qcl ?_;refine zaA (zcp (nD:=5) rfl rfl rfl ?_);exact zj2 rfl rfl (zf rfl rfl ybf) (za rfl ybf)
 refine qgi ?_;refine qaz ?_;refine A0 (zW (T:=(sl u8T)) (xs:=[_]) rfl zcK zcQ yA rfl rfl) ?_;refine zp rfl rfl rfl rfl rfl rfl rfl zcQ yB ?_;refine zay rfl rfl rfl rfl rfl rfl rfl rfl rfl rfl ty_189 ?_;refine qf1 ?_;refine qdk ?_;refine CN ?_;refine CI ?_;refine zdV (nL:=6) hrc3 rfl ?_;refine A1 oN ?_;refine qat ?_;refine Cg ?_;refine CS ?_;refine qe5 ?_;refine qad ?_;refine CI ?_;refine zco 8 7 9 rfl rfl rfl rfl rfl rfl ?_;refine zt (n:=3) (y:=(((ziA b p).toNat:Nat):Int)) rfl (by rw[hq];omega) ?_;refine zj (d:=3) (y:=(((ziA b p).toNat:Nat):Int)) rfl (by rw[hq];omega) ?_;exact Nx (((ziA b p).toNat,out++[cutX b p])) (zvr hinv hce ht21) (by show b.length-(ziA b p).toNat<b.length-p;omega)
set_option maxRecDepth 20000
theorem zwc {l:List UInt8} {n:Nat} (h:l.length=n) (hn:n<=8):getU l 0 (n:Int)=valU l:=by
  have hg:zc7 l 0 (n:Int)=true:=by unfold zc7;rw[uj];omega
  rw[zgm hg,show(0:Int).toNat=0 from rfl,drop_zero,show((n:Int)).toNat=n by omega,uc ya]
theorem u32_of {l:List UInt8} (h:l.length<=4):zdS (IntL.toI u64T (valU l))=UInt32.ofNat (valU l).toNat:=by
  unfold zdS;have e:IntL.toI u64T (valU l)=((valU l).toNat:Int):=rfl;have h1:=zgJ l ya;have h2:=zjA l;have h3:256^l.length<=256^4:=Nat.pow_le_pow_right yl h;have h4:(256:Nat)^4=4294967296:=rfl;rw[e];congr 1;omega
theorem dd (b:List UInt8) (i j k:Nat) (h:i+j=k):(b.drop i).drop j=b.drop k:=by rw[List.drop_drop,h]
theorem num4_at {X:List UInt8} (h:4<=X.length):getU (X.take (Int.toNat 4)) 0 4=valU (X.take 4):=zwc (l:=X.take 4) (n:=4) ybR yl
theorem num8_at {X:List UInt8} (h:8<=X.length):getU (X.take (Int.toNat 8)) 0 8=valU (X.take 8):=zwc (l:=X.take 8) (n:=8) ybR yl
theorem zfq {l:List UInt8} (h:l.length<=4):IntKind.i64.wrap (IntL.toI u64T (valU l))=((valU l).toNat:Int):=by
  have e:IntL.toI u64T (valU l)=((valU l).toNat:Int):=rfl;have h1:=zgJ l ya;have h2:=zjA l;have h3:256^l.length<=256^4:=Nat.pow_le_pow_right yl h;have h4:(256:Nat)^4=4294967296:=rfl;rw[e];exact z8 ya
theorem head_mk {x y:Head} (h1:x.height=y.height) (h2:x.prev=y.prev) (h3:x.links=y.links) (h4:x.txs=y.txs) (h5:x.past=y.past) (h6:x.work=y.work) (h7:x.bits=y.bits) (h8:x.nonce=y.nonce):x=y:=by
  cases x;cases y;simp only at h1 h2 h3 h4 h5 h6 h7 h8;subst h1 h2 h3 h4 h5 h6 h7 h8;rfl
def D1 (b:List UInt8):=b.drop (Int.toNat 4)
def D2 (b:List UInt8):=(D1 b).drop (Int.toNat 32)
def D3 (b:List UInt8):=(D2 b).drop (Int.toNat 32)
def D4 (b:List UInt8):=(D3 b).drop (Int.toNat 32)
def D5 (b:List UInt8):=(D4 b).drop (Int.toNat 32)
def D6 (b:List UInt8):=(D5 b).drop (Int.toNat 32)
def D7 (b:List UInt8):=(D6 b).drop (Int.toNat 4)
theorem d2 (b:List UInt8):D2 b=b.drop 36:=dd b 4 32 36 rfl
theorem d3 (b:List UInt8):D3 b=b.drop 68:=by unfold D3;rw[d2];exact dd b 36 32 68 rfl
theorem d4 (b:List UInt8):D4 b=b.drop 100:=by unfold D4;rw[d3];exact dd b 68 32 100 rfl
theorem d5 (b:List UInt8):D5 b=b.drop 132:=by unfold D5;rw[d4];exact dd b 100 32 132 rfl
theorem d6 (b:List UInt8):D6 b=b.drop 164:=by unfold D6;rw[d5];exact dd b 132 32 164 rfl
theorem d7 (b:List UInt8):D7 b=b.drop 168:=by unfold D7;rw[d6];exact dd b 164 4 168 rfl
theorem rd_is {b:List UInt8} (hl:b.length=176) {x:Head} (h1:x.height=IntKind.i64.wrap (IntL.toI u64T (getU (b.take (Int.toNat 4)) 0 4))) (h2:x.prev=(D1 b).take (Int.toNat 32)) (h3:x.links=(D2 b).take (Int.toNat 32)) (h4:x.txs=(D3 b).take (Int.toNat 32)) (h5:x.past=(D4 b).take (Int.toNat 32))
    (h6:x.work=zfa ((D5 b).take (Int.toNat 32))) (h7:x.bits=zdS (IntL.toI u64T (getU ((D6 b).take (Int.toNat 4)) 0 4))) (h8:x.nonce=getU ((D7 b).take (Int.toNat 8)) 0 8):x=zaD b:=by
  rw[num4_at ya,zfq ybR] at h1;rw[d2] at h3;rw[d3] at h4;rw[d4] at h5;rw[d5] at h6;rw[d6,num4_at yby,u32_of ybR] at h7;rw[d7,num8_at yby] at h8;exact head_mk (h1.trans yaz) (h2.trans ybD) (h3.trans ybD) (h4.trans ybD) (h5.trans ybD) (h6.trans ybD) (h7.trans yaz) (h8.trans yaz)
theorem zmV {b:List UInt8} (h:¬za0 b=true):zgx b=zlm:=by unfold zgx;rw[ur h]
theorem zkt {b:List UInt8} (h:za0 b=true):zgx b=zaD b:=by unfold zgx;rw[ut h]
theorem zuj (b:List UInt8):Tells P 111 [.val (bsl u8T) b] (.tup2 (.val zbk (zgx b)) (.val zo (za0 b))):=by
 refine zc Tryz.func111 rfl rfl rfl (fun ext w hext=>?_);refine ze (d:=0) rfl zk (fun hsl0=>?_);refine CQR ?_;refine qce ?_;refine qag ?_;refine qcr ?_;refine qaG ?_;refine zl (p:=¬b.length=176) rfl yag (fun ht8=>?_) (fun ht8=>?_)
 .
  have hno:¬za0 b=true:=by unfold za0;rw[uk,uj];exact fun h=>ht8 h.1
  refine CQR ?_;refine A0 (zJ rfl zlj zrI .nil rfl) ?_;refine qaK ?_;refine qad ?_;exact zi rfl rfl (zm rfl rfl zbZ ((zmV hno).symm)) (zC (za rfl ((eq_false_iff.2 hno).symm)))
 have hl:b.length=176:=ua ht8;refine qbY ?_;refine A0 (zJ rfl ze_267 bd_267 (.cons zm8 zjd zji rfl .nil) rfl) ?_;refine qfn ?_;refine A0 aP ?_;refine CNQR ?_;refine qce ?_;refine qgk ?_;refine z6 rfl rfl rfl rfl Tryz.func173 fn_173 rfl rfl (fun ia1 iok1=>?_);refine qf5 ?_;refine A0 mP ?_;refine qaz ?_;refine z6 rfl rfl rfl rfl Tryz.func234 zmc rfl rfl (fun ia2 iok2=>?_);refine qax ?_;refine qaz ?_;refine qbq ?_;refine A0 (zhs rfl (ui_3) (zqB) rfl yaE) ?_;refine A0 (oFp zcI) ?_;refine zg rfl rfl rfl rfl rfl zal ty_3 rfl ?_;refine qgk ?_;refine z6 rfl rfl rfl rfl Tryz.func174 ztf rfl rfl (fun ia3 iok3=>?_);refine qbH ?_;refine A0 mP ?_;refine z6 rfl rfl rfl rfl Tryz.func234 zmc rfl rfl (fun ia4 iok4=>?_);refine qax ?_;refine xC ?_;refine qc4 ?_;refine A0 mP ?_;refine z6 rfl rfl rfl rfl Tryz.func174 ztf rfl rfl (fun ia5 iok5=>?_);refine qbH ?_;refine A0 mP ?_;refine z6 rfl rfl rfl rfl Tryz.func234 zmc rfl rfl (fun ia6 iok6=>?_);refine qax ?_;refine xC ?_;refine qc4 ?_;refine A0 mP ?_;refine z6 rfl rfl rfl rfl Tryz.func174 ztf rfl rfl (fun ia7 iok7=>?_);refine qbH ?_;refine A0 mP ?_;refine z6 rfl rfl rfl rfl Tryz.func234 zmc rfl rfl (fun ia8 iok8=>?_);refine qax ?_;refine xC ?_;refine qc4 ?_;refine A0 mP ?_;refine z6 rfl rfl rfl rfl Tryz.func174 ztf rfl rfl (fun ia9 iok9=>?_);refine qbH ?_;refine A0 mP ?_;refine z6 rfl rfl rfl rfl Tryz.func234 zmc rfl rfl (fun ia10 iok10=>?_);refine qax ?_;refine xC ?_;refine qc4 ?_;refine A0 (oFp zez) ?_;refine zg rfl rfl rfl rfl rfl zbB zY rfl ?_;refine A0 (oFp zey) ?_;refine zg rfl rfl rfl rfl rfl zbc zY rfl ?_;refine A0 (oFp zfW) ?_;refine zg rfl rfl rfl rfl rfl zcF zY rfl ?_;refine A0 (oFp zhw) ?_;refine zg rfl rfl rfl rfl rfl zcZ zY rfl ?_;refine qgk ?_;refine z6 rfl rfl rfl rfl Tryz.func174 ztf rfl rfl (fun ia11 iok11=>?_);refine qbH ?_;refine A0 mP ?_;refine z6 rfl rfl rfl rfl Tryz.func234 zmc rfl rfl (fun ia12 iok12=>?_);refine qax ?_;refine xC ?_;refine qc4 ?_;refine A0 (oCl (zvU _) rfl fn_175 yd) ?_;refine A0 (oFp zjW) ?_;refine zg rfl rfl rfl rfl rfl zeH zag rfl ?_;refine qgk ?_;refine z6 rfl rfl rfl rfl Tryz.func173 fn_173 rfl rfl (fun ia13 iok13=>?_);refine qf5 ?_;refine A0 mP ?_;refine qaz ?_;refine z6 rfl rfl rfl rfl Tryz.func234 zmc rfl rfl (fun ia14 iok14=>?_);refine qax ?_;refine qaz ?_;refine qbq ?_;refine A0 (g_cv32 rfl (ui_53) (zqB) rfl) ?_;refine A0 (oFp zdg) ?_;refine zg rfl rfl rfl rfl rfl zaX zbC rfl ?_;refine qgk ?_;refine z6 rfl rfl rfl rfl Tryz.func173 fn_173 rfl rfl (fun ia15 iok15=>?_);refine qf5 ?_;refine A0 mP ?_;refine qaz ?_;refine z6 rfl rfl rfl rfl Tryz.func234 zmc rfl rfl (fun ia16 iok16=>?_);refine qax ?_;refine qaz ?_;refine qbq ?_;refine A0 (oFp zgF) ?_;refine zg rfl rfl rfl rfl rfl zcd za2 rfl ?_;refine CNQ ?_;refine CQ ?_;refine zt (n:=2) (y:=zaD b) rfl (rd_is hl yad yad yad yad yad yad yad yad) ?_;refine CR ?_;refine qb7 ?_;refine qc2 ?_;refine Cf (p:=1048576<(zaD b).height) (fun ht42=>?_) (fun ht42=>?_)
 .
  have hno:¬za0 b=true:=fun h=>by have:=(rd_ok (b:=b) (by unfold za0 at h;rw[uk,uj,uj] at h;exact h.2)).2;omega
  refine CQR ?_;refine A0 (zJ rfl zlj zrI .nil rfl) ?_;refine qaK ?_;refine qad ?_;exact zi rfl rfl (zm rfl rfl zbZ ((zmV hno).symm)) (zC (za rfl ((eq_false_iff.2 hno).symm)))
 have hrh:(zaD b).height=((valU (b.take 4)).toNat:Int):=yaz;have hyes:za0 b=true:=by unfold za0;rw[uk,uj,uj];exact⟨hl,by omega⟩
 refine CSQR ?_;refine qci ?_;refine qaK ?_;refine qad ?_;exact zi rfl rfl (zm rfl rfl zbZ ((zkt hyes).symm)) (zC (za rfl (hyes.symm)))
abbrev noV:Value:=.iface 187 (.agg #[])
theorem fine_idle (b:Nat) (w:World):CallsDIn Fence.wide 0 P 108 #[.pointer (some ⟨b,0,none⟩)] .returning w fun e u w'=>e = .returned (.tuple #[])/\u = .returning/\w'=w:=by
  have hn:Tryz.f108.ntmps=7:=rfl;refine callsDIn_of_wpSIn Tryz.func108 rfl trivial fun c₀ cs hu=>?_
  rw[hn];apply wpSIn_seq;apply wpSIn_region;simp[wpOpsSIn,go_sem,recoverD,hu,Exit.thenS];apply wpSIn_seq;apply wpSIn_region;simp[wpOpsSIn,go_sem,recoverD,hu,Exit.thenS];refine wpSIn_cond (t:=false) (by simp[Act.eval,Array.replicate]) ?_;simp only[Bool.false_eq_true,if_false];refine wpSIn_of_wpIn rfl (wpIn_skip ?_);cases c₀
  simp_all [bodyPostS,results]
theorem zuB (b : Nat) (w : World) (x : Bool) (hw : w.heap[b]? = some (.cells #[.bool x] 4 (0, 0))) : CallsDIn Fence.wide 0 P 108 #[.pointer (some ⟨b, 0, none⟩)] (.panicking [{ v := noV, recovered := false }]) w
    fun e u w'=>e = .returned (.tuple #[])/\u = .panicking [{ v:=noV,recovered:=true }]/\w'=w.putObj b (.cells #[.bool false] 4 (0,0)):=by
  have hn:Tryz.f108.ntmps=7:=rfl;refine callsDIn_of_wpSIn Tryz.func108 rfl trivial fun c₀ cs hu=>?_
  rw[hn];apply wpSIn_seq;apply wpSIn_region;simp[wpOpsSIn,go_sem,recoverD,hu,Exit.thenS];apply wpSIn_seq;apply wpSIn_region;simp[wpOpsSIn,go_sem,recoverD,hu,Exit.thenS];refine wpSIn_cond (t:=true) (by simp[Act.eval,Array.replicate]) ?_;simp only[if_true];apply wpSIn_seq;apply wpSIn_region;simp[wpOpsSIn,go_sem,recoverD,hu,Exit.thenS];have hta:∀w,(Instr.typeAssert noV 20 187 false).run P w = .ok (.agg #[]) w:=fun w=>by kernel_rfl
  have hc:w.cell? { block:=b,off:=0 }=some (.bool x):=by simp[World.cell?,hw]
  have hz:w.frozen? { block:=b,off:=0 }=false:=by simp[World.frozen?,hw]
  have hs:w.setCell { block:=b,off:=0 } (.bool false)=w.putObj b (.cells #[.bool false] 4 (0,0)):=by
    unfold World.setCell World.putObj;congr 1;apply Array.ext_getElem?;intro i;rw[Array.getElem?_modify,Array.getElem?_setIfInBounds];by_cases e:b=i
    . subst e
      have hlt:b<w.heap.size:=(Array.getElem?_eq_some_iff.1 hw).1;rw[ut rfl,ut rfl,ut hlt,hw];rfl
    rw[ur e,ur e]
  rw[hta];simp only[Result.andThen_ok];apply wpSIn_region;simp[wpOpsSIn,go_sem,hc,hz,hs,bodyPostS,results]
theorem zgp:Catches P 108 4 noV:=⟨fn_108,fine_idle,zuB⟩
theorem zb2 (b:Bool):zoY P 109 [.val zo b] (b=true) noV (.lit (.tuple #[])):=by
 refine zis Tryz.func109 rfl rfl rfl (fun ext w hext=>?_);refine qb1 ?_;refine qaT ?_;refine zl (p:=¬b=true) rfl (by cases b<;>rfl) (fun ht3=>?_) (fun ht3=>?_)
 .
  refine CR ?_;refine A0 (zwh rfl zu_187 su_187) ?_;refine A0 (g_mkif rfl rfl yt) ?_;refine aw_panic rfl rfl rfl ?_;exact zoX (ht3)
 refine CS ?_;exact aw_fall (zwX rfl rfl rfl (ua ht3))
theorem zqO (l:List (List UInt8)):zoY P 167 [.val (bsl (bsl u8T)) l] (zdj l=true) noV (.fresh 5 u8T (zh9 l)):=by
 refine zis Tryz.func167 rfl rfl rfl (fun ext w hext=>?_);refine ze (d:=0) rfl zk (fun hsl0=>?_);refine qbQ ?_;refine qaz ?_;refine ziF (binRows_ok l) rfl fn_219 yd zit rfl rfl rfl ?_;refine A0 yz ?_;refine qaa ?_;refine A0 aO ?_;refine qfw ?_;refine zbf (zb2 (zdj l)) rfl zdd rfl yb1 (fun hm=>?_) (fun hm=>?_)
 .
  exact zoX (hm)
 refine A0 (oCl ((zb2 (zdj l)).1 hm) rfl zdd yb1) ?_;refine qgn ?_;refine qbG ?_;exact zrL rfl rfl hm (zf rfl rfl (by unfold zjJ;rw[ut hm]))
theorem zkg (b:List UInt8) (hb:b.length<=1000000000):zoY P 110 [.val (bsl u8T) b] ((zw b).2=true) noV (.fresh 22 (sl u8T) (zw b).1):=by
 refine zis Tryz.func110 rfl rfl rfl (fun ext w hext=>?_);refine ze (d:=0) rfl zk (fun hsl0=>?_);refine qbQ ?_;refine qaz ?_;refine ziF (zuX b hb) rfl fn_172 yd zit rfl rfl rfl ?_;refine A0 yz ?_;refine qaa ?_;refine A0 aO ?_;refine qfw ?_;refine zbf (zb2 (zw b).2) rfl zdd rfl yb1 (fun hm=>?_) (fun hm=>?_)
 .
  exact zoX (hm)
 refine A0 (oCl ((zb2 (zw b).2).1 hm) rfl zdd yb1) ?_;refine qgn ?_;refine qbG ?_;exact zrL rfl rfl hm (zf rfl rfl rfl)
theorem zkx (p:Proof):zoY P 112 [.rptr paperT p] (zh8 p=true) noV (.lit (.tuple #[])):=by
 refine zis Tryz.func112 rfl rfl rfl (fun ext w hext=>?_);refine CQR ?_;refine qfl ?_;refine A0 (oFr zed zem) ?_;refine qbs ?_;refine A0 zgb ?_;refine Sp (d:=9) (p:=1<=p.m) (fun g9=>?_) (fun g9=>?_)
 .
  refine qaz ?_;refine qd8 ?_;refine A1 (oFr zed zem) ?_;refine A1 (zh rfl rfl ty_3) ?_;refine A1 zfR ?_;refine Sp (d:=16) (p:=p.m<=20) (fun g16=>?_) (fun g16=>?_)
  .
   refine qai ?_;refine qd8 ?_;refine A1 (oFr zdJ zdu) ?_;refine A1 (zh rfl rfl ty_3) ?_;refine A1 zgb ?_;refine Sp (d:=24) (p:=1<=p.k) (fun g24=>?_) (fun g24=>?_)
   .
    refine qai ?_;refine qd8 ?_;refine A1 (oFr zdJ zdu) ?_;refine A1 (zh rfl rfl ty_3) ?_;refine A1 zfR ?_;refine Sp (d:=32) (p:=p.k<=20) (fun g32=>?_) (fun g32=>?_)
    .
     refine qai ?_;refine qd8 ?_;refine A1 (oFr za1 zaB) ?_;refine A1 (zh rfl rfl zcy) ?_;refine A1 yae ?_;refine A1 zfR ?_;refine A0 oK ?_;refine zbf (zb2 (decide ((p.p.length:Int)<=100))) rfl zdd rfl yd (fun hm=>?_) (fun hm=>?_)
     .
      exact zoX (fun h=>hm (ui (by have:=(zbz h).1;omega)))
     refine A0 (oCl ((zb2 (decide ((p.p.length:Int)<=100))).1 hm) rfl zdd yd) ?_;refine CNQR ?_;refine qfl ?_;refine A0 (oFr za1 zaB) ?_;refine A0 (zh rfl rfl zcy) ?_;refine A0 yae ?_;refine qaF ?_;refine Lp (ι:=Nat) 0 (fun i=>((Fr.none.set 48 (.val (sl zaK) p.p)).set 49 (.val i64T (p.p.length:Int))).set 50 (.val i64T (i:Int))) (fun i=>Hp.none) (fun i=>i<=p.p.length/\∀x∈p.p.take i,x.l.length<=32) (fun i=>p.p.length-i) (0) (⟨uf _,fun x hx=>by simp at hx⟩) ?_;intro i hinv;refine qap ?_;refine Cf (p:=i<p.p.length) (fun ht51=>?_) (fun ht51=>?_)
     .
      have hlb:(p.p.length:Int)<=100:=of_decide_eq_true hm;obtain⟨x,hx⟩:∃x,p.p[i]?=some x:=⟨_,ub ht51⟩;refine qeh ?_;refine xB ?_;refine qbn ?_;refine CNR ?_;refine qec ?_;refine qbj ?_;refine A0 zfR ?_;refine zbf (zb2 (decide ((x.l.length:Int)<=32))) rfl zdd rfl yd (fun hm2=>?_) (fun hm2=>?_)
      .
       exact zoX (fun h=>hm2 (ui (by have:=(zbz h).2 x (ud hx);omega)))
      refine A0 (oCl ((zb2 (decide ((x.l.length:Int)<=32))).1 hm2) rfl zdd yd) ?_;refine qb8 ?_;exact Nx (i+1) (⟨by omega,fun y hy=>by rw[un,hx] at hy;rcases mem_append.1 hy with h|h;exact hinv.2 y h;simp at h;rw[h];have:=of_decide_eq_true hm2;omega⟩) ya
     refine CE ?_;exact aw_fall (zwX rfl rfl rfl (by unfold zh8;rw[uk,uj,all_eq_true];exact⟨⟨g9,g16,g24,g32,by have:=of_decide_eq_true hm;omega⟩,fun y hy=>ui (hinv.2 y (by rw[uc ya];exact hy))⟩))
    refine qaH ?_;refine qda ?_;refine A0 oK ?_;refine zbf (zb2 false) rfl zdd rfl yd (fun hm=>?_) (fun h=>absurd h yl);exact zoX (fun h=>by have:=(zbz h).1;omega)
   refine qaH ?_;refine qcX ?_;refine qda ?_;refine A0 oK ?_;refine zbf (zb2 false) rfl zdd rfl yd (fun hm=>?_) (fun h=>absurd h yl);exact zoX (fun h=>by have:=(zbz h).1;omega)
  refine qaH ?_;refine qcX ?_;refine qcX ?_;refine qda ?_;refine A0 oK ?_;refine zbf (zb2 false) rfl zdd rfl yd (fun hm=>?_) (fun h=>absurd h yl);exact zoX (fun h=>by have:=(zbz h).1;omega)
 refine qf6 ?_;refine qcX ?_;refine qcX ?_;refine qcX ?_;refine qda ?_;refine A0 oK ?_;refine zbf (zb2 false) rfl zdd rfl yd (fun hm=>?_) (fun h=>absurd h yl);exact zoX (fun h=>by have:=(zbz h).1;omega)
theorem hd_rel {U N:Nat->Prop} {w:World} {h:Head} {cs:List Value} (hr:zbk.rel U N w h cs):HW h:=by
  obtain⟨_,_,_,_,_,_,_,h1,_,_,_,h2,_,_,_,h3,_,_,_,h4,_,_,_,h5,_⟩:=hr;exact⟨h1.1,h2.1,h3.1,h4.1,h5.1⟩
theorem is_rel {U N:Nat->Prop} {w:World} {b:Bool} {l:List Ab.Id} {cs:List Value} (hr:(slT b idT).rel U N w l cs):∀y∈l,y.length=32:=fun x hx=>by
  obtain⟨ad,cap,_,_,_,h3⟩:=hr;obtain⟨_,ds,_,_,hr,_⟩:=h3 (List.ne_nil_of_mem hx);obtain⟨c,hc⟩:=ziS hr x hx;exact hc.1
theorem fact_pw {p:Proof} {ρ:Nat->Value} {B:Nat->Prop} {U N:Nat->Prop} {w:World} {v:Value} (h:(AV.val zP p).rel ρ B U N w v):PW p:=by
  obtain⟨cs,⟨c1,c2,_,_,c3,c4,_,_,a,cap,_,_,_,h3⟩,_⟩:=h;intro x hx;obtain⟨i,hi⟩:=List.getElem?_of_mem hx;obtain⟨ad,ds,_,_,hr,_⟩:=h3 (List.ne_nil_of_mem hx);obtain⟨d1,d2,_,hh,hl⟩:=hr.get hi;exact⟨hd_rel hh,is_rel hl⟩
theorem putL_is (p:Proof):putL p=zaF (IntL.toI i64T p.m)::zaF (IntL.toI i64T p.k)::zh9 (p.p.map zaL):=rfl
theorem wok_of {p:Proof} (hs:zh8 p=true) (h:∀x∈p.p,hOk x.h=true):wOk p=true:=by unfold wOk;rw[hs,Bool.true_and,all_eq_true];exact h
theorem sum_le {α:Type} (f:α->Nat) (c:Nat):∀l:List α,(∀x∈l,f x<=c)->(l.map f).sum<=l.length*c
  | [],_=>by simp
  | x::l,h=>by
    rw[map_cons,sum_cons,length_cons,Nat.add_mul,Nat.one_mul];have h1:=sum_le f c l (fun y hy=>h y (List.mem_cons_of_mem _ hy));have h2:=h x (List.mem_cons_self ..);omega
theorem put_bd {p:Proof} (hw:PW p) (h:wOk p=true):(putL p).length<=126903:=by
  obtain⟨h1,h2⟩:=zbz (zhi h).1;rw[put_len hw h];have h3:=sum_le (fun x:Part=>181+34*x.l.length) 1269 p.p (fun x hx=>by have:=h2 x hx;omega);have h4:p.p.length*1269<=100*1269:=Nat.mul_le_mul_right _ h1.2.2.2.2;omega
theorem rows_bd {p:Proof} (hw:PW p) (h:wOk p=true):(zh9 (p.p.map zaL)).length<=126901:=by
  have:=put_bd hw h
  rw[putL_is,length_cons,length_cons] at this;omega
def zgy (p:Proof):List UInt8:=if wOk p=true then putL p else []
theorem zsB (p:Proof) (hw:PW p):zoY P 99 [.rptr paperT p] (wOk p=true) noV (.fresh 5 u8T (putL p)):=by
 refine zis Tryz.func99 rfl rfl rfl (fun ext w hext=>?_);refine qbQ ?_;refine A0 mR ?_;refine zbf (zkx p) rfl zws rfl ⟨(zH rfl),trivial⟩ (fun hs=>?_) (fun hs=>?_)
 .
  exact zoX (fun h=>hs (zhi h).1)
 refine A0 (oCl ((zkx p).1 hs) rfl zws ⟨(zH rfl),trivial⟩) ?_;refine qfI ?_;refine CNQQR ?_;refine qfl ?_;refine A0 (oFr za1 zaB) ?_;refine A0 (zh rfl rfl zcy) ?_;refine A0 yae ?_;refine qaF ?_;have hlb:=(zbz hs).1;refine za7 (T:=bsl u8T) (d:=3) 22 rfl ?_;refine Lp (ι:=Nat) 1 (fun i=>((((Fr.none.set 0 (.rptr paperT p)).set 3 (.own 0)).set 17 (.val (sl zaK) p.p)).set 18 (.val i64T (p.p.length:Int))).set 19 (.val i64T (i:Int))) (fun i=>Hp.none.set 0 (.row 22 (bsl u8T) ((p.p.take i).map zaL))) (fun i=>i<=p.p.length/\∀x∈p.p.take i,hOk x.h=true) (fun i=>p.p.length-i) (0) (⟨uf _,fun x hx=>by simp at hx⟩) ?_;intro i hinv;refine qap ?_;refine Cf (p:=i<p.p.length) (fun ht20=>?_) (fun ht20=>?_)
 .
  obtain⟨x,hx⟩:∃x,p.p[i]?=some x:=⟨_,ub ht20⟩;refine qeh ?_;refine xB ?_;refine qbn ?_;refine CNQR ?_;refine qdt ?_;refine A0 (oCl (zbi (hput_ok x.h)) rfl fn_69 yd) ?_;refine qaA ?_;refine qfx ?_;refine zbf (zb2 (hOk x.h)) rfl zdd rfl yd (fun hm=>?_) (fun hm=>?_)
  .
   exact zoX (fun h=>hm ((zhi h).2 x (ud hx)))
  refine A0 (oCl ((zb2 (hOk x.h)).1 hm) rfl zdd yd) ?_;refine qd5 ?_;refine zfi (S:=bsl u8T) (d:=31) rfl ?_;refine zbg (T:=(bsl u8T)) (xs:=[_]) rfl rfl rfl rfl zcK zcQ yA rfl rfl ?_;refine A0 aO ?_;refine CNQQR ?_;refine qec ?_;refine qbj ?_;refine qaF ?_;have hxl:=(zbz hs).2 x (ud hx);refine Lp (ι:=Nat) 3 (fun j=>((((((((Fr.none.set 0 (.rptr paperT p)).set 3 (.own 0)).set 8 (.own 2)).set 17 (.val (sl zaK) p.p)).set 18 (.val i64T (p.p.length:Int))).set 19 (.val i64T (i:Int))).set 34 (.val (sl idT) x.l)).set 35 (.val i64T (x.l.length:Int))).set 36 (.val i64T (j:Int))) (fun j=>(Hp.none.set 0 (.row 22 (bsl u8T) ((p.p.take i).map zaL))).set 2 (.row 22 (bsl u8T) (zad x.h::x.l.take j))) (fun j=>j<=x.l.length) (fun j=>x.l.length-j) (0) (uf _) ?_;intro j hj;refine qap ?_;refine Cf (p:=j<x.l.length) (fun ht37=>?_) (fun ht37=>?_)
  .
   obtain⟨y,hy⟩:∃y,x.l[j]?=some y:=⟨_,ub ht37⟩;refine qeh ?_;refine A0 (zx (i:=j) rfl rfl rfl ya zce yj) ?_;refine qeQ ?_;refine qaC ?_;refine qbP ?_;refine zel (d:=10) rfl rfl (Lens.self _) ?_;refine qcU ?_;refine qbJ ?_;refine qdj ?_;refine zp rfl rfl rfl rfl rfl rfl rfl zcQ (by simp[um];omega) ?_;refine qem ?_;refine qeu ?_;refine zq (n:=2) (y:=zad x.h::x.l.take (j+1)) rfl (by rw[un,hy];rfl) ?_;exact Nx (j+1) ya ya
  refine CE ?_;have hr1:=row_ok (hw x (ud hx)).1 hm (hw x (ud hx)).2 ((zbz hs).2 x (ud hx));refine zq (n:=2) (y:=zad x.h::x.l) rfl yO ?_;refine qcU ?_;refine A0 mO ?_;refine A0 (oCl (zu ((zqO (zad x.h::x.l)).1 hr1)) rfl fn_167 ⟨(zL rfl rfl),trivial⟩) ?_;refine zfi (S:=bsl u8T) (d:=47) rfl ?_;refine qdj ?_;refine zp rfl rfl rfl rfl rfl rfl rfl zcQ (by simp[um];omega) ?_;refine qem ?_;refine zco 3 0 4 rfl rfl rfl rfl rfl rfl ?_;refine zq (n:=0) (y:=(p.p.take (i+1)).map zaL) rfl ybr ?_;exact Nx (i+1) (⟨by omega,fun y hy=>by rw[un,hx] at hy;rcases mem_append.1 hy with h|h;exact hinv.2 y h;simp at h;rw[h];exact hm⟩) ya
 refine qe7 ?_;have hwk:=wok_of hs (fun y hy=>hinv.2 y (by rw[uc ya];exact hy));have hbd:=rows_bd hw hwk;refine zq (n:=0) (y:=p.p.map zaL) rfl yO ?_;refine zA [some 1,some 1,some 1,some 1,some 1,some 1,some 1,some 1,some 1,some 1,some 1,some 1,none,some 2,some 2,none,some 1] mixed yc ?_;refine X0 mR ?_;refine X0 (zep rfl rfl) ?_;refine X0 (oFr zeO ziK) ?_;refine X0 (oFr zed zem) ?_;refine X0 (zh rfl rfl ty_3) ?_;refine X0 (zmE rfl (ui_5) (us_3) rfl) ?_;refine X0 mR ?_;refine X0 (zep rfl rfl) ?_;refine X0 (oFr zeO ziK) ?_;refine X0 (oFr zdJ zdu) ?_;refine X0 (zh rfl rfl ty_3) ?_;refine X0 (zmE rfl (ui_5) (us_3) rfl) ?_;refine XK.e (fun fr' hfr kk H=>by exact zbg (T:=u8T) (xs:=[_,_]) rfl rfl rfl rfl zb0 zat ⟨rfl,((hfr 56 yc).trans rfl),rfl,((hfr 62 yc).trans rfl),trivial⟩ rfl rfl (zD H)) ?_;refine XK.g2 (g_mo (.inl rfl) rfl) (g_mo (.inl rfl) rfl) rfl rfl rfl ?_;refine XK.g2 (zcT (zu ((zqO (p.p.map zaL)).1 (zmY hw hwk))) rfl fn_167 ⟨(zL rfl rfl),trivial⟩ rfl) (zcT (zu ((zqO (p.p.map zaL)).1 (zmY hw hwk))) rfl fn_167 ⟨(zL rfl rfl),trivial⟩ rfl) rfl rfl rfl ?_;refine XK.e (fun fr' hfr kk H=>by exact zp rfl rfl rfl rfl ((hfr 63 yc).trans rfl) rfl ((hfr 65 yc).trans rfl) zat (by simp[um];omega) (zD H)) ?_;refine X0 aO ?_;refine qe6 ?_;exact zrL rfl rfl hwk (zf rfl rfl rfl)
theorem pput_ok (p:Proof):Tells P 43 [.val zP p] (.tup2 (.val (sl u8T) (zgy p)) (.val zo (wOk p))):=by
 refine zc Tryz.func43 rfl rfl rfl (fun ext w hext=>?_);refine ze (d:=0) rfl fact_pw (fun hw=>?_);refine qbN ?_;refine qeV ?_;refine A0 (zJ rfl ze_110 bd_110 (.cons zeO ziK zaO rfl .nil) rfl) ?_;refine qfn ?_;refine zjc zp_108 rfl rfl rfl rfl rfl rfl ?_;refine zay rfl rfl rfl rfl rfl rfl rfl rfl rfl rfl zr2 ?_;refine CNQR ?_;refine zN ze_22 rfl rfl rfl rfl ?_;refine CNQR ?_;refine qfK ?_;refine z6 rfl rfl rfl rfl Tryz.func49 fn_49 rfl rfl (fun ia2 iok2=>?_);refine CQR ?_;refine zN ze_4 rfl rfl rfl rfl ?_;refine CNQR ?_;refine qex ?_;refine zwT rfl rfl rfl rfl rfl rfl rfl (fun bD=>?_);refine CNQR ?_;refine A0 mC ?_;refine zdW rfl rfl rfl rfl rfl Tryz.func98 fn_98 rfl rfl y5 (fun ia3 iok3=>?_);refine CR ?_;refine A0 (zaf rfl rfl rfl rfl rfl zr2) ?_;refine zbf (zsB p hw) rfl fn_99 rfl yb4 (fun hm=>?_) (fun hm=>?_)
 .
  refine ap_inl ?_;refine ap_fine (n:=4) zgp rfl rfl rfl ty_4 ?_;refine qaj ?_;refine qez ?_;refine qaz ?_;refine qb2 ?_;exact zG rfl rfl (za rfl (by unfold zgy;rw[ur hm])) (za rfl (eq_false_iff.2 hm).symm)
 refine A0 (oCl (zu ((zsB p hw).1 hm)) rfl fn_99 yb4) ?_;refine zg rfl rfl rfl rfl rfl (Lens.self _) zji rfl ?_;refine CN ?_;refine ziG rfl ?_;refine CNQR ?_;refine zqo rfl rfl rfl rfl rfl ty_4 rfl ?_;refine CN ?_;refine zqq zgp rfl rfl rfl ty_4 ?_;refine qaj ?_;refine qez ?_;refine qaz ?_;refine qb2 ?_;exact zG rfl rfl (za rfl (by unfold zgy;rw[ut hm])) (za rfl hm.symm)
def zen (b:List UInt8):Proof:=if zbK b=true then zeV b else zdb
theorem zd6 {b:List UInt8} (h:zbK b=false):zen b=zdb:=by unfold zen;rw[h];rfl
theorem znS {b:List UInt8} (h:zbK b=true):zen b=zeV b:=by unfold zen;rw[ut h]
theorem no_len {b:List UInt8} (h:¬decide ((2:Int)<(b.length:Int))=true):zbK b=false:=by
  unfold zbK;rw[uj] at h;rw[uh ya];rfl
theorem no_split {b:List UInt8} (h:¬(zw (b.drop 2)).2=true):zbK b=false:=by
  unfold zbK;rw[eq_false_iff.2 h,Bool.and_false];rfl
theorem zq8 {b r:List UInt8} (hr:r∈(zw (b.drop 2)).1) (h:¬zaS r=true):zbK b=false:=by
  unfold zbK
  have:(zw (b.drop 2)).1.all zaS=false:=List.all_eq_false.2 ⟨r,hr,h⟩
  rw[this,Bool.and_false];rfl
theorem no_size {b:List UInt8} (h:¬zh8 (zeV b)=true):zbK b=false:=by
  unfold zbK;rw[eq_false_iff.2 h,Bool.and_false]
theorem pno_split {r:List UInt8} (h:¬(zw r).2=true):¬zaS r=true:=fun hp=>by
  unfold zaS at hp;rw[uk] at hp;exact h hp.1
theorem pno_nil {r:List UInt8} (h:¬decide ((0:Int)<((zw r).1.length:Int))=true):¬zaS r=true:=fun hp=>by
  unfold zaS at hp;rw[uj] at h
  have:(zw r).1=[]:=List.length_eq_zero_iff.1 ya
  rw[this] at hp;simp at hp
theorem pno_head {r x:List UInt8} (hx:(zw r).1[0]?=some x) (h:¬za0 x=true):¬zaS r=true:=fun hp=>by
  unfold zaS at hp;cases hl:(zw r).1 with
  | nil=>rw[hl] at hx;simp at hx
  | cons z l =>
    rw[hl] at hx hp;simp at hx;subst hx;simp only[uk] at hp;exact h hp.2.1
theorem pno_id {r y:List UInt8} (hy:y∈(zw r).1.drop 1) (h:¬decide ((y.length:Int)=32)=true):¬zaS r=true:=fun hp=>by
  unfold zaS at hp;rw[uj] at h;cases hl:(zw r).1 with
  | nil=>rw[hl] at hy;simp at hy
  | cons z l =>
    rw[hl] at hy hp;simp only[uk,all_eq_true,uj] at hp;exact h (by have:=hp.2.2 y hy;omega)
theorem part_yes {r x:List UInt8} (h1:(zw r).2=true) (hx:(zw r).1[0]?=some x) (h2:za0 x=true) (h3:∀y∈(zw r).1.drop 1,y.length=32):zaS r=true/\(⟨zgx x,(zw r).1.drop 1⟩:Part)=za6 r:=by
  unfold zaS za6;cases hl:(zw r).1 with
  | nil=>rw[hl] at hx;simp at hx
  | cons z l =>
    rw[hl] at hx h3;simp at hx;subst hx;refine⟨?_,?_⟩
    . simp only[uk,all_eq_true,uj]
      exact⟨h1,h2,fun y hy=>h3 y hy⟩
    rw[zkt h2];rfl
theorem mem_sum {α:Type} (f:α->Nat) {x:α}:∀{l:List α},x∈l->f x<=(l.map f).sum
  | y::l,h=>by
    rw[map_cons,sum_cons];rcases List.mem_cons.1 h with e|h
    . rw[e];omega
    have:=mem_sum f h;omega
theorem zsv {b r:List UInt8} (h:(zw b).2=true) (hr:r∈(zw b).1):r.length<=b.length:=by
  have e:=(ziQ h).1;have h1:=zmS (zw b).1;rw[e] at h1;have h2:2+r.length<=_:=mem_sum (fun x:List UInt8=>2+x.length) hr;omega
theorem zqQ {b:List UInt8} (h:(zw b).2=true):(zw b).1.length<=255:=by
  have:=(ziQ h).2
  unfold zdj at this;rw[uk,uj] at this;exact this.1
theorem zve {b:List UInt8} (h1:decide ((2:Int)<(b.length:Int))=true) (h2:(zw (b.drop 2)).2=true) (h3:∀r∈(zw (b.drop 2)).1,zaS r=true) (h4:zh8 (zeV b)=true):zbK b=true:=by
  unfold zbK;rw[uj] at h1;rw[h2,h4,ui ya,all_eq_true.2 h3];rfl
theorem zvH {b:List UInt8} {b0 b1:UInt8} (h0:b[0]?=some b0) (h1:b[1]?=some b1):(⟨(b0.toNat:Int),(b1.toNat:Int),(zw (b.drop 2)).1.map za6⟩:Proof)=zeV b:=by
  unfold zeV;rw[uq,uq,h0,h1];rfl
theorem zn_paper:zaw P 110 zvK (0,0,()):=z7 (zT zbw (zT zbw zj8)) yt
def partN:GoT (Head×Unit):=zbF zbk nilT
theorem zqs:zaw P 72 partN (zlm,()):=z7 (zT zh3 zj8) yt
theorem zpu {h:Head}:zdQ partN (h,()) [.val zbk h,.lit (.slice none 0 0)]:=zaY zaZ znt
theorem zsT {h:Head} {l:List Ab.Id}:zmo zaK (⟨h,l⟩:Part) [.val zbk h] idT l:=zv4 (zoa zsU)
theorem zqb (x:UInt8):IntKind.i64.wrap (IntL.toI u8T x)=(x.toNat:Int):=by
  have h:x.toNat<256:=x.toNat_lt;have e:IntL.toI u8T x=(x.toNat:Int):=rfl;rw[e];exact z8 ya
theorem pread_ok (b:List UInt8) (hb:b.length<=1000000000):Tells P 16 [.val (bsl u8T) b] (.tup2 (.val zP (zen b)) (.val zo (zbK b))):=by
 refine zc Tryz.func16 rfl rfl rfl (fun ext w hext=>?_);refine ze (d:=0) rfl zk (fun hsl0=>?_);refine qae ?_;refine qcv ?_;refine qaj ?_;refine A0 (zJ rfl zn_paper bd_110 .nil rfl) ?_;refine qfn ?_;refine zjc zp_108 rfl rfl rfl rfl rfl rfl ?_;refine zay rfl rfl rfl rfl rfl rfl rfl rfl rfl rfl zr2 ?_;refine CN ?_;refine zek 2 (x:=(0,0,())) zjD rfl ?_;refine zeD 2 72 zaK [.val i64T 0,.val i64T 0] rfl yan ?_;refine CQQR ?_;refine qfK ?_;refine z6 rfl rfl rfl rfl Tryz.func49 fn_49 rfl rfl (fun ia3 iok3=>?_);refine CQR ?_;refine zN ze_4 rfl rfl rfl rfl ?_;refine CNQR ?_;refine qex ?_;refine zwT rfl rfl rfl rfl rfl rfl rfl (fun bD=>?_);refine CNQR ?_;refine A0 mC ?_;refine zdW rfl rfl rfl rfl rfl Tryz.func50 fn_50 rfl rfl y5 (fun ia4 iok4=>?_);refine CR ?_;refine A0 (zaf rfl rfl rfl rfl rfl zr2) ?_;refine qez ?_;refine z6 rfl rfl rfl rfl Tryz.func51 fn_51 rfl rfl (fun ia5 iok5=>?_);refine qb1 ?_;refine qcr ?_;refine A0 zcq ?_;refine zbf (zb2 (decide ((2:Int)<(b.length:Int)))) rfl zdd rfl yd (fun hm1=>?_) (fun hm1=>?_)
 .
  have hno:=no_len hm1;refine qbo ?_;refine Ct ?_;refine CQR ?_;refine xA ?_;refine qcp ?_;exact zi rfl rfl (zm rfl rfl zaO ((zd6 hno).symm)) (zC (za rfl (hno.symm)))
 refine A0 (oCl ((zb2 (decide ((2:Int)<(b.length:Int)))).1 hm1) rfl zdd yd) ?_;refine CNQ ?_;have hbl:2<b.length:=by have:=of_decide_eq_true hm1;omega
 obtain⟨b0,hb0⟩:∃x,b[0]?=some x:=yr;obtain⟨b1,hb1⟩:∃x,b[1]?=some x:=yr;have hb08:b0.toNat<256:=b0.toNat_lt;have hb18:b1.toNat<256:=b1.toNat_lt;refine zA [some 1,some 1000001,some 1,some 1,some 1,some 1,some 1,some 1,some 1,some 1000001,some 1,some 1,some 1,none,some 1,some 1,some 1,none] mixed yc ?_;refine X0 mP ?_;refine XK.ga (fun _=>g_mp (.inl rfl) rfl) rfl rfl rfl ?_;refine X0 mV ?_;refine X0 (zx (i:=0) rfl rfl rfl ya zb0 yj) ?_;refine X0 (zh rfl rfl ty_5) ?_;refine X0 (zhs rfl (ui_3) (us_5) rfl (by exact zqb _)) ?_;refine X0 mV ?_;refine X0 (zx (i:=1) rfl rfl rfl ya zb0 yj) ?_;refine X0 (zh rfl rfl ty_5) ?_;refine XK.ga (fun _=>zhs rfl (ui_3) (us_5) rfl (by exact zqb _)) rfl rfl rfl ?_;refine qf2 ?_;refine X0 (oFp zeO) ?_;refine X0 (oFp zed) ?_;refine XK.e (x:=.idk) (fun fr' hfr kk H=>by exact zay rfl rfl rfl ((hfr 28 yc).trans rfl) rfl rfl ((hfr 21 yc).trans rfl) rfl rfl rfl ty_3 (zD H)) ?_;refine qf2 ?_;refine X0 (oFp zeO) ?_;refine X0 (oFp zdJ) ?_;refine XK.e (x:=.idk) (fun fr' hfr kk H=>by exact zay rfl rfl rfl ((hfr 31 yc).trans rfl) rfl rfl ((hfr 25 yc).trans rfl) rfl rfl rfl ty_3 (zD H)) ?_;refine qe6 ?_;refine qbd ?_;refine A0 (zjt rfl rfl rfl zb0 yh) ?_;refine zbf (zkg (b.drop 2) yB) rfl zwt rfl yd (fun hs1=>?_) (fun hs1=>?_)
 .
  have hno:=no_split hs1;refine qbo ?_;refine Ct ?_;refine CQR ?_;refine xA ?_;refine qcp ?_;exact zi rfl rfl (zm rfl rfl zaO ((zd6 hno).symm)) (zC (za rfl (hno.symm)))
 refine A0 (oCl (zu ((zkg (b.drop 2) yB).1 hs1)) rfl zwt yd) ?_;obtain⟨R,hR⟩:∃R,R=(zw (b.drop 2)).1:=⟨_,rfl⟩;have hRl:R.length<=255:=hR▸zqQ hs1;refine zj (d:=34) (y:=R) rfl (by rw[hR]) ?_;refine qc6 ?_;refine qaF ?_;refine zco 4 6 7 rfl rfl rfl rfl rfl rfl ?_;refine Lp (ι:=Nat) 7 (fun i=>(((Fr.none.set 0 (.ptr 2 0)).set 34 (.val (sl (sl u8T)) R)).set 35 (.val i64T (R.length:Int))).set 36 (.val i64T (i:Int))) (fun i=>((((Hp.none.set 1 (.box 27 zP zdb)).set 2 (.parts 110 [.val i64T (b0.toNat:Int),.val i64T (b1.toNat:Int),.own 6])).set 3 (.parts 108 [.ptr 2 0])).set 6 (.row 72 zaK ((R.take i).map za6))).set 5 (.objAt bD (.cells #[.bool false] 4 (0,0)))) (fun i=>i<=R.length/\∀r∈R.take i,zaS r=true) (fun i=>R.length-i) (0) (⟨uf _,fun x hx=>by simp at hx⟩) ?_;intro i hi;refine qap ?_;refine Cf (p:=i<R.length) (fun ht37=>?_) (fun ht37=>?_)
 .
  obtain⟨r,hr⟩:∃r,R[i]?=some r:=⟨_,ub ht37⟩;have hrm:r∈(zw (b.drop 2)).1:=by rw[<-hR];exact ud hr
  have hrl:=zsv hs1 hrm;rw[length_drop] at hrl;refine qeh ?_;refine A0 (zx (i:=i) rfl rfl rfl ya zcK yj) ?_;refine qcC ?_;refine qfw ?_;refine zbf (zkg r ya) rfl zwt rfl yb1 (fun hs2=>?_) (fun hs2=>?_)
  .
   have hno:=zq8 hrm (pno_split hs2);refine qbo ?_;refine Ct ?_;refine CQR ?_;refine xA ?_;refine qcp ?_;exact zi rfl rfl (zm rfl rfl zaO ((zd6 hno).symm)) (zC (za rfl (hno.symm)))
  refine A0 (oCl (zu ((zkg r ya).1 hs2)) rfl zwt yb1) ?_;refine qaR ?_;refine qc6 ?_;refine A0 zcq ?_;refine zbf (zb2 (decide ((0:Int)<((zw r).1.length:Int)))) rfl zdd rfl yd (fun hm2=>?_) (fun hm2=>?_)
  .
   have hno:=zq8 hrm (pno_nil hm2);refine qbo ?_;refine Ct ?_;refine CQR ?_;refine xA ?_;refine qcp ?_;exact zi rfl rfl (zm rfl rfl zaO ((zd6 hno).symm)) (zC (za rfl (hno.symm)))
  refine A0 (oCl ((zb2 (decide ((0:Int)<((zw r).1.length:Int)))).1 hm2) rfl zdd yd) ?_;have hlp:1<=(zw r).1.length:=by have:=of_decide_eq_true hm2;omega
  obtain⟨x,hx⟩:∃x,(zw r).1[0]?=some x:=⟨_,ub (by have:=of_decide_eq_true hm2;omega)⟩;refine qd5 ?_;refine A0 (zx (i:=0) rfl rfl rfl ya zcK yj) ?_;refine qcC ?_;refine A0 (oCl (zuj x) rfl fn_111 yb1) ?_;refine qaA ?_;refine qce ?_;refine qaK ?_;refine qaR ?_;refine zbf (zb2 (za0 x)) rfl zdd rfl yd (fun hm3=>?_) (fun hm3=>?_)
  .
   have hno:=zq8 hrm (pno_head hx hm3);refine qbo ?_;refine Ct ?_;refine CQR ?_;refine xA ?_;refine qcp ?_;exact zi rfl rfl (zm rfl rfl zaO ((zd6 hno).symm)) (zC (za rfl (hno.symm)))
  refine A0 (oCl ((zb2 (za0 x)).1 hm3) rfl zdd yd) ?_;refine CNQR ?_;refine qci ?_;refine A0 (zJ rfl zqs zpk (.cons zbA (Lens.fst _ _) zbZ rfl .nil) rfl) ?_;refine zN zqs rfl rfl rfl rfl ?_;refine qa0 ?_;refine CN ?_;refine zek 8 (x:=(zgx x,())) zpu rfl ?_;refine zeD 8 49 idT [.val zbk (zgx x)] rfl ybl ?_;refine qbd ?_;refine A0 (zjt rfl rfl rfl zcK yh) ?_;obtain⟨L,hL⟩:∃L,L=(zw r).1.drop 1:=⟨_,rfl⟩;have hLl:L.length<=255:=by rw[hL,length_drop];have:=zqQ hs2;omega
  refine zj (d:=58) (y:=L) rfl (by rw[hL];rfl) ?_;refine qc6 ?_;refine qaF ?_;refine Lp (ι:=Nat) 10 (fun j=>(((((((Fr.none.set 0 (.ptr 2 0)).set 9 (.ptr 8 0)).set 34 (.val (sl (sl u8T)) R)).set 35 (.val i64T (R.length:Int))).set 36 (.val i64T (i:Int))).set 58 (.val (sl (sl u8T)) L)).set 59 (.val i64T (L.length:Int))).set 60 (.val i64T (j:Int))) (fun j=>((((((Hp.none.set 1 (.box 27 zP zdb)).set 2 (.parts 110 [.val i64T (b0.toNat:Int),.val i64T (b1.toNat:Int),.own 6])).set 3 (.parts 108 [.ptr 2 0])).set 6 (.row 72 zaK ((R.take i).map za6))).set 5 (.objAt bD (.cells #[.bool false] 4 (0,0)))).set 8 (.parts 72 [.val zbk (zgx x),.own 9])).set 9 (.row 49 idT (L.take j))) (fun j=>j<=L.length/\∀y∈L.take j,y.length=32) (fun j=>L.length-j) (0) (⟨uf _,fun x hx=>by simp at hx⟩) ?_;intro j hj;refine qap ?_;refine Cf (p:=j<L.length) (fun ht61=>?_) (fun ht61=>?_)
  .
   obtain⟨y,hy⟩:∃y,L[j]?=some y:=⟨_,ub ht61⟩;refine qeh ?_;refine A0 (zx (i:=j) rfl rfl rfl ya zcK yj) ?_;refine qcC ?_;refine qfw ?_;refine qbx ?_;refine A0 zd7 ?_;refine zbf (zb2 (decide ((y.length:Int)=32))) rfl zdd rfl yd (fun hm4=>?_) (fun hm4=>?_)
   .
    have hno:=zq8 hrm (pno_id (hL▸ud hy) hm4);refine qbo ?_;refine Ct ?_;refine CQR ?_;refine xA ?_;refine qcp ?_;exact zi rfl rfl (zm rfl rfl zaO ((zd6 hno).symm)) (zC (za rfl (hno.symm)))
   refine A0 (oCl ((zb2 (decide ((y.length:Int)=32))).1 hm4) rfl zdd yd) ?_;refine CN ?_;refine zA [some 1,some 1,some 1,some 1,some 1,some 1,none,some 1,none] mixed yc ?_;refine X0 (oFp zb3) ?_;refine X0 (zaf rfl rfl rfl rfl rfl zcl) ?_;refine X0 mX ?_;refine X0 (g_s2a (T:=u8T) (n:=32) 5 yl rfl rfl yt (by have:=of_decide_eq_true hm4;omega)) ?_;refine X0 (zh rfl rfl zY) ?_;refine qdv ?_;refine XK.e (fun fr' hfr kk H=>by exact zp rfl rfl rfl rfl ((hfr 69 yc).trans rfl) rfl ((hfr 73 yc).trans rfl) zeo (by simp[um];omega) (zD H)) ?_;refine X0 (oFp zb3) ?_;refine XK.e (x:=.idk) (fun fr' hfr kk H=>by exact zay rfl rfl rfl ((hfr 75 yc).trans rfl) rfl rfl ((hfr 74 yc).trans rfl) rfl rfl rfl zcl (zD H)) ?_;refine qdL ?_;refine zco 10 9 11 rfl rfl rfl rfl rfl rfl ?_;refine zq (n:=9) (y:=L.take (j+1)) rfl (by rw[un,hy];rfl) ?_;exact Nx (j+1) (⟨by omega,fun z hz=>by rw[un,hy] at hz;rcases mem_append.1 hz with h|h;exact hj.2 z h;simp at h;rw[h];have:=of_decide_eq_true hm4;omega⟩) ya
  refine CE ?_;have hLj:L.take j=L:=uc ya;have hpy:=part_yes hs2 hx hm3 (by rw[<-hL,<-hLj];exact hj.2);refine zq (n:=9) (y:=L) rfl (by rw[hLj]) ?_;refine zi9 8 9 [.val zbk (zgx x)] (z:=(⟨zgx x,L⟩:Part)) (R:=zaK) rfl rfl rfl zsT ?_;refine zt (n:=8) (y:=(⟨zgx x,(zw r).1.drop 1⟩:Part)) rfl (by rw[hL]) ?_;refine zA [some 1000001,some 1,some 1,some 1,some 1,some 1,some 1,some 1,none,some 1,some 1,some 1,none] mixed yc ?_;refine XK.ga (fun _=>g_mp (.inl rfl) rfl) rfl rfl rfl ?_;refine X0 mP ?_;refine qf2 ?_;refine X0 (oFp zeO) ?_;refine X0 (oFp za1) ?_;refine X0 (zaf rfl rfl rfl rfl rfl zcy) ?_;refine X0 (oLs rfl rfl rfl zeR) ?_;refine X0 (zW (T:=zaK) (xs:=[_]) rfl zcu zkp yA rfl rfl) ?_;refine XK.e (fun fr' hfr kk H=>by exact zp rfl rfl rfl rfl ((hfr 82 yc).trans rfl) rfl ((hfr 84 yc).trans rfl) zkp (by simp[um];omega) (zD H)) ?_;refine qf2 ?_;refine X0 (oFp zeO) ?_;refine X0 (oFp za1) ?_;refine XK.e (x:=.idk) (fun fr' hfr kk H=>by exact zay rfl rfl rfl ((hfr 88 yc).trans rfl) rfl rfl ((hfr 85 yc).trans rfl) rfl rfl rfl zcy (zD H)) ?_;refine qdL ?_;refine zco 10 6 11 rfl rfl rfl rfl rfl rfl ?_;refine zq (n:=6) (y:=(R.take (i+1)).map za6) rfl (by rw[un,hr,List.map_append,hpy.2];rfl) ?_;exact Nx (i+1) (⟨by omega,fun y hy=>by rw[un,hr] at hy;rcases mem_append.1 hy with h|h;exact hi.2 y h;simp at h;rw[h];exact hpy.1⟩) ya
 refine CE ?_;have hRi:R.take i=R:=uc ya;refine zq (n:=6) (y:=(zw (b.drop 2)).1.map za6) rfl (by rw[hRi,hR]) ?_;refine zi9 2 6 [.val i64T (b0.toNat:Int),.val i64T (b1.toNat:Int)] (z:=(⟨(b0.toNat:Int),(b1.toNat:Int),(zw (b.drop 2)).1.map za6⟩:Proof)) (R:=zP) rfl rfl rfl ziT ?_;refine zt (n:=2) (y:=zeV b) rfl (zvH hb0 hb1) ?_;refine CR ?_;refine A0 mP ?_;refine zbf (zkx (zeV b)) rfl zws rfl yb4 (fun hs3=>?_) (fun hs3=>?_)
 .
  have hno:=no_size hs3;refine qbo ?_;refine Ct ?_;refine CQR ?_;refine xA ?_;refine qcp ?_;exact zi rfl rfl (zm rfl rfl zaO ((zd6 hno).symm)) (zC (za rfl (hno.symm)))
 refine A0 (oCl ((zkx (zeV b)).1 hs3) rfl zws yb4) ?_;have hok:=zve hm1 hs1 (fun r hr=>hi.2 r (by rw[hRi,hR];exact hr)) hs3;refine CN ?_;refine ziG rfl ?_;refine CN ?_;refine ziG rfl ?_;refine CNQR ?_;refine zqo rfl rfl rfl rfl rfl ty_4 rfl ?_;refine CN ?_;refine zqq zgp rfl rfl rfl ty_4 ?_;refine qaT ?_;refine Cg ?_;refine CSQR ?_;refine A0 (zaf rfl rfl rfl rfl rfl zr2) ?_;refine qcL ?_;refine A0 (oFp zeO) ?_;refine qa9 ?_;refine qcp ?_;exact zi rfl rfl (zm rfl rfl zaO ((znS hok).symm)) (zC (za rfl (hok.symm)))
theorem easy_pw:PW zfg:=by
  intro x hx;have hx:x=⟨ziy,[]⟩\/x=⟨zb1.h,[id0]⟩:=by simpa [zfg] using hx
  rcases hx with rfl|rfl
  . exact⟨by refine⟨?_,?_,?_,?_,?_⟩<;>kernel_rfl,fun y hy=>by cases hy⟩
  refine⟨by refine⟨?_,?_,?_,?_,?_⟩<;>kernel_rfl,fun y hy=>?_⟩;rw[List.mem_singleton.1 hy];kernel_rfl
theorem zk1:wOk zfg=true:=yt
theorem zth:(zgy zfg).length=399:=by
  unfold zgy;rw[ut zk1,put_len easy_pw zk1];rfl
theorem zrx:zbK (zgy zfg)=true/\zeV (zgy zfg)=zfg:=by
  unfold zgy;rw[ut zk1];exact proof_back easy_pw zk1
theorem zvL {p:Proof} (h:wOk p=true):zgy p=putL p:=by unfold zgy;rw[ut h]
theorem zlD {p:Proof} (h:¬wOk p=true):zgy p=[]:=by unfold zgy;rw[ur h]
theorem rget_step {M:List UInt8} {k:Nat} {x:UInt8} (hx:M[k]?=some x) (hk:k<8):(256:UInt64)*valU (M.take k)+zK (IntL.toI u8T x)=valU (M.take (k+1)):=by
  have hkl:=(ul.1 hx).1;have e:M.take (k+1)=M.take k++[x]:=by rw[un,hx];rfl
  have hl:(M.take k).length=k:=ybR;have h1:=zgJ (M.take k) ya;have h2:=zgJ (M.take k++[x]) (by rw[ue,hl];simp;omega);have h3:=zjA (M.take k++[x]);rw[ue,hl] at h3;have h4:256^(k+[x].length)<=256^8:=Nat.pow_le_pow_right yl yB;rw[zgK] at h2 h3;have h5:(zK (IntL.toI u8T x)).toNat=x.toNat:=by
    have:x.toNat<256:=x.toNat_lt
    exact zc0 (n:=(x.toNat:Int)) ya ya
  apply UInt64.toNat_inj.1;rw[e,h2,UInt64.toNat_add,UInt64.toNat_mul,h5,h1];have h6:(256:Nat)^8=18446744073709551616:=rfl;have h7:(256:UInt64).toNat=256:=rfl;rw[h7];omega
theorem num_one {n:Nat} (h:n<=255):zB (zK (IntL.toI i64T (n:Int))) 1=[zaF (IntL.toI i64T (n:Int))]:=by
  have h1:=zka (zK (IntL.toI i64T (n:Int))) 1 yl;have h2:=zF (zK (IntL.toI i64T (n:Int))) 1;have h3:(zK (IntL.toI i64T (n:Int))).toNat=n:=zc0 (n:=(n:Int)) ya ya;have h4:(zaF (IntL.toI i64T (n:Int))).toNat=n:=u8_nat (n:=(n:Int)) ya ya
  match hm:zB (zK (IntL.toI i64T (n:Int))) 1,h2 with
  | [c],_ =>
    rw[hm] at h1;have h1:256*0+c.toNat=_:=h1
    have:c=zaF (IntL.toI i64T (n:Int)):=by
      apply UInt8.toNat_inj.1;rw[h4,<-h3];omega
    rw[this]
theorem get_one {b:List UInt8} (h:zc7 b 0 1=true):∃n0,b[0]?=some n0/\(getU b 0 1).toNat=n0.toNat:=by
  have hg:=h;unfold zc7 at hg;rw[uj] at hg
  match b,hg with
  | n0::r,_ =>
    refine⟨n0,rfl,?_⟩;rw[zgm h];show(valU [n0]).toNat=_;rw[zgJ [n0] yw];show 256*0+n0.toNat=_;omega
theorem znu {b:List UInt8} (h:zc7 b 0 1=false):zw b=([],false):=by
  cases b with
  | nil=>rfl
  | cons n r =>
    unfold zc7 at h;rw[decide_eq_false_iff_not] at h;exact absurd (⟨by omega,by omega,by omega,by omega,by rw[length_cons];omega⟩) h
theorem cvi_n {u:UInt64} {n:Nat} (h:IntL.toI u64T u=(n:Int)) (hn:n<4294967296):IntKind.i64.wrap (IntL.toI u64T u)=(n:Int):=by
  rw[h];exact z8 ya
theorem znN (b:List UInt8) (p size:Int):Tells P 292 [.val (bsl u8T) b,.val i64T p,.val i64T size] (.tup2 (.val u64T (getU b p size)) (.val zo (zc7 b p size))):=by
 refine zc Tryz.func292 rfl rfl rfl (fun ext w hext=>?_);refine ze (d:=0) rfl zk (fun hsl0=>?_);refine ze (d:=1) rfl zz (fun hin1=>?_);refine ze (d:=2) rfl zz (fun hin2=>?_);refine CQR ?_;refine A0 aV ?_;refine qag ?_;refine A0 zc4 ?_;refine Sp (d:=11) (p:=size<0) (fun g11=>?_) (fun g11=>?_)
 .
  refine qaz ?_;refine qaZ ?_;refine qew ?_;refine Ct ?_;refine qev ?_;exact zG rfl rfl (za rfl ((zgB (zbp (.inl g11))).symm)) (za rfl ((zbp (.inl g11)).symm))
 refine qaz ?_;refine qca ?_;refine Sp (d:=14) (p:=8<size) (fun g14=>?_) (fun g14=>?_)
 .
  refine qew ?_;refine Ct ?_;refine qev ?_;exact zG rfl rfl (za rfl ((zgB (zbp (.inr (.inl g14)))).symm)) (za rfl ((zbp (.inr (.inl g14))).symm))
 refine qai ?_;refine qfY ?_;refine A1 zc4 ?_;refine Sp (d:=18) (p:=p<0) (fun g18=>?_) (fun g18=>?_)
 .
  refine qaH ?_;refine A2 ?_;refine qaH ?_;refine qcA ?_;refine Ct ?_;refine qev ?_;exact zG rfl rfl (za rfl ((zgB (zbp (.inr (.inr (.inl g18))))).symm)) (za rfl ((zbp (.inr (.inr (.inl g18)))).symm))
 refine qai ?_;refine qdi ?_;refine A1 (zaC rfl rfl zfT) ?_;refine A1 zcq ?_;refine Sp (d:=24) (p:=(b.length:Int)<p) (fun g24=>?_) (fun g24=>?_)
 .
  refine qaH ?_;refine qcA ?_;refine Ct ?_;refine qev ?_;exact zG rfl rfl (za rfl ((zgB (zbp (.inr (.inr (.inr (.inl g24)))))).symm)) (za rfl ((zbp (.inr (.inr (.inr (.inl g24))))).symm))
 refine qai ?_;refine qfY ?_;refine qeq ?_;refine qfY ?_;refine A1 zc4 ?_;refine qat ?_;refine Cf (p:=(b.length:Int)-p<size) (fun ht33=>?_) (fun ht33=>?_)
 .
  refine qev ?_;exact zG rfl rfl (za rfl ((zgB (zbp (.inr (.inr (.inr (.inr ht33)))))).symm)) (za rfl ((zbp (.inr (.inr (.inr (.inr ht33))))).symm))
 have hok:=zs5 g11 g14 g18 g24 ht33;obtain⟨M,hM⟩:∃M,M=(b.drop p.toNat).take size.toNat:=⟨_,rfl⟩;have hml:M.length=size.toNat:=ycp;refine CSQR ?_;refine qcz ?_;refine Lp (ι:=Nat) 0 (fun (k:Nat)=>(((((Fr.none).set 0 (.val (bsl u8T) b)).set 1 (.val i64T p)).set 2 (.val i64T size)).set 8 (.val u64T (valU (M.take k)))).set 9 (.val i64T (k:Int))) (fun (k:Nat)=>Hp.none) (fun (k:Nat)=>k<=M.length) (fun (k:Nat)=>M.length-k) (0) (uf _) ?_;intro k hinv;refine qb6 ?_;refine qa7 ?_;refine zl (p:=k<M.length) rfl yax (fun ht36=>?_) (fun ht36=>?_)
 .
  obtain⟨x,hx⟩:∃x,M[k]?=some x:=⟨_,ub ht36⟩;have hbx:b[p.toNat+k]?=some x:=by rw[hM,List.getElem?_take,ut ya,List.getElem?_drop] at hx;exact hx
  refine qaS ?_;refine qe5 ?_;refine qeH ?_;refine qal ?_;refine qaz ?_;refine A0 (zuz rfl rfl rfl (show _=(((p.toNat+k:Nat):Int):Int) from(z8 ya).trans ya)) ?_;refine A0 (zx (i:=p.toNat+k) rfl rfl rfl ya zb0 yj) ?_;refine A0 (zh rfl rfl ty_5) ?_;refine A0 (zg0 rfl (zlp) (us_5) rfl) ?_;refine qeI ?_;refine qdB ?_;refine zj (d:=8) (y:=valU (M.take (k+1))) rfl (rget_step hx ya) ?_;exact Nx (k+1) ya ya
 refine qaU ?_;refine qaz ?_;refine qb2 ?_;exact zG rfl rfl (za rfl (by rw[zgm hok,uc ya,hM])) (za rfl (hok.symm))
theorem rblob_ok (x:List UInt8):Tells P 339 [.val (bsl u8T) x] (.tup2 (.fresh 5 u8T (zmJ x)) (.val zo (zcn x))):=by
 refine zc Tryz.func339 rfl rfl rfl (fun ext w hext=>?_);refine ze (d:=0) rfl zk (fun hsl0=>?_);refine qau ?_;refine qag ?_;refine qcr ?_;refine qc2 ?_;refine Cf (p:=65535<x.length) (fun ht6=>?_) (fun ht6=>?_)
 .
  refine qbE ?_;exact zG rfl rfl ybG (za rfl (by unfold zcn;symm;apply uh;omega))
 have hbo:zcn x=true:=ui ya;have hn:=zF (zK (IntL.toI i64T (x.length:Int))) 2;refine qbY ?_;refine qcr ?_;refine qd1 ?_;refine zao (zjL (zK (IntL.toI i64T (x.length:Int))) 2 yl) rfl zor ye rfl rfl rfl ?_;refine qaz ?_;refine zp rfl rfl rfl rfl rfl rfl rfl zat (by rw[hn];omega) ?_;refine qcl ?_;exact zG rfl rfl (zf rfl rfl (by unfold zmJ;rw[ut hbo];rfl)) (za rfl (hbo.symm))
theorem rcut_ok (b:List UInt8) (p:Int) (hb:b.length<=1000000000):Tells P 293 [.val (bsl u8T) b,.val i64T p] (.tup3 (.fresh 5 u8T (cutX b p)) (.val i64T (ziA b p)) (.val zo (cutE b p))):=by
 have hu:=zux (b:=b) (p:=p);refine zc Tryz.func293 rfl rfl rfl (fun ext w hext=>?_);refine ze (d:=0) rfl zk (fun hsl0=>?_);refine ze (d:=1) rfl zz (fun hin1=>?_);refine qau ?_;refine A0 aV ?_;refine qbL ?_;refine A0 (oCl (znN b p 2) rfl ztb yL) ?_;refine qbF ?_;refine A0 oN ?_;refine zX (d:=16) (p:=zc7 b p 2=false) rfl (by cases zc7 b p 2<;>rfl) (fun g16=>?_) (fun g16=>?_)
 .
  have hcn:cutE b p=false:=by unfold cutE;rw[g16];rfl
  refine qf6 ?_;refine qab ?_;refine qdg ?_;refine Ct ?_;refine qau ?_;refine qb2 ?_;exact zdM rfl rfl ybu (za rfl (by rw[(zme hcn).2])) (za rfl hcn.symm)
 have hg:zc7 b p 2=true:=by simpa using g16
 have hu2:=hu hg;have hgs:0<=p/\p<=b.length/\2<=(b.length:Int)-p:=by have h:=hg;unfold zc7 at h;rw[uj] at h;omega
 have hti:IntL.toI u64T (getU b p 2)=((getU b p 2).toNat:Int):=rfl;refine qaz ?_;refine qfY ?_;refine qeq ?_;refine A1 zc3 ?_;refine qfY ?_;refine A1 (zhs rfl (ui_3) (zqB) rfl yaE) ?_;refine A1 zc4 ?_;refine qat ?_;refine Cf (p:=(b.length:Int)-p-2<((getU b p 2).toNat:Int)) (fun ht26=>?_) (fun ht26=>?_)
 .
  have hcn:cutE b p=false:=ycq;refine qau ?_;refine qb2 ?_;exact zdM rfl rfl ybu (za rfl (by rw[(zme hcn).2])) (za rfl hcn.symm)
 have hce:cutE b p=true:=by unfold cutE;rw[hg,Bool.true_and,uj];omega
 refine qej ?_;refine qfX ?_;refine qcT ?_;refine qeT ?_;refine zj (d:=35) (y:=cutX b p) rfl ybT ?_;have hcl:(cutX b p).length<=b.length:=by rw[(ziz hce).1,um,length_drop];omega
 refine zdX rfl rfl rfl rfl rfl rfl zat yB ?_;refine qcT ?_;refine A0 aO ?_;refine qb2 ?_;exact zdM rfl rfl (zf rfl rfl yw) (za rfl (by rw[(ziz hce).2,hti])) (za rfl hce.symm)
theorem zvA (l:List (List UInt8)):Tells P 296 [.val (bsl (bsl u8T)) l] (.tup2 (.fresh 5 u8T (zjJ l)) (.val zo (zdj l))):=by
 refine zc Tryz.func296 rfl rfl rfl (fun ext w hext=>?_);refine ze (d:=0) rfl zk (fun hsl0=>?_);refine qau ?_;refine qag ?_;refine qc6 ?_;refine qc2 ?_;refine Cf (p:=255<l.length) (fun ht10=>?_) (fun ht10=>?_)
 .
  refine qbE ?_;exact zG rfl rfl (by rw[show zjJ l=[] by unfold zjJ;rw[ur (by rw[zqP ht10];decide)]];exact zs rfl) (za rfl ((zqP ht10).symm))
 refine qbY ?_;refine qc6 ?_;refine qd1 ?_;refine zao (zjL (zK (IntL.toI i64T (l.length:Int))) 1 yl) rfl zor ye rfl rfl rfl ?_;refine A0 aO ?_;refine qa4 ?_;refine zq (n:=0) (y:=zlz l 0) rfl (by rw[num_one ya];rfl) ?_;refine Lp (ι:=Nat) 1 (fun (k:Nat)=>(((Fr.none).set 0 (.val (bsl (bsl u8T)) l)).set 4 (.own 0)).set 5 (.val i64T (k:Int))) (fun (k:Nat)=>(Hp.none).set 0 (.row 5 u8T (zlz l k))) (fun (k:Nat)=>k<=l.length/\∀x∈l.take k,zcn x=true) (fun (k:Nat)=>l.length-k) (0) (⟨uf _,fun x hx=>by simp at hx⟩) ?_;intro k hinv;refine qb6 ?_;refine qc6 ?_;refine qa7 ?_;refine Cf (p:=k<l.length) (fun ht18=>?_) (fun ht18=>?_)
 .
  obtain⟨x,hx⟩:∃x,l[k]?=some x:=⟨_,ub ht18⟩;have hnl:=zst hinv.2;refine qf7 ?_;refine A0 (zx (i:=k) rfl rfl rfl ya zcK yj) ?_;refine qcC ?_;refine A0 (oCl (zbi (rblob_ok x)) rfl fn_339 yb1) ?_;refine qbF ?_;refine qaT ?_;refine zl (p:=¬zcn x=true) rfl (by cases zcn x<;>rfl) (fun ht30=>?_) (fun ht30=>?_)
  .
   refine qbE ?_;exact zG rfl rfl (by rw[show zjJ l=[] by unfold zjJ;rw[ur (by rw[zmT hx ht30];decide)]];exact zs rfl) (za rfl ((zmT hx ht30).symm))
  have hbo:zcn x=true:=ua ht30;have hbr:zmJ x=zh0 x:=by unfold zmJ;rw[ut hbo]
  have hbx:=of_decide_eq_true hbo;have hbl:=znd x;refine CS ?_;refine qcU ?_;refine qaz ?_;refine zp rfl rfl rfl rfl rfl rfl rfl zat (by rw[hbr];simp;omega) ?_;refine qeU ?_;refine qbI ?_;refine zq (n:=0) (y:=zlz l (k+1)) rfl (by rw[hbr,zpD hx]) ?_;exact Nx (k+1) (⟨by omega,fun y hy=>by rw[un,hx] at hy;rcases mem_append.1 hy with h|h;exact hinv.2 y h;simp at h;rw[h];exact hbo⟩) ya
 refine qeY ?_;refine qcl ?_;exact zG rfl rfl (zf rfl rfl (by unfold zjJ;rw[zmU ht10 hinv.2 ya,ut rfl];exact zsu ya)) (za rfl ((zmU ht10 hinv.2 ya).symm))
theorem zsq (b:List UInt8) (hb:b.length<=1000000000):Tells P 253 [.val (bsl u8T) b] (.tup2 (.fresh 22 (sl u8T) (zw b).1) (.val zo (zw b).2)):=by
 refine zc Tryz.func253 rfl rfl rfl (fun ext w hext=>?_);refine ze (d:=0) rfl zk (fun hsl0=>?_);refine qau ?_;refine qaR ?_;refine A0 (oCl (znN b 0 1) rfl ztb yL) ?_;refine qbF ?_;refine A0 oN ?_;refine zX (d:=18) (p:=zc7 b 0 1=false) rfl (by cases zc7 b 0 1<;>rfl) (fun g18=>?_) (fun g18=>?_)
 .
  refine CN ?_;refine Ct ?_;refine qbE ?_;exact zG rfl rfl (zhn rfl (by rw[znu g18])) (za rfl (by rw[znu g18]))
 obtain⟨n0,hn0,hgn⟩:=get_one (by simpa using g18);have hn8:n0.toNat<256:=n0.toNat_lt;have hbl:1<=b.length:=by have:=(ul.1 hn0).1;omega
 have hti:IntL.toI u64T (getU b 0 1)=(n0.toNat:Int):=by show(((getU b 0 1).toNat:Nat):Int)=_;rw[hgn]
 refine CN ?_;refine Cg ?_;refine CSQR ?_;refine A0 aL ?_;refine CNQR ?_;refine qcz ?_;refine za7 (T:=sl u8T) (d:=6) 22 rfl ?_;refine Lp (ι:=Nat×List (List UInt8)) 1 (fun(p,out)=>((((Fr.none.set 0 (.val (bsl u8T) b)).set 4 (.val u64T (getU b 0 1))).set 6 (.own 0)).set 7 (.val i64T (p:Int))).set 8 (.val i64T (out.length:Int))) (fun(p,out)=>Hp.none.set 0 (.row 22 (sl u8T) out)) (fun(p,out)=>SplitAt b n0.toNat p out) (fun(p,out)=>n0.toNat-out.length) ((1,[])) (zns hbl) ?_;intro⟨p,out⟩ hinv;dsimp only at hinv;refine qb6 ?_;refine A0 (zhs rfl (ui_3) (zqB) rfl (cvi_n hti ya)) ?_;refine qa7 ?_;refine Cf (p:=out.length<n0.toNat) (fun ht22=>?_) (fun ht22=>?_)
 .
  refine qf7 ?_;refine A0 (oCl (zps (rcut_ok b (p:Int) hb)) rfl fn_293 ye) ?_;refine qaA ?_;refine A0 e32 ?_;refine A0 aV ?_;refine A0 aV ?_;refine qfg ?_;refine zl (p:=cutE b p=false) rfl (by cases cutE b p<;>rfl) (fun ht33=>?_) (fun ht33=>?_)
  .
   refine qbE ?_;exact zG rfl rfl (zhn rfl ybZ) (za rfl ybZ)
  have hce:cutE b p=true:=by simpa using ht33
  obtain⟨q,hq,hpq,hqb,hxl⟩:=zrC hinv.p2 hce;refine qee ?_;refine qaz ?_;refine A0 (zW (T:=(sl u8T)) (xs:=[_]) rfl zcK zcQ yA rfl rfl) ?_;refine zp rfl rfl rfl rfl rfl rfl rfl zcQ yB ?_;refine A0 aO ?_;refine qf1 ?_;refine qdB ?_;refine qbI ?_;refine zj (d:=7) (y:=(((ziA b p).toNat:Nat):Int)) rfl (by rw[hq];omega) ?_;refine zj (d:=8) (y:=((out++[cutX b p]).length:Int)) rfl (by rw[ue];simp) ?_;exact Nx (((ziA b p).toNat,out++[cutX b p])) (zvr hinv hce ya) (by show n0.toNat-(out++[cutX b p]).length<n0.toNat-out.length;rw[ue];simp;omega)
 have hon:=hinv.n;refine CE ?_;refine qb6 ?_;refine qcr ?_;refine qaG ?_;refine zl (p:=¬p=b.length) rfl yag (fun ht42=>?_) (fun ht42=>?_)
 .
  refine qbE ?_;exact zG rfl rfl (zhn rfl ya1) (za rfl ya1)
 refine qee ?_;refine qcl ?_;exact zG rfl rfl (zf rfl rfl ya9) (za rfl ya9)
def idK (M:List UInt8) (k:Nat):List UInt8:=M.take k++List.replicate (32-k) 0
theorem zwa (M:List UInt8):idK M 0=List.replicate 32 0:=by unfold idK;simp
theorem zwb {M:List UInt8} {k:Nat} {x:UInt8} (hx:M[k]?=some x) (hk:k<32):(idK M k).set k x=idK M (k+1):=by
  have hkl:=(ul.1 hx).1;have hl:(M.take k).length=k:=ybR;unfold idK;rw[List.set_append_right _ _ ya,hl,Nat.sub_self,show 32-k=(32-(k+1))+1 by omega,List.replicate_succ,List.set_cons_zero,un,hx,List.append_assoc];rfl
theorem idK_all {M:List UInt8} (h:M.length=32):idK M 32=M:=by
  unfold idK;rw[uc ya];simp
theorem idK_len {M:List UInt8} (h:M.length=32) {k:Nat} (hk:k<=32):(idK M k).length=32:=by
  unfold idK;rw[ue,um,List.length_replicate];omega
theorem rget4 {b:List UInt8} {i:Nat} (h:i+4<=b.length):getU b (i:Int) 4=valU ((b.drop i).take 4):=by
  rw[zgm (by unfold zc7;rw[uj];omega)];rfl
theorem rget8 {b:List UInt8} {i:Nat} (h:i+8<=b.length):getU b (i:Int) 8=valU ((b.drop i).take 8):=by
  rw[zgm (by unfold zc7;rw[uj];omega)];rfl
theorem rref_is {b:List UInt8} (hl:b.length=176) {x:Head} (h1:x.height=IntKind.i64.wrap (IntL.toI u64T (getU b 0 4))) (h2:x.prev=(b.drop 4).take 32) (h3:x.links=(b.drop 36).take 32) (h4:x.txs=(b.drop 68).take 32) (h5:x.past=(b.drop 100).take 32)
    (h6:x.work=zfa ((b.drop 132).take 32)) (h7:x.bits=zdS (IntL.toI u64T (getU b 164 4))) (h8:x.nonce=getU b 168 8):x=zaD b:=by
  have g1:getU b 0 4=valU (b.take 4):=rget4 (i:=0) ya;have g7:getU b 164 4=valU ((b.drop 164).take 4):=rget4 (i:=164) ya;have g8:getU b 168 8=valU ((b.drop 168).take 8):=rget8 (i:=168) ya;rw[g1,zfq ybR] at h1;rw[g7,u32_of ybR] at h7;rw[g8] at h8;exact head_mk (h1.trans yaz) (h2.trans yaz) (h3.trans yaz) (h4.trans yaz) (h5.trans yaz) (h6.trans yaz) (h7.trans yaz) (h8.trans yaz)
theorem rget_h {b:List UInt8} (hl:b.length=176):(getU b 0 4).toNat=(valU (b.take 4)).toNat:=by rw[show getU b 0 4=valU (b.take 4) from rget4 (i:=0) ya]
theorem zkr (b:List UInt8) (p:Nat) (h:p+32<=b.length):Tells P 335 [.val (bsl u8T) b,.val i64T (p:Int)] (.val idT ((b.drop p).take 32)):=by
 obtain⟨M,hM⟩:∃M,M=(b.drop p).take 32:=⟨_,rfl⟩;have hml:M.length=32:=ycp;refine zc Tryz.func335 rfl rfl rfl (fun ext w hext=>?_);refine ze (d:=0) rfl zk (fun hsl0=>?_);refine ze (d:=1) rfl zz (fun hin1=>?_);refine qbH ?_;refine qaC ?_;refine qa4 ?_;refine zt (n:=1) (y:=idK M 0) rfl (by rw[zwa];rfl) ?_;refine Lp (ι:=Nat) 2 (fun (k:Nat)=>(((((Fr.none).set 0 (.val (bsl u8T) b)).set 1 (.val i64T (p:Int))).set 4 (.ptr 0 0)).set 5 (.ptr 1 0)).set 6 (.val i64T (k:Int))) (fun (k:Nat)=>((Hp.none).set 0 (.box 49 idT zId)).set 1 (.box 49 idT (idK M k))) (fun (k:Nat)=>k<=32) (fun (k:Nat)=>32-k) (0) (uf _) ?_;intro k hinv;refine qes ?_;refine Cf (p:=k<32) (fun ht8=>?_) (fun ht8=>?_)
 .
  obtain⟨x,hx⟩:∃x,M[k]?=some x:=yr;have hbx:b[p+k]?=some x:=by rw[hM,List.getElem?_take,ut ya,List.getElem?_drop] at hx;exact hx
  have hkl:=idK_len hml (Nat.le_of_lt ht8);refine qaS ?_;refine qfJ ?_;refine qal ?_;refine A0 (zuz rfl rfl rfl (show _=(((p+k:Nat):Int):Int) from(z8 ya).trans ya)) ?_;refine A0 (zx (i:=p+k) rfl rfl rfl ya zb0 yj) ?_;refine A0 (zh rfl rfl ty_5) ?_;refine A0 (zy (i:=k) rfl rfl rfl yi zhL ya) ?_;refine zg rfl rfl rfl rfl rfl (Lens.elem (i:=k) ya u8T) ty_5 rfl ?_;refine qbi ?_;refine zt (n:=1) (y:=idK M (k+1)) rfl (zwb hx ht8) ?_;exact Nx (k+1) ya ya
 refine qfT ?_;exact zE rfl rfl rfl rfl zY (by rw[show k=32 by omega,idK_all hml,hM])
theorem zss (b:List UInt8):Tells P 294 [.val (bsl u8T) b] (.tup2 (.val zbk (zgx b)) (.val zo (za0 b))):=by
 refine zc Tryz.func294 rfl rfl rfl (fun ext w hext=>?_);refine ze (d:=0) rfl zk (fun hsl0=>?_);refine CQR ?_;refine qce ?_;refine qag ?_;refine qcr ?_;refine qaG ?_;refine zl (p:=¬b.length=176) rfl yag (fun ht12=>?_) (fun ht12=>?_)
 .
  have hno:¬za0 b=true:=by unfold za0;rw[uk,uj];exact fun h=>ht12 h.1
  refine CQR ?_;refine A0 (zJ rfl zlj zrI .nil rfl) ?_;refine qaK ?_;refine qad ?_;exact zi rfl rfl (zm rfl rfl zbZ ((zmV hno).symm)) (zC (za rfl ((eq_false_iff.2 hno).symm)))
 have hl:b.length=176:=ua ht12;refine qbY ?_;refine A0 (oCl (znN b 0 4) rfl ztb yL) ?_;refine qbF ?_;refine qc2 ?_;refine zl (p:=1048576<(getU b 0 4).toNat) rfl (by rw[uo];show((1048576:Int)<((getU b 0 4).toNat:Int))↔_;omega) (fun ht20=>?_) (fun ht20=>?_)
 .
  have hno:¬za0 b=true:=fun h=>by unfold za0 at h;rw[uk,uj,uj] at h;have:=rget_h hl;omega
  refine CQR ?_;refine A0 (zJ rfl zlj zrI .nil rfl) ?_;refine qaK ?_;refine qad ?_;exact zi rfl rfl (zm rfl rfl zbZ ((zmV hno).symm)) (zC (za rfl ((eq_false_iff.2 hno).symm)))
 have hyes:za0 b=true:=by unfold za0;rw[uk,uj,uj];exact⟨hl,by have:=rget_h hl;omega⟩
 refine qbY ?_;refine A0 (oCl (znN b 164 4) rfl ztb yL) ?_;refine qaA ?_;refine qfx ?_;refine A0 (oCl (znN b 168 8) rfl ztb yL) ?_;refine qaA ?_;refine qfx ?_;refine A0 (zhs rfl (ui_3) (zqB) rfl (rfl)) ?_;refine qaz ?_;refine A0 (oCl (zkr b 4 ya) rfl zta ye) ?_;refine qaz ?_;refine A0 (oCl (zkr b 36 ya) rfl zta ye) ?_;refine qaz ?_;refine A0 (oCl (zkr b 68 ya) rfl zta ye) ?_;refine qaz ?_;refine A0 (oCl (zkr b 100 ya) rfl zta ye) ?_;refine qaz ?_;refine A0 (oCl (zkr b 132 ya) rfl zta ye) ?_;refine A0 (oCl (zsw _) rfl fn_336 yd) ?_;refine qaz ?_;refine A0 (g_cv32 rfl (ui_53) (zqB) rfl) ?_;refine qaz ?_;refine A0 (zJ rfl zlj zrI (.cons zcI zal ty_3 rfl (.cons zez zbB zY rfl (.cons zey zbc zY rfl (.cons zfW zcF zY rfl (.cons zhw zcZ zY rfl (.cons zjW zeH zag rfl (.cons zdg zaX zbC rfl (.cons zgF zcd za2 rfl .nil)))))))) rfl) ?_;refine qaK ?_;refine qad ?_;refine zt (n:=0) (y:=zaD b) rfl (rref_is hl ybQ ybQ ybQ ybQ ybQ ybQ ybQ ybQ) ?_;exact zi rfl rfl (zm rfl rfl zbZ ((zkt hyes).symm)) (zC (za rfl (hyes.symm)))
def zib (x:Part):Bool:=hOk x.h&&decide (x.l.length<=32)
def rowV (x:Part):List UInt8:=if zib x=true then zaL x else []
theorem row_is {x:Part} (h:zib x=true):rowV x=zaL x:=by unfold rowV;rw[ut h]
theorem row_not {x:Part} (h:¬zib x=true):rowV x=[]:=by unfold rowV;rw[ur h]
theorem zgR {x:Part}:zib x=true↔hOk x.h=true/\x.l.length<=32:=by unfold zib;rw[uk,uj]
def zgg (p:Proof):Prop:=1<=p.m/\p.m<=20/\1<=p.k/\p.k<=20/\p.p.length<=100
theorem zt1 {p:Proof}:wOk p=true↔zgg p/\∀x∈p.p,zib x=true:=by
  unfold wOk zh8 zgg;simp only[uk,uj,all_eq_true,zgR]
  constructor
  . rintro ⟨⟨h1,h2⟩,h3⟩;exact⟨h1,fun x hx=>⟨h3 x hx,h2 x hx⟩⟩
  rintro ⟨h1,h2⟩;exact⟨⟨h1,fun x hx=>(h2 x hx).2⟩,fun x hx=>(h2 x hx).1⟩
theorem zeL {p:Proof} (h:¬zgg p):¬wOk p=true:=fun c=>h (zt1.1 c).1
theorem wOk_row {p:Proof} {x:Part} {i:Nat} (hx:p.p[i]?=some x) (h:¬zib x=true):¬wOk p=true:=fun c=>h ((zt1.1 c).2 x (ud hx))
theorem wOk_yes {p:Proof} {i:Nat} (h:zgg p) (hi:p.p.length<=i) (hr:∀x∈p.p.take i,zib x=true):wOk p=true:=zt1.2 ⟨h,by rw[uc hi] at hr;exact hr⟩
theorem rowOk_step {L:List Part} {i:Nat} {x:Part} (hx:L[i]?=some x) (h:∀y∈L.take i,zib y=true) (h1:zib x=true):∀y∈L.take (i+1),zib y=true:=fun y hy=>by
  rw[un,hx] at hy;rcases mem_append.1 hy with hy|hy
  . exact h y hy
  have:y=x:=by simpa using hy
  rw[this];exact h1
def zjM (r:List UInt8):Bool:=(zw r).2&&decide (0<(zw r).1.length)&&((zw r).1.drop 1).all fun x=>decide (x.length=32)
def zmx (r:List UInt8):Part:=if zjM r=true then ⟨zgx ((zw r).1.getD 0 []),(zw r).1.drop 1⟩ else zll
theorem zhp {r:List UInt8} (h:¬zjM r=true):zmx r=zll/\zaS r=false:=by
  refine⟨by unfold zmx;rw[ur h],eq_false_iff.2 fun c=>h ?_⟩;unfold zaS at c;unfold zjM;cases hl:(zw r).1 with
  | nil=>rw[hl] at c;simp at c
  | cons x l =>
    rw[hl] at c;simp only[uk] at c;rw[c.1,List.drop_succ_cons,drop_zero,c.2.2];simp
theorem zsH {r x:List UInt8} (h:zjM r=true) (hx:(zw r).1[0]?=some x):zmx r=⟨zgx x,(zw r).1.drop 1⟩/\zaS r=za0 x:=by
  constructor
  . unfold zmx;rw[ut h,uq,hx];rfl
  unfold zjM at h;unfold zaS;cases hl:(zw r).1 with
  | nil=>rw[hl] at hx;simp at hx
  | cons z l =>
    rw[hl] at hx h;simp at hx;subst hx;rw[List.drop_succ_cons,drop_zero,uk,uk] at h;show((zw r).2&&(za0 z&&l.all _))=_;rw[h.1.1,h.2];simp
theorem partV_ok {r:List UInt8} (h:zaS r=true):zmx r=za6 r:=by
  have hg:zjM r=true:=Classical.byContradiction fun c=>by rw[(zhp c).2] at h;cases h
  cases hl:(zw r).1 with
  | nil=>unfold zaS at h;rw[hl] at h;simp at h
  | cons x l =>
    obtain⟨h1,h2⟩:=zsH (x:=x) hg (by rw[hl];rfl);rw[h1];unfold za6;rw[hl,zkt (h2▸h)];rfl
theorem znY {r:List UInt8} (h:¬(zw r).2=true):¬zjM r=true:=fun c=>by unfold zjM at c;rw[uk,uk] at c;exact h c.1.1
theorem zsI {r:List UInt8} (h:(zw r).1.length=0):¬zjM r=true:=fun c=>by unfold zjM at c;rw[uk,uk,uj] at c;omega
theorem zsJ {r y:List UInt8} {i:Nat} (hi:1<=i) (hy:(zw r).1[i]?=some y) (h:¬y.length=32):¬zjM r=true:=fun c=>by
  unfold zjM at c;rw[uk,uk,all_eq_true] at c;have hm:y∈(zw r).1.drop 1:=ud (i:=i-1) (by rw[List.getElem?_drop,show 1+(i-1)=i by omega];exact hy);exact h (of_decide_eq_true (c.2 y hm))
theorem partG_all {r:List UInt8} {i:Nat} (h1:(zw r).2=true) (h2:¬(zw r).1.length=0) (hi:(zw r).1.length<=i) (h:∀y∈((zw r).1.take i).drop 1,y.length=32):zjM r=true:=by
  rw[uc hi] at h;unfold zjM;rw[h1,ui (by omega:0<(zw r).1.length),all_eq_true.2 fun y hy=>ui (h y hy)];rfl
theorem ztm {α:Type} {L:List α} {i:Nat} {y:α} (hi:1<=i) (hy:L[i]?=some y):(L.take (i+1)).drop 1=(L.take i).drop 1++[y]:=by
  have hl:=(ul.1 hy).1;rw[un,hy,List.drop_append,um,show 1-min i L.length=0 by omega];rfl
theorem lens_step {L:List (List UInt8)} {i:Nat} {y:List UInt8} (hi:1<=i) (hy:L[i]?=some y) (h:∀z∈(L.take i).drop 1,z.length=32) (h1:y.length=32):∀z∈(L.take (i+1)).drop 1,z.length=32:=fun z hz=>by
  rw[ztm hi hy] at hz;rcases mem_append.1 hz with hz|hz
  . exact h z hz
  rw[List.mem_singleton.1 hz];exact h1
theorem zw2 {L:List (List UInt8)} {i:Nat} {y:List UInt8} {d:Bool} (hy:L[i]?=some y):(d&&(L.take i).all zaS&&zaS y)=(d&&(L.take (i+1)).all zaS):=by
  rw[un,hy,List.all_append];simp[Bool.and_assoc]
theorem read_parts {b:List UInt8} {b0 b1:UInt8} (h0:b[0]?=some b0) (h1:b[1]?=some b1) (h:(zw (b.drop 2)).1.all zaS=true):(⟨(b0.toNat:Int),(b1.toNat:Int),(zw (b.drop 2)).1.map zmx⟩:Proof)=zeV b:=by
  rw[<-zvH h0 h1];congr 1;refine List.map_congr_left fun r hr=>partV_ok ?_
  exact all_eq_true.1 h r hr
theorem read_again {b:List UInt8} (h1:(zw (b.drop 2)).2=true) (h2:(zw (b.drop 2)).1.all zaS=true) (hl:2<=b.length) (hw:wOk (zeV b)=true):zbK b=true:=by
  refine zve (ui ?_) h1 (all_eq_true.1 h2) (zhi hw).1;by_cases c:b.length=2
  . rw[List.drop_of_length_le ya] at h1
    exact absurd h1 yl
  omega
theorem zse {b:List UInt8} (h:¬(zw b).2=true):(zw b).1=[]:=by
  unfold zw at h ⊢;cases b with
  | nil=>rfl
  | cons n r =>
    simp only at h ⊢
    split
    . rename_i c;rw[ut c] at h;exact absurd rfl h
    rfl
theorem split_has {b r:List UInt8} (h:r∈(zw b).1):(zw b).2=true:=Classical.byContradiction fun c=>by
  rw[zse c] at h;cases h
theorem zsf (b:List UInt8):(zw b).1.length<=255:=by
  by_cases c:(zw b).2=true
  . exact zqQ c
  rw[zse c];exact uf _
theorem no_len2 {b:List UInt8} (h:b.length<2):zbK b=false:=no_len (by rw[uj];omega)
theorem no_dall {b:List UInt8} (h:¬((zw (b.drop 2)).2&&(zw (b.drop 2)).1.all zaS)=true):zbK b=false:=eq_false_iff.2 fun c=>h (by
  unfold zbK at c;rw[uk,uk,uk] at c;rw[c.1.1.2,c.1.2];rfl)
theorem no_wok {b:List UInt8} (h:¬wOk (zeV b)=true):zbK b=false:=eq_false_iff.2 fun c=>h (zqm c).1
theorem no_same {b:List UInt8} (h:¬zgy (zeV b)=b):zbK b=false:=eq_false_iff.2 fun c=>h (by
  obtain⟨h1,_,h3⟩:=zqm c;rw[zvL h1];exact h3)
theorem znR (l m:List Part):Tells P 38 [.val (bsl zaK) l,.val (bsl zaK) m] (.val zo (decide (l=m))):=by
 refine zc Tryz.func38 rfl rfl rfl (fun ext w hext=>?_);refine ze (d:=0) rfl zk (fun hsl0=>?_);refine ze (d:=1) rfl zk (fun hsl1=>?_);refine qcK ?_;refine qbM ?_;refine qaz ?_;refine qbM ?_;refine qaG ?_;refine zl (p:=¬l.length=m.length) rfl yag (fun ht11=>?_) (fun ht11=>?_)
 .
  refine qar ?_;exact zb rfl rfl (za rfl ((uh (fun e=>ht11 ybI)).symm))
 refine CSQQR ?_;refine qco ?_;refine Lp (ι:=Nat) 0 (fun (k:Nat)=>(((Fr.none).set 0 (.val (bsl zaK) l)).set 1 (.val (bsl zaK) m)).set 5 (.val i64T (k:Int))) (fun (k:Nat)=>Hp.none) (fun (k:Nat)=>k<=l.length/\l.take k=m.take k) (fun (k:Nat)=>l.length-k) (0) (⟨uf _,rfl⟩) ?_;intro k hinv;refine qb6 ?_;refine qbM ?_;refine qa7 ?_;refine Cf (p:=k<l.length) (fun ht15=>?_) (fun ht15=>?_)
 .
  obtain⟨x,hx⟩:∃x,l[k]?=some x:=⟨_,ub ht15⟩;obtain⟨y,hy⟩:∃y,m[k]?=some y:=yr;refine qff ?_;refine qbl ?_;refine G0 (zx (i:=k) rfl rfl rfl ya zcu yj) ?_;refine G0 (oFr zb3 zcc) ?_;refine G0 (zh rfl rfl zcl) ?_;refine qbl ?_;refine G0 (zx (i:=k) rfl rfl rfl ya zcu yj) ?_;refine G0 (oFr zb3 zcc) ?_;refine G0 (zh rfl rfl zcl) ?_;refine G0 (oCl (refIds_ok x.l y.l) rfl fn_27 ⟨yb,yb,trivial⟩) ?_;refine qaM ?_;refine qdO ?_;refine G0 oN ?_;refine zaj (d:=30) (p:=¬x.l=y.l) rfl yw (fun g30=>?_) (fun g30=>?_)
  .
   refine G0 mV ?_;refine qf0 ?_;refine G2 ?_;refine G2 ?_;refine qaY ?_;refine Ct ?_;refine qar ?_;exact zb rfl rfl (za rfl ((uh (zd8 hx hy (fun e=>g30 ybI))).symm))
  refine G0 mV ?_;refine qfz ?_;refine G1 (zx (i:=k) rfl rfl rfl ya zcu yj) ?_;refine qel ?_;refine qfz ?_;refine G1 (zx (i:=k) rfl rfl rfl ya zcu yj) ?_;refine qel ?_;refine G1 (zgY rfl rfl rfl (zmd)) ?_;refine qaY ?_;refine zl (p:=¬x.h=y.h) rfl yw (fun ht43=>?_) (fun ht43=>?_)
  .
   refine qar ?_;exact zb rfl rfl (za rfl ((uh (zd8 hx hy (fun e=>ht43 ybI))).symm))
  refine qcG ?_;exact Nx (k+1) (⟨by omega,zbN hx hy hinv.2 (by have h1:=ua g30;have h2:=ua ht43;cases x;cases y;simp only at h1 h2;rw[h1,h2])⟩) ya
 refine qcs ?_;exact zb rfl rfl (za rfl ((ui yI).symm))
theorem zuh (a b:Proof):Tells P 89 [.val zP a,.val zP b] (.val zo (decide (a=b))):=by
 refine zc Tryz.func89 rfl rfl rfl (fun ext w hext=>?_);refine qeJ ?_;refine qaD ?_;refine qaD ?_;refine A0 (oCl (znR a.p b.p) rfl fn_38 ye) ?_;refine qaR ?_;refine zX (d:=11) (p:=a.p=b.p) rfl yw (fun g11=>?_) (fun g11=>?_)
 .
  refine qaz ?_;refine qeb ?_;refine qeb ?_;refine A1 zd7 ?_;refine zX (d:=17) (p:=a.m=b.m) rfl yx (fun g17=>?_) (fun g17=>?_)
  .
   refine qai ?_;refine qbb ?_;refine qbb ?_;refine A1 zd7 ?_;refine qaE ?_;exact zb rfl rfl (za rfl ((by rw[uo];exact⟨fun h=>by simp only[IntL.toI,id_eq] at h;cases a;cases b;simp_all,fun h=>by rw[h]⟩)))
  refine qaH ?_;refine qaZ ?_;refine qaE ?_;exact zb rfl rfl (za rfl ((by symm;apply uh;intro h;exact g17 yaY)))
 refine qaz ?_;refine qda ?_;refine qd2 ?_;exact zb rfl rfl (za rfl ((by symm;apply uh;intro h;exact g11 yaY)))
theorem rrow_ok (x:Part) (hh:HW x.h) (hi:∀y∈x.l,y.length=32):Tells P 295 [.val zaK x] (.tup2 (.fresh 5 u8T (rowV x)) (.val zo (zib x))):=by
 refine zc Tryz.func295 rfl rfl rfl (fun ext w hext=>?_);refine qbN ?_;refine qaj ?_;refine qdt ?_;refine A0 (oCl (zbi (zjI x.h)) rfl fn_337 yd) ?_;refine qbF ?_;refine A0 oN ?_;refine zX (d:=17) (p:=¬hOk x.h=true) rfl yw (fun g17=>?_) (fun g17=>?_)
 .
  refine qaz ?_;refine qda ?_;refine qat ?_;refine Ct ?_;refine qbE ?_;exact zG rfl rfl (by rw[row_not (fun c=>g17 (zgR.1 c).1)];exact zs rfl) (za rfl (eq_false_iff.2 (fun c=>g17 (zgR.1 c).1)).symm)
 refine qaz ?_;refine A1 (oFp zb3) ?_;refine A1 (oLb zcc zcl) ?_;refine A1 (zaC rfl rfl zdn) ?_;refine qeK ?_;refine Cf (p:=32<x.l.length) (fun ht23=>?_) (fun ht23=>?_)
 .
  refine qbE ?_;exact zG rfl rfl (by rw[row_not (fun c=>by have:=(zgR.1 c).2;omega)];exact zs rfl) (za rfl (eq_false_iff.2 (fun c=>by have:=(zgR.1 c).2;omega)).symm)
 have hro:zib x=true:=zgR.2 ⟨ua g17,by omega⟩;have hrr:=row_ok hh (ua g17) hi ya;refine qbY ?_;refine zfi (S:=bsl u8T) (d:=24) rfl ?_;refine zbg (T:=(bsl u8T)) (xs:=[_]) rfl rfl rfl rfl zcK zcQ yA rfl rfl ?_;refine A0 aO ?_;refine qa4 ?_;refine zq (n:=1) (y:=zad x.h::x.l.take 0) rfl rfl ?_;refine Lp (ι:=Nat) 2 (fun (i:Nat)=>(((Fr.none).set 1 (.ptr 0 0)).set 6 (.own 1)).set 7 (.val i64T (i:Int))) (fun (i:Nat)=>((Hp.none).set 0 (.box 72 zaK x)).set 1 (.row 22 (bsl u8T) (zad x.h::x.l.take i))) (fun (i:Nat)=>i<=x.l.length) (fun (i:Nat)=>x.l.length-i) (0) (uf _) ?_;intro i hinv;refine qbd ?_;refine qec ?_;refine qbj ?_;refine qa7 ?_;refine Cf (p:=i<x.l.length) (fun ht30=>?_) (fun ht30=>?_)
 .
  obtain⟨y,hy⟩:∃y,x.l[i]?=some y:=⟨_,ub ht30⟩;have hyl:=hi y (ud hy);refine qaS ?_;refine qcU ?_;refine qec ?_;refine qaz ?_;refine A0 (zx (i:=i) rfl rfl rfl ya zce yj) ?_;refine qbJ ?_;refine zdX rfl rfl rfl rfl rfl rfl zat yM ?_;refine zhV (d:=39) rfl rfl ?_;refine zfi (S:=bsl u8T) (d:=39) rfl ?_;refine qdj ?_;refine zp rfl rfl rfl rfl rfl rfl rfl zcQ yM ?_;refine qeU ?_;refine qc8 ?_;refine zq (n:=1) (y:=zad x.h::x.l.take (i+1)) rfl (by rw[un,hy];simp) ?_;exact Nx (i+1) ya ya
 refine qe7 ?_;refine zq (n:=1) (y:=zad x.h::x.l) rfl yO ?_;refine qcU ?_;refine ziF (zvA (zad x.h::x.l)) rfl fn_296 ⟨(zL rfl rfl),trivial⟩ zit rfl rfl rfl ?_;refine A0 yz ?_;refine qaa ?_;refine A0 aO ?_;refine qcR ?_;refine A0 mO ?_;refine qcl ?_;exact zG rfl rfl (zf rfl rfl (by rw[row_is hro];unfold zjJ;rw[ut hrr];rfl)) (za rfl hro.symm)
theorem rpput_ok (p:Proof):Tells P 255 [.val zP p] (.tup2 (.val (sl u8T) (zgy p)) (.val zo (wOk p))):=by
 refine zc Tryz.func255 rfl rfl rfl (fun ext w hext=>?_);refine ze (d:=0) rfl fact_pw (fun hpw=>?_);refine qbN ?_;refine qbT ?_;refine qbX ?_;refine A0 zc4 ?_;refine Sp (d:=12) (p:=p.m<1) (fun g12=>?_) (fun g12=>?_)
 .
  refine qaz ?_;refine qcX ?_;refine qaH ?_;refine qfr ?_;refine Ct ?_;refine qbE ?_;exact zG rfl rfl yam (za rfl (eq_false_iff.2 (zeL yaB)).symm)
 refine qaz ?_;refine qeb ?_;refine A1 zcq ?_;refine Sp (d:=16) (p:=20<p.m) (fun g16=>?_) (fun g16=>?_)
 .
  refine qaH ?_;refine qaH ?_;refine qfr ?_;refine Ct ?_;refine qbE ?_;exact zG rfl rfl yam (za rfl (eq_false_iff.2 (zeL yaB)).symm)
 refine qai ?_;refine qbb ?_;refine A1 zc4 ?_;refine Sp (d:=21) (p:=p.k<1) (fun g21=>?_) (fun g21=>?_)
 .
  refine qaH ?_;refine qfr ?_;refine Ct ?_;refine qbE ?_;exact zG rfl rfl yam (za rfl (eq_false_iff.2 (zeL yaB)).symm)
 refine qai ?_;refine qbb ?_;refine A1 zcq ?_;refine Sp (d:=26) (p:=20<p.k) (fun g26=>?_) (fun g26=>?_)
 .
  refine qfr ?_;refine Ct ?_;refine qbE ?_;exact zG rfl rfl yam (za rfl (eq_false_iff.2 (zeL yaB)).symm)
 refine qai ?_;refine qdR ?_;refine A1 (zaC rfl rfl zdc) ?_;refine qeK ?_;refine Cf (p:=100<p.p.length) (fun ht33=>?_) (fun ht33=>?_)
 .
  refine qbE ?_;exact zG rfl rfl yam (za rfl (eq_false_iff.2 (zeL yaB)).symm)
 refine CSQR ?_;refine A0 aL ?_;refine qa4 ?_;refine za7 (T:=bsl u8T) (d:=4) 22 rfl ?_;refine zq (n:=1) (y:=(p.p.take 0).map zaL) rfl rfl ?_;refine Lp (ι:=Nat) 2 (fun (i:Nat)=>(((Fr.none).set 1 (.ptr 0 0)).set 4 (.own 1)).set 5 (.val i64T (i:Int))) (fun (i:Nat)=>((Hp.none).set 0 (.box 27 zP p)).set 1 (.row 22 (bsl u8T) ((p.p.take i).map zaL))) (fun (i:Nat)=>i<=p.p.length/\∀y∈p.p.take i,zib y=true) (fun (i:Nat)=>p.p.length-i) (0) (⟨uf _,fun y hy=>by simp at hy⟩) ?_;intro i hinv;refine qf4 ?_;refine Cf (p:=i<p.p.length) (fun ht38=>?_) (fun ht38=>?_)
 .
  obtain⟨x,hx⟩:∃x,p.p[i]?=some x:=⟨_,ub ht38⟩;have hxw:=hpw x (ud hx);refine qeh ?_;refine qaD ?_;refine qaz ?_;refine xB ?_;refine A0 (zh rfl rfl zeR) ?_;refine A0 (oCl (zbi (rrow_ok x hxw.1 hxw.2)) rfl fn_295 yb1) ?_;refine qbF ?_;refine qaT ?_;refine zl (p:=¬zib x=true) rfl (by cases zib x<;>rfl) (fun ht51=>?_) (fun ht51=>?_)
  .
   refine qbE ?_;exact zG rfl rfl (by rw[zlD (wOk_row hx ht51)];exact zdH rfl) (za rfl (eq_false_iff.2 (wOk_row hx ht51)).symm)
  have hro:zib x=true:=ua ht51;refine zj (d:=6) (y:=zaL x) rfl (row_is hro) ?_;refine CS ?_;refine qcU ?_;refine qaz ?_;refine zfi (S:=bsl u8T) (d:=53) rfl ?_;refine qdj ?_;refine zp rfl rfl rfl rfl rfl rfl rfl zcQ yM ?_;refine qeU ?_;refine qc7 ?_;refine zq (n:=1) (y:=(p.p.take (i+1)).map zaL) rfl ybr ?_;exact Nx (i+1) (⟨by omega,rowOk_step hx hinv.2 hro⟩) ya
 have hwk:=wOk_yes ⟨by omega,by omega,by omega,by omega,by omega⟩ ya hinv.2;have hpo:=zmY hpw hwk;have hbd:=rows_bd hpw hwk;refine qe7 ?_;refine zq (n:=1) (y:=p.p.map zaL) rfl yO ?_;refine qcU ?_;refine ziF (zvA (p.p.map zaL)) rfl fn_296 ⟨(zL rfl rfl),trivial⟩ zit rfl rfl rfl ?_;refine A0 yz ?_;refine qbO ?_;refine zhV (d:=59) rfl rfl ?_;refine zj (d:=59) (y:=zh9 (p.p.map zaL)) rfl (by unfold zjJ;rw[ut hpo]) ?_;refine qcg ?_;refine A0 aV ?_;refine qcR ?_;refine qbX ?_;refine qeO ?_;refine A0 (oFp zdJ) ?_;refine A0 (oLb zdu ty_3) ?_;refine qeO ?_;refine zbg (T:=u8T) (xs:=[_,_]) rfl rfl rfl rfl zb0 zat yao rfl rfl ?_;refine qaz ?_;refine zp rfl rfl rfl rfl rfl rfl rfl zat yM ?_;refine qcl ?_;refine zhV (d:=2) rfl rfl ?_;exact zG rfl rfl (za rfl (by rw[zvL hwk,putL_is];rfl)) (za rfl hwk.symm)
theorem rpart_ok (r:List UInt8) (hb:r.length<=1000000000):Tells P 254 [.val (bsl u8T) r] (.tup2 (.val zaK (zmx r)) (.val zo (zaS r))):=by
 have hsp:=zbi (zsq r hb);obtain⟨S,hS⟩:∃S,S=(zw r).1:=⟨_,rfl⟩;rw[<-hS] at hsp;have hSl:S.length<=255:=by rw[hS];exact zsf r
 refine zc Tryz.func254 rfl rfl rfl (fun ext w hext=>?_);refine ze (d:=0) rfl zk (fun hsl0=>?_);refine CQR ?_;refine qcw ?_;refine qaR ?_;refine A0 (oCl (hsp) rfl fn_253 yd) ?_;refine qbF ?_;refine A0 oN ?_;refine zX (d:=18) (p:=¬(zw r).2=true) rfl yw (fun g18=>?_) (fun g18=>?_)
 .
  refine qaz ?_;refine qcA ?_;refine Ct ?_;refine CQR ?_;refine xD ?_;refine qf8 ?_;exact zi rfl rfl (zm rfl rfl zeR ((zhp (znY g18)).1.symm)) (zC (za rfl ((zhp (znY g18)).2.symm)))
 refine qaz ?_;refine qfY ?_;refine A1 (zaC rfl rfl zuv) ?_;refine A1 zd7 ?_;refine qat ?_;refine zl (p:=S.length=0) rfl yx (fun ht23=>?_) (fun ht23=>?_)
 .
  refine CQR ?_;refine xD ?_;refine qf8 ?_;exact zi rfl rfl (zm rfl rfl zeR ((zhp (zsI (by rw[<-hS];exact ht23))).1.symm)) (zC (za rfl ((zhp (zsI (by rw[<-hS];exact ht23))).2.symm)))
 obtain⟨x,hx⟩:∃x,S[0]?=some x:=yr;refine qbY ?_;refine A0 (zx (i:=0) rfl rfl rfl ya zcK yj) ?_;refine qcC ?_;refine A0 (oCl (zss x) rfl fn_294 yb1) ?_;refine qaA ?_;refine qce ?_;refine qaK ?_;refine qaj ?_;refine qci ?_;refine A0 (zJ rfl zqs zpk (.cons zbA (Lens.fst _ _) zbZ rfl .nil) rfl) ?_;refine zN zqs rfl rfl rfl rfl ?_;refine qa0 ?_;refine CN ?_;refine zek 2 (x:=(zgx x,())) zpu rfl ?_;refine zeD 2 49 idT [.val zbk (zgx x)] rfl ybl ?_;refine CQQR ?_;refine qco ?_;refine zq (n:=3) (y:=(S.take 1).drop 1) rfl (by rw[List.drop_of_length_le yB]) ?_;refine Lp (ι:=Nat) 4 (fun i=>((((Fr.none.set 2 (.ptr 0 0)).set 4 (.val (sl (sl u8T)) S)).set 7 (.val zo (za0 x))).set 8 (.ptr 2 0)).set 9 (.val i64T (i:Int))) (fun i=>((Hp.none.set 0 (.box 72 zaK zll)).set 2 (.parts 72 [.val zbk (zgx x),.own 3])).set 3 (.row 49 idT ((S.take i).drop 1))) (fun i=>1<=i/\i<=S.length/\∀y∈(S.take i).drop 1,y.length=32) (fun i=>S.length-i) (1) (⟨ug _,by omega,fun y hy=>by rw[List.drop_of_length_le yB] at hy;cases hy⟩) ?_;intro i hlp;refine qb6 ?_;refine qc6 ?_;refine qa7 ?_;refine Cf (p:=i<S.length) (fun ht37=>?_) (fun ht37=>?_)
 .
  obtain⟨y,hy⟩:∃y,S[i]?=some y:=⟨_,ub ht37⟩;refine qaS ?_;refine qb6 ?_;refine A0 (zx (i:=i) rfl rfl rfl ya zcK yj) ?_;refine qcC ?_;refine qbx ?_;refine qaG ?_;refine zl (p:=¬y.length=32) rfl yag (fun ht45=>?_) (fun ht45=>?_)
  .
   refine CQR ?_;refine xD ?_;refine qf8 ?_;exact zi rfl rfl (zm rfl rfl zeR ((zhp (zsJ hlp.1 (hS▸hy) ht45)).1.symm)) (zC (za rfl ((zhp (zsJ hlp.1 (hS▸hy) ht45)).2.symm)))
  have hyl:y.length=32:=ua ht45;refine CSQR ?_;refine qaC ?_;refine qa4 ?_;refine zt (n:=4) (y:=idK y 0) rfl (by rw[zwa];rfl) ?_;refine Lp (ι:=Nat) 5 (fun (k:Nat)=>(((((((Fr.none).set 2 (.ptr 0 0)).set 4 (.val (sl (sl u8T)) S)).set 7 (.val zo (za0 x))).set 8 (.ptr 2 0)).set 9 (.val i64T (i:Int))).set 10 (.ptr 4 0)).set 11 (.val i64T (k:Int))) (fun (k:Nat)=>((((Hp.none).set 0 (.box 72 zaK zll)).set 2 (.parts 72 [.val zbk (zgx x),.own 3])).set 3 (.row 49 idT ((S.take i).drop 1))).set 4 (.box 49 idT (idK y k))) (fun (k:Nat)=>k<=32) (fun (k:Nat)=>32-k) (0) (uf _) ?_;intro k hkk;refine qes ?_;refine Cf (p:=k<32) (fun ht48=>?_) (fun ht48=>?_)
  .
   obtain⟨c,hc⟩:∃c,y[k]?=some c:=yr;have hkl:=idK_len hyl (Nat.le_of_lt ht48);refine qaS ?_;refine qfJ ?_;refine qaz ?_;refine A0 (zx (i:=i) rfl rfl rfl ya zcK yj) ?_;refine qcC ?_;refine qaz ?_;refine A0 (zx (i:=k) rfl rfl rfl ya zb0 yj) ?_;refine A0 (zh rfl rfl ty_5) ?_;refine A0 (zy (i:=k) rfl rfl rfl yi zhL ya) ?_;refine zg rfl rfl rfl rfl rfl (Lens.elem (i:=k) ya u8T) ty_5 rfl ?_;refine qbi ?_;refine zt (n:=4) (y:=idK y (k+1)) rfl (zwb hc ht48) ?_;exact Nx (k+1) ya ya
  have hid:idK y k=y:=by rw[show k=32 by omega];exact idK_all hyl
  refine CE ?_;refine CR ?_;refine A0 (oFp zb3) ?_;refine A0 (zaf rfl rfl rfl rfl rfl zcl) ?_;refine qbf ?_;refine A0 (zW (T:=idT) (xs:=[_]) rfl zce zeo yA rfl rfl) ?_;refine zp rfl rfl rfl rfl rfl rfl rfl zeo yB ?_;refine A0 (oFp zb3) ?_;refine zay rfl rfl rfl rfl rfl rfl rfl rfl rfl rfl zcl ?_;refine qbi ?_;refine zco 5 3 6 rfl rfl rfl rfl rfl rfl ?_;refine zq (n:=3) (y:=(S.take (i+1)).drop 1) rfl (by rw[ztm hlp.1 hy,hid]) ?_;exact Nx (i+1) (⟨by omega,by omega,lens_step hlp.1 hy hlp.2.2 hyl⟩) ya
 have hpg:zjM r=true:=partG_all (ua g18) (by rw[<-hS];exact ht23) (by rw[<-hS];omega) (hS▸hlp.2.2);obtain⟨hpv,hpo⟩:=zsH hpg (hS▸hx);rw[<-hS] at hpv;refine qe7 ?_;refine zi9 2 3 [.val zbk (zgx x)] (z:=(⟨zgx x,(S.take i).drop 1⟩:Part)) (R:=zaK) rfl rfl rfl zsT ?_;refine CR ?_;refine A0 (oLs rfl rfl rfl zeR) ?_;refine qaz ?_;refine qf8 ?_;exact zi rfl rfl (zm rfl rfl zeR (by rw[hpv,uc ya])) (zC (za rfl (hpo.symm)))
theorem rpread_ok (b:List UInt8) (hb:b.length<=1000000000):Tells P 199 [.val (bsl u8T) b] (.tup2 (.val zP (zen b)) (.val zo (zbK b))):=by
 have hsp:=zbi (zsq (b.drop 2) yby);obtain⟨S,hS⟩:∃S,S=(zw (b.drop 2)).1:=⟨_,rfl⟩;obtain⟨D,hD⟩:∃D,D=(zw (b.drop 2)).2:=⟨_,rfl⟩;rw[<-hS,<-hD] at hsp;have hrl:∀r∈S,r.length<=1000000000:=fun r hr=>by rw[hS] at hr;have:=zsv (split_has hr) hr;rw[length_drop] at this;omega
 have hSl:S.length<=255:=by rw[hS];exact zsf _
 refine zc Tryz.func199 rfl rfl rfl (fun ext w hext=>?_);refine ze (d:=0) rfl zk (fun hsl0=>?_);refine CQR ?_;refine qcv ?_;refine qag ?_;refine qcr ?_;refine qa7 ?_;refine Cf (p:=b.length<2) (fun ht14=>?_) (fun ht14=>?_)
 .
  refine CQR ?_;refine xA ?_;refine qcp ?_;exact zi rfl rfl (zm rfl rfl zaO ((zd6 (no_len2 ht14)).symm)) (zC (za rfl ((no_len2 ht14).symm)))
 obtain⟨b0,hb0⟩:∃c,b[0]?=some c:=yr;obtain⟨b1,hb1⟩:∃c,b[1]?=some c:=yr;refine qbY ?_;refine A0 (zjt rfl rfl rfl zb0 yh) ?_;refine A0 (oCl (hsp) rfl fn_253 yd) ?_;refine qaA ?_;refine A0 aV ?_;refine qaL ?_;refine zwS 9 (.box 27 zvK (0,0,())) [some 1,some 1,some 1,some 1,some 1,some 1,some 1,some 1,some 1,some 1000001,none] mixed yc rfl ?_;refine XKF.g rfl (g_mv (.inl rfl) rfl) (g_mv (.inl rfl) rfl) rfl rfl rfl rfl ?_;refine XKF.g rfl (zx (i:=0) rfl rfl rfl ya zb0 yj) (zx (i:=0) rfl rfl rfl ya zb0 yj) rfl rfl rfl rfl ?_;refine XKF.g rfl (zh rfl rfl ty_5) (zh rfl rfl ty_5) rfl rfl rfl rfl ?_;refine XKF.g rfl (zhs rfl (ui_3) (us_5) rfl (by exact zqb _)) (zhs rfl (ui_3) (us_5) rfl (by exact zqb _)) rfl rfl rfl rfl ?_;refine XKF.g rfl (g_mv (.inl rfl) rfl) (g_mv (.inl rfl) rfl) rfl rfl rfl rfl ?_;refine XKF.g rfl (zx (i:=1) rfl rfl rfl ya zb0 yj) (zx (i:=1) rfl rfl rfl ya zb0 yj) rfl rfl rfl rfl ?_;refine XKF.g rfl (zh rfl rfl ty_5) (zh rfl rfl ty_5) rfl rfl rfl rfl ?_;refine XKF.g rfl (zhs rfl (ui_3) (us_5) rfl (by exact zqb _)) (zhs rfl (ui_3) (us_5) rfl (by exact zqb _)) rfl rfl rfl rfl ?_;refine XKF.g rfl (zJ rfl zj7 zha (.cons zed (Lens.fst _ _) ty_3 rfl (.cons zdJ ((Lens.snd _ _).comp (Lens.fst _ _)) ty_3 rfl .nil)) rfl) (zJ rfl zj7 zha (.cons zed (Lens.fst _ _) ty_3 rfl (.cons zdJ ((Lens.snd _ _).comp (Lens.fst _ _)) ty_3 rfl .nil)) rfl) rfl rfl rfl rfl ?_;refine XKF.f rfl zj7 rfl rfl rfl rfl rfl rfl ?_;refine XKF.ew (x:=.idk) rfl yc (fun fr' hfr kk H=>by exact zg rfl rfl rfl ((hfr 6 yc).trans rfl) rfl (Lens.self _) zaO ((hfr 30 yc).trans rfl) (zD H)) ybU (by (repeat refine zwV ?_ rfl);exact fun _ _=>rfl) ?_;refine XKF.nilp trivial ?_;refine zek 1 (x:=((b0.toNat:Int),(b1.toNat:Int),())) zjD rfl ?_;refine zeD 1 72 zaK [.val i64T (b0.toNat:Int),.val i64T (b1.toNat:Int)] rfl yan ?_;refine CQQR ?_;refine qco ?_;refine zj (d:=5) (y:=(D&&(S.take 0).all zaS)) rfl yw ?_;refine zq (n:=2) (y:=(S.take 0).map zmx) rfl rfl ?_;refine Lp (ι:=Nat) 3 (fun i=>(((((Fr.none.set 0 (.val (bsl u8T) b)).set 2 (.ptr 0 0)).set 4 (.val (sl (sl u8T)) S)).set 5 (.val zo (D&&(S.take i).all zaS))).set 6 (.ptr 1 0)).set 7 (.val i64T (i:Int))) (fun i=>((Hp.none.set 0 (.box 27 zP zdb)).set 1 (.parts 27 [.val i64T (b0.toNat:Int),.val i64T (b1.toNat:Int),.own 2])).set 2 (.row 72 zaK ((S.take i).map zmx))) (fun i=>i<=S.length) (fun i=>S.length-i) (0) (uf _) ?_;intro i hinv;refine qb6 ?_;refine qc6 ?_;refine qa7 ?_;refine Cf (p:=i<S.length) (fun ht34=>?_) (fun ht34=>?_)
 .
  obtain⟨r,hx⟩:∃r,S[i]?=some r:=⟨_,ub ht34⟩;have hr:=hrl r (ud hx);refine qf7 ?_;refine A0 (zx (i:=i) rfl rfl rfl ya zcK yj) ?_;refine qcC ?_;refine A0 (oCl (rpart_ok r hr) rfl fn_254 yb1) ?_;refine qfV ?_;refine qbL ?_;refine zX (d:=46) (p:=(D&&(S.take i).all zaS)=true) rfl (by cases (D&&(S.take i).all zaS)<;>rfl) (fun g46=>?_) (fun g46=>?_)
  .
   refine qfY ?_;refine A0 oK ?_;refine qcc ?_;refine qea ?_;refine qcj ?_;refine zp rfl rfl rfl rfl rfl rfl rfl zkp yB ?_;refine qe3 ?_;refine qbi ?_;refine zj (d:=5) (y:=(D&&(S.take (i+1)).all zaS)) rfl (by rw[<-zw2 hx];first|rw[g46];rfl|simp[g46]) ?_;refine qeu ?_;refine zq (n:=2) (y:=(S.take (i+1)).map zmx) rfl ybr ?_;exact Nx (i+1) ya ya
  refine A2 ?_;refine A0 oK ?_;refine qcc ?_;refine qea ?_;refine qcj ?_;refine zp rfl rfl rfl rfl rfl rfl rfl zkp yB ?_;refine qe3 ?_;refine qbi ?_;refine zj (d:=5) (y:=(D&&(S.take (i+1)).all zaS)) rfl (by rw[<-zw2 hx];first|rw[g46];rfl|simp[g46]) ?_;refine qeu ?_;refine zq (n:=2) (y:=(S.take (i+1)).map zmx) rfl ybr ?_;exact Nx (i+1) ya ya
 have hST:S.take i=S:=uc ya;refine zj (d:=5) (y:=(D&&S.all zaS)) rfl (by rw[hST]) ?_;refine CE ?_;refine qbd ?_;refine qaT ?_;refine zl (p:=¬(D&&S.all zaS)=true) rfl (by cases (D&&S.all zaS)<;>rfl) (fun ht56=>?_) (fun ht56=>?_)
 .
  refine CQR ?_;refine xA ?_;refine qcp ?_;exact zi rfl rfl (zm rfl rfl zaO ((zd6 (no_dall (hD▸hS▸ht56))).symm)) (zC (za rfl ((no_dall (hD▸hS▸ht56)).symm)))
 have hDS:D=true/\S.all zaS=true:=by have:=ua ht56;rw[uk] at this;exact this
 have hall:(zw (b.drop 2)).1.all zaS=true:=by rw[<-hS];exact hDS.2
 have hrd:=read_parts hb0 hb1 hall;rw[<-hS] at hrd;refine zi9 1 2 [.val i64T (b0.toNat:Int),.val i64T (b1.toNat:Int)] (z:=(⟨(b0.toNat:Int),(b1.toNat:Int),(S.take i).map zmx⟩:Proof)) (R:=zP) rfl rfl rfl ziT ?_;refine zt (n:=1) (y:=zeV b) rfl (by rw[hST];exact hrd) ?_;refine qeM ?_;refine A0 (oCl (rpput_ok (zeV b)) rfl fn_255 yd) ?_;refine qbF ?_;refine A0 oN ?_;refine zX (d:=64) (p:=¬wOk (zeV b)=true) rfl yw (fun g64=>?_) (fun g64=>?_)
 .
  refine qf6 ?_;refine qdg ?_;refine Ct ?_;refine CQR ?_;refine xA ?_;refine qcp ?_;exact zi rfl rfl (zm rfl rfl zaO ((zd6 (no_wok g64)).symm)) (zC (za rfl ((no_wok g64).symm)))
 refine qaz ?_;refine qfY ?_;refine A1 (g_cvs rfl rfl uu_22 ui_5 st_9) ?_;refine qfY ?_;refine A1 (g_cvs rfl rfl uu_22 ui_5 st_9) ?_;refine A1 (g_neqstr rfl rfl rfl) ?_;refine qat ?_;refine zl (p:=¬zgy (zeV b)=b) rfl yw (fun ht71=>?_) (fun ht71=>?_)
 .
  refine CQR ?_;refine xA ?_;refine qcp ?_;exact zi rfl rfl (zm rfl rfl zaO ((zd6 (no_same ht71)).symm)) (zC (za rfl ((no_same ht71).symm)))
 have hok:=read_again (by rw[<-hD];exact hDS.1) hall ya (ua g64);refine qeM ?_;refine qcp ?_;exact zi rfl rfl (zm rfl rfl zaO ((znS hok).symm)) (zC (za rfl (hok.symm)))
def many (v:List Int) (n:Nat):Nat:=(v.filter fun x=>decide ((n:Int)<=x)).length
def zjn (v:List Int) (m:Int):Nat->Int
  | 0=>(many v 0:Int)
  | n+1=>if m<=(many v n:Int) then max (zjn v m n) ((many v n:Int)*2^n) else zjn v m n
def zjF (v:List Int) (m:Int):Int:=if 100<v.length then 0 else zjn v m 32
def cntK (v:List Int) (k:Int):List Int:=(List.range 32).map fun j=>(many v j:Int)+if (j:Int)<k then 1 else 0
def zmI (v:List Int):List Int:=(List.range 32).map fun j=>(many v j:Int)
theorem zre (v:List Int) (n:Nat):many v n<=v.length:=List.length_filter_le _ _
theorem zsP {v:List Int} {i:Nat} {x:Int} (h:v[i]?=some x) (n:Nat):(many (v.take (i+1)) n:Int)=(many (v.take i) n:Int)+if (n:Int)<=x then 1 else 0:=by
  unfold many;rw[un,h];simp only[Option.toList_some,List.filter_append,ue];by_cases c:(n:Int)<=x<;>simp[c]
theorem cnt_nil:zmI []=List.replicate 32 0:=yl
theorem cnt_at (v:List Int) {n:Nat} (h:n<32):(zmI v)[n]?=some (many v n:Int):=by
  unfold zmI;rw[List.getElem?_map,List.getElem?_range h];rfl
theorem zrE (v:List Int) (k:Int) {n:Nat} (h:n<32):(cntK v k)[n]?=some ((many v n:Int)+if (n:Int)<k then 1 else 0):=by
  unfold cntK;rw[List.getElem?_map,List.getElem?_range h];rfl
theorem cntK_zero (v:List Int) {k:Int} (h:k<=0):cntK v k=zmI v:=by
  unfold cntK zmI;apply List.map_congr_left;intro j hj;rw[ur ya];simp
theorem zj0 (v:List Int) (k:Int):(cntK v k).length=32:=by unfold cntK;simp
theorem cntK_step (v:List Int) {k:Nat} (h:k<32):(cntK v k).set k ((many v k:Int)+1)=cntK v ((k+1:Nat):Int):=by
  apply List.ext_getElem?;intro j;by_cases hj:j<32
  . by_cases e:k=j
    . subst e
      rw[List.getElem?_set_self (by rw[zj0];exact h),zrE _ _ h,ut ya]
    rw[List.getElem?_set_ne e,zrE _ _ hj,zrE _ _ hj];congr 2;by_cases c:(j:Int)<k
    . rw[ut c,ut ya]
    rw[ur c,ur ya]
  rw[List.getElem?_eq_none (by simp[zj0];omega),List.getElem?_eq_none (by simp[zj0];omega)]
theorem cntK_end {v:List Int} {i k:Nat} {x:Int} (hx:v[i]?=some x) (h1:(k:Int)<=max (min x 31+1) 0) (h2:¬(k:Int)<min x 31+1):cntK (v.take i) k=zmI (v.take (i+1)):=by
  unfold cntK zmI;apply List.map_congr_left;intro j hj;rw[List.mem_range] at hj;rw[zsP hx];congr 1;by_cases c:(j:Int)<k
  . rw[ut c,ut ya]
  rw[ur c,ur ya]
theorem zpq {n:Nat} (h:n<32):(2:Int)^n<=2147483648/\1<=(2:Int)^n:=by
  have h1:(2:Nat)^n<=2^31:=Nat.pow_le_pow_right yl ya;have h2:1<=(2:Nat)^n:=Nat.one_le_two_pow;have e:((2^n:Nat):Int)=(2:Int)^n:=yw;rw[<-e];have h3:(2:Nat)^31=2147483648:=yl;omega
theorem shl_many {a n:Nat} (h:n<32) (ha:a<=100):IntKind.i64.wrap ((a:Int)*2^(min (IntL.toI i64T (n:Int)).toNat 64))=(a:Int)*2^n:=by
  have e:min (IntL.toI i64T (n:Int)).toNat 64=n:=by show min ((n:Int)).toNat 64=n;omega
  rw[e];have ⟨h1,h2⟩:=zpq h;have h3:(a:Int)*2^n<=100*2147483648:=by
    have ha':(a:Int)<=100:=ya;exact Int.mul_le_mul ha' h1 ya yl
  have h4:0<=(a:Int)*2^n:=Int.mul_nonneg ya ya;exact z8 ya
def zdK (a b:List Ab.Id):Nat->Int×Int
  | 0=>(-1,-1)
  | i+1=>if idx (fun x=>decide (a.getD i zId=x)) b = -1 then zdK a b i else ((i:Int),idx (fun x=>decide (a.getD i zId=x)) b)
def zbx (p q:Proof):Int×Int:=zdK (idsP p) (idsP q) (idsP p).length
theorem ztq {a b:List Ab.Id} {k:Nat} {x:Ab.Id} (h0:0<k) (hx:a[k-1]?=some x) (h:idx (fun y=>decide (x=y)) b = -1):zdK a b k=zdK a b (k-1):=by
  obtain⟨j,rfl⟩:∃j,k=j+1:=⟨k-1,by omega⟩;have e:a.getD j zId=x:=by simp at hx;simp[hx]
  show(if _ then _ else _)=_;rw[e,ut h];rfl
theorem zhH {a b:List Ab.Id} {k:Nat} {x:Ab.Id} (h0:0<k) (hx:a[k-1]?=some x) (h:¬idx (fun y=>decide (x=y)) b = -1):zdK a b k=((k:Int)-1,idx (fun y=>decide (x=y)) b):=by
  obtain⟨j,rfl⟩:∃j,k=j+1:=⟨k-1,by omega⟩;have e:a.getD j zId=x:=by simp at hx;simp[hx]
  show(if _ then _ else _)=_;rw[e,ur h];congr 1;simp
theorem idx_ltL {α:Type} (p:α->Bool):∀l:List α,idx p l<l.length
  | []=>by simp[idx]
  | x::l=>by
    have:=idx_ltL p l
    unfold idx;rw[length_cons]
    split
    . omega
    split<;>omega
theorem zk4 (a b:List Ab.Id):∀i,-1<=(zdK a b i).1/\(zdK a b i).1<i∧-1<=(zdK a b i).2/\(zdK a b i).2<b.length\/zdK a b i=(-1,-1)
  | 0=>.inr rfl
  | i+1=>by
    unfold zdK
    split
    . rcases zk4 a b i with h|h
      . exact .inl ⟨h.1,by omega,h.2.2.1,h.2.2.2⟩
      exact .inr h
    have h1:=zkO (fun x=>decide (a.getD i zId=x)) b;have h2:=idx_ltL (fun x=>decide (a.getD i zId=x)) b;exact .inl ⟨by show(-1:Int)<=i;omega,by show(i:Int)<((i+1:Nat):Int);omega,h1,h2⟩
theorem zmf (p q:Proof):(-1<=(zbx p q).1/\(zbx p q).1<p.p.length)∧-1<=(zbx p q).2/\(zbx p q).2<q.p.length:=by
  have e1:(idsP p).length=p.p.length:=by unfold idsP;simp
  have e2:(idsP q).length=q.p.length:=by unfold idsP;simp
  rcases zk4 (idsP p) (idsP q) (idsP p).length with h|h
  . rw[e1,e2] at h
    unfold zbx;rw[e1];exact⟨⟨h.1,h.2.1⟩,h.2.2.1,h.2.2.2⟩
  unfold zbx;rw[h];exact⟨⟨by decide,by show(-1:Int)<_;omega⟩,by decide,by show(-1:Int)<_;omega⟩
def zh7 (p:Proof):Prop:=p.p.length<=110/\∀x∈p.p,x.l.length<=40
def zfo (x:PPair):Int:=if ¬zac x.p=0 then zac x.p else zac x.q
def ze5 (x:PPair):Int :=
  if ¬x.p.m=x.q.m\/¬x.p.k=x.q.k then 1 else if ¬(yAt x.p 0).h=(yAt x.q 0).h/\¬zaN (yAt x.p 0).h=zaN (yAt x.q 0).h then 12 else 0
def zcw (p q:Proof):Int:=if ¬zfo ⟨p,q⟩=0 then zfo ⟨p,q⟩ else ze5 ⟨p,q⟩
def zqw (p:Proof) (i:Int):Int:=zjF ((zfc p).drop (i+1).toNat) p.m
def zf4 (p q:Proof):Bool:=decide (zcw p q=0)&&decide (zqw p (zbx p q).1<zqw q (zbx p q).2)
def zbD (p q:Proof):Proof×Int :=
  if ¬zac p=0/\zac q=0 then (q,0) else if ¬zac p=0\/¬zac q=0 then (p,zac p) else if zf4 p q=true then (q,0) else (p,zcw p q)
theorem zkP {p:Proof} (h:zac p=0):0<p.p.length:=by
  have h:=zmj.1 h
  have:=h.k1
  have:=h.l1
  omega
theorem zpY {x:PPair} (h:zfo x=0):zac x.p=0/\zac x.q=0:=by
  unfold zfo at h
  split at h
  . rename_i c;exact absurd h c
  rename_i c;exact⟨ua c,h⟩
theorem pick_small {p q:Proof} (hp:zh7 p) (hq:zh7 q):zh7 (zbD p q).1:=by
  unfold zbD
  split
  . exact hq
  split
  . exact hp
  split
  . exact hq
  exact hp
theorem zqK {α:Type} {l:List α} {i:Nat} {x:α} (h:l[i]?=some x):l.set i x=l:=by
  apply List.ext_getElem?;intro j;by_cases e:i=j
  . subst e
    rw[List.getElem?_set_self (ul.1 h).1,h]
  rw[List.getElem?_set_ne e]
theorem ze_204:zaw P 204 (arrT 2 yl zP) (List.replicate 2 zdb):=z7 (zeK yl zer) yt
theorem zuD {p:Proof} (h:zpi p=true):zh7 p:=⟨fewPr_len h,fun _ hx=>zuE h hx⟩
theorem zoI (l:List Part) (hl:l.length*208<=140737488355328/\l.length<=9223372036854775807):Tells P 107 [.val (bsl zaK) l] (.fresh 72 zaK l):=by
 refine zc Tryz.func107 rfl rfl rfl (fun ext w hext=>?_);refine ze (d:=0) rfl zk (fun hsl0=>?_);refine qdK ?_;refine zfB rfl rfl rfl rfl rfl zdc (fun c4 hc4=>?_);refine CN ?_;refine zl (p:=c4=true) rfl yw (fun ht4=>?_) (fun ht4=>?_)
 .
  obtain rfl:=hc4 ht4;refine qfu ?_;exact zb rfl rfl (zs rfl)
 refine CSQR ?_;refine zbg (T:=zaK) (xs:=[]) rfl rfl rfl rfl zcu zkp trivial rfl rfl ?_;refine qaz ?_;refine zp rfl rfl rfl rfl rfl rfl rfl zkp yaD ?_;refine qbG ?_;exact zb rfl rfl (zf rfl rfl yw)
theorem score_ok (v:List Int) (m:Int):Tells P 64 [.val (bsl i64T) v,.val i64T m] (.val i64T (zjF v m)):=by
 refine zc Tryz.func64 rfl rfl rfl (fun ext w hext=>?_);refine ze (d:=0) rfl zk (fun hsl0=>?_);refine ze (d:=1) rfl zz (fun hin1=>?_);refine qcK ?_;refine qbw ?_;refine qc2 ?_;refine Cf (p:=100<v.length) (fun ht14=>?_) (fun ht14=>?_)
 .
  refine qar ?_;exact zb rfl rfl (za rfl (by unfold zjF;rw[ut ht14]))
 refine CSQR ?_;refine zN ze_209 rfl rfl rfl rfl ?_;refine qbD ?_;refine qbw ?_;refine qaF ?_;refine zt (n:=0) (y:=zmI (v.take 0)) rfl (by rw[List.take_zero,cnt_nil]) ?_;refine Lp (ι:=Nat) 1 (fun (i:Nat)=>(((((Fr.none).set 1 (.val i64T m)).set 5 (.ptr 0 0)).set 15 (.val (bsl i64T) v)).set 16 (.val i64T (v.length:Int))).set 17 (.val i64T (i:Int))) (fun (i:Nat)=>(Hp.none).set 0 (.box 209 (arrT 32 yl i64T) (zmI (v.take i)))) (fun (i:Nat)=>i<=v.length) (fun (i:Nat)=>v.length-i) (0) (uf _) ?_;intro i hinv;refine qap ?_;refine Cf (p:=i<v.length) (fun ht18=>?_) (fun ht18=>?_)
 .
  obtain⟨x,hx⟩:∃x,v[i]?=some x:=⟨_,ub ht18⟩;refine qeh ?_;refine qdw ?_;refine ze (d:=20) rfl zz (fun hxr=>?_);refine qfw ?_;refine A0 (g_min rfl rfl rfl) ?_;refine qfX ?_;refine qaF ?_;refine zt (n:=0) (y:=cntK (v.take i) ((0:Nat):Int)) rfl (cntK_zero _ yw).symm ?_;refine Lp (ι:=Nat) 1 (fun (k:Nat)=>(((((((Fr.none).set 1 (.val i64T m)).set 5 (.ptr 0 0)).set 15 (.val (bsl i64T) v)).set 16 (.val i64T (v.length:Int))).set 17 (.val i64T (i:Int))).set 23 (.val i64T (min x 31+1))).set 24 (.val i64T (k:Int))) (fun (k:Nat)=>(Hp.none).set 0 (.box 209 (arrT 32 yl i64T) (cntK (v.take i) k))) (fun (k:Nat)=>(k:Int)<=max (min x 31+1) 0) (fun (k:Nat)=>33-k) (0) yB ?_;intro k hk;refine qap ?_;refine Cf (p:=(k:Int)<min x 31+1) (fun ht25=>?_) (fun ht25=>?_)
  .
   have hg:(cntK (v.take i) k).getD k default=(many (v.take i) k:Int):=by rw[uq,zrE _ _ ya,ur ya];simp
   have hml:=zre (v.take i) k;have hml2:(v.take i).length<=100:=ybR;refine qbp ?_;refine qcc ?_;refine qaz ?_;refine A0 (zy (i:=k) rfl rfl rfl yi zwY ya) ?_;refine A0 (zr rfl rfl rfl (Lens.elem (i:=k) ya i64T) ty_3) ?_;refine A0 (zuz rfl rfl rfl (show _=((many (v.take i) k:Int)+1:Int) from by rw[hg];exact z8 ya)) ?_;refine A0 (zy (i:=k) rfl rfl rfl yi zwY ya) ?_;refine zg rfl rfl rfl rfl rfl (Lens.elem (i:=k) ya i64T) ty_3 rfl ?_;refine qb8 ?_;refine zt (n:=0) (y:=cntK (v.take i) ((k+1:Nat):Int)) rfl (cntK_step _ ya) ?_;exact Nx (k+1) ya ya
  refine CE ?_;refine CI ?_;refine CR ?_;refine qam ?_;refine zt (n:=0) (y:=zmI (v.take (i+1))) rfl (cntK_end hx hk ht25) ?_;exact Nx (i+1) ya ya
 refine zt (n:=0) (y:=zmI v) rfl yO ?_;refine qaU ?_;refine A0 (zy (i:=0) rfl rfl rfl yi zwY ya) ?_;refine A0 (zr rfl rfl rfl (Lens.elem (i:=0) ya i64T) ty_3) ?_;refine zj (d:=35) (y:=zjn v m 0) rfl (by rw[uq,cnt_at v yl];rfl) ?_;refine qbT ?_;refine A0 (oLs rfl rfl rfl ty_209) ?_;refine qaF ?_;refine Lp (ι:=Nat) 1 (fun n=>(((Fr.none.set 1 (.val i64T m)).set 9 (.val i64T (zjn v m n))).set 36 (.val (arrT 32 yl i64T) (zmI v))).set 37 (.val i64T (n:Int))) (fun n=>Hp.none) (fun n=>n<=32) (fun n=>32-n) (0) (uf _) ?_;intro n hn;refine qap ?_;refine Cf (p:=n<32) (fun ht38=>?_) (fun ht38=>?_)
 .
  have hc:=cnt_at v ht38;have hml:=zre v n;refine qbp ?_;refine A0 (zlM rfl rfl rfl rfl zwY ty_3 yj) ?_;refine A0 aV ?_;refine qbL ?_;refine qb5 ?_;refine Cf (p:=m<=(many v n:Int)) (fun ht43=>?_) (fun ht43=>?_)
  .
   refine qfJ ?_;refine qaz ?_;refine A0 (g_shlI rfl rfl rfl ybc (shl_many (a:=many v n) ht38 ya)) ?_;refine A0 (g_max rfl rfl rfl) ?_;refine A0 aV ?_;refine qb8 ?_;refine zj (d:=9) (y:=zjn v m (n+1)) rfl (ut ht43).symm ?_;exact Nx (n+1) ya ya
  refine qbt ?_;refine zj (d:=9) (y:=zjn v m (n+1)) rfl (ur ht43).symm ?_;exact Nx (n+1) ya ya
 refine qdl ?_;exact zb rfl rfl (za rfl (by unfold zjF;rw[ur ht14,show n=32 by omega]))
theorem common_ok (p q:Proof) (hp:p.p.length<=110) (hq:q.p.length<=110):Tells P 62 [.val zP p,.val zP q] (.tup2 (.val i64T (zbx p q).1) (.val i64T (zbx p q).2)):=by
 have hia:=zu (zs1 p ya);have hib:=zu (zs1 q ya);obtain⟨A,hA⟩:∃A,A=idsP p:=⟨_,rfl⟩;obtain⟨B,hB⟩:∃B,B=idsP q:=⟨_,rfl⟩;have hcm:zbx p q=zdK A B A.length:=by rw[hA,hB];rfl
 have hal:A.length<=110:=by rw[hA];unfold idsP;simpa using hp
 rw[<-hA] at hia;rw[<-hB] at hib;refine zc Tryz.func62 rfl rfl rfl (fun ext w hext=>?_);refine qav ?_;refine zN ze_3 rfl rfl rfl rfl ?_;refine zN ze_3 rfl rfl rfl rfl ?_;refine CNQR ?_;refine qa9 ?_;refine A0 (oCl (hib) rfl fn_22 yd) ?_;refine zN ze_56 rfl rfl rfl rfl ?_;refine zg rfl rfl rfl rfl rfl (Lens.self _) zcl rfl ?_;refine CNQQR ?_;refine qa9 ?_;refine A0 (oCl (hia) rfl fn_22 yd) ?_;refine z6 rfl rfl rfl rfl Tryz.func121 fn_121 rfl rfl (fun ia1 iok1=>?_);refine qbN ?_;refine qcI ?_;refine CNB ?_;refine zi8 rfl rfl rfl Tryz.func186 fn_186 rfl rfl yH (fun fid2 ca2 lN2 DN2 cok2 rc2 hrc2=>?_);refine CQR ?_;refine A0 (oLs rfl rfl rfl zcl) ?_;refine qbj ?_;refine qfv ?_;refine qco ?_;refine Lp (ι:=Nat) 8 (fun (k:Nat)=>(((Fr.none).set 0 (.lit (.func (.yield lN2) #[] #[]))).set 1 (.ptr 5 0)).set 3 (.val i64T ((k:Int)-1))) (fun (k:Nat)=>((((((Hp.none).set 2 (.box 3 i64T 0)).set 3 (.box 3 i64T 0)).set 4 (.box 56 (sl idT) B)).set 5 (.box 56 (sl idT) A)).set 6 (.objAt DN2 (.deferred (some [])))).set 7 (.objAt lN2 (rc2 .ready none))) (fun (k:Nat)=>k<=A.length/\zbx p q=zdK A B k) (fun (k:Nat)=>k) (A.length) (⟨ug _,hcm⟩) ?_;intro k hinv;refine qfR ?_;refine Cf (p:=0<k) (fun ht8=>?_) (fun ht8=>?_)
 .
  obtain⟨a,ha⟩:∃a,A[k-1]?=some a:=yr;refine qeh ?_;refine A0 mL ?_;refine qaz ?_;refine A0 (oLs rfl rfl rfl zcl) ?_;refine qaz ?_;refine A0 (zx (i:=k-1) rfl rfl rfl ya zce yj) ?_;refine qeQ ?_;refine zi7 (nL:=7) rfl rfl rfl rfl rfl hrc2 rfl rfl rfl (fun ya3 yok3=>?_);refine CQR ?_;refine qcc ?_;refine qaC ?_;refine qbP ?_;refine zjb (nL:=7) hrc2 rfl ?_;refine qgf ?_;refine A0 (oLs rfl rfl rfl zcl) ?_;refine qbf ?_;refine A0 (oCl (indexId B a) rfl fn_122 ye) ?_;refine qaR ?_;refine qaG ?_;refine zl (p:=¬idx (fun y=>decide (a=y)) B = -1) rfl yx (fun ht21=>?_) (fun ht21=>?_)
  .
   refine CQR ?_;refine qal ?_;refine qdk ?_;refine qdk ?_;refine CN ?_;refine zml (nL:=7) hrc2 rfl ?_;refine qaT ?_;refine Ct ?_;refine zhJ (nL:=7) rfl hrc2 rfl yl ?_;refine zaA (zcp (nD:=6) rfl rfl rfl ?_);exact zld rfl rfl (zm rfl rfl ty_3 (by rw[hinv.2,zhH ht8 ha ht21])) (zm rfl rfl ty_3 (by rw[hinv.2,zhH ht8 ha ht21]))
  refine qeS ?_;refine zdV (nL:=7) hrc2 rfl ?_;refine qaT ?_;refine Cg ?_;refine qeX ?_;refine zj (d:=3) (y:=((k-1:Nat):Int)-1) rfl ya ?_;exact Nx (k-1) (⟨by omega,by rw[hinv.2];exact ztq ht8 ha (ua ht21)⟩) ya
 refine CE ?_;refine ze2 (nL:=7) rfl hrc2 rfl yl ?_;refine CI ?_;refine CQR ?_;refine qdk ?_;refine qdk ?_;refine CN ?_;refine zaA (zcp (nD:=6) rfl rfl rfl ?_);exact zld rfl rfl (zm rfl rfl ty_3 ybg) (zm rfl rfl ty_3 ybg)
theorem zn0 (p:Proof) (hp:zh7 p):Tells P 86 [.val zP p] (.val zP p):=by
 have hpl:=hp.1;refine zc Tryz.func86 rfl rfl rfl (fun ext w hext=>?_);refine qae ?_;refine qcv ?_;refine CN ?_;refine zek 0 (x:=p) (zsd p) rfl ?_;refine CQR ?_;refine qea ?_;refine zao (zoI p.p yV) rfl fn_107 yd rfl rfl rfl ?_;refine qe3 ?_;refine CNQQR ?_;refine qea ?_;refine A0 (zbS rfl rfl rfl zdc) ?_;refine qaF ?_;refine Lp (ι:=Nat) 3 (fun i=>((((Fr.none.set 1 (.ptr 0 0)).set 2 (.ptr 1 0)).set 10 (.own 2)).set 11 (.val i64T (p.p.length:Int))).set 12 (.val i64T (i:Int))) (fun i=>((Hp.none.set 0 (.parts 27 [.val i64T p.m,.val i64T p.k,.own 2])).set 1 (.box 27 zP zdb)).set 2 (.row 72 zaK p.p)) (fun i=>i<=p.p.length) (fun i=>p.p.length-i) (0) (uf _) ?_;intro i hinv;refine qap ?_;refine Cf (p:=i<p.p.length) (fun ht13=>?_) (fun ht13=>?_)
 .
  obtain⟨x,hx⟩:∃x,p.p[i]?=some x:=⟨_,ub ht13⟩;refine qbp ?_;refine A0 (zau (i:=i) rfl rfl rfl rfl yi zcu yh) ?_;refine qds ?_;refine zA [some 1,some 1,some 1,some 1,some 1,some 1,some 1,some 1,none] mixed yc ?_;refine qcN ?_;refine X0 (oCl (zu (ziB x.l (by have:=hp.2 x (ud hx);constructor<;>omega))) rfl zs9 yd) ?_;refine X0 (zau (i:=i) rfl rfl rfl rfl yi zcu yh) ?_;refine X0 (zoo rfl rfl zb3 rfl) ?_;refine XK.e (x:=.idk) (fun fr' hfr kk H=>by exact zda rfl rfl rfl ((hfr 24 yc).trans rfl) rfl rfl yj zcc zcl ((hfr 22 yc).trans rfl) (zD H)) ?_;refine qdL ?_;refine zq (n:=2) (y:=p.p) rfl (zqK hx) ?_;exact Nx (i+1) ya ya
 refine qe7 ?_;refine zi9 0 2 [.val i64T p.m,.val i64T p.k] (z:=p) (R:=zP) rfl rfl rfl ziT ?_;refine CR ?_;refine qa9 ?_;refine qas ?_;refine CN ?_;exact zE rfl rfl rfl rfl zaO (rfl)
theorem holdsE_ok (x:PPair):Tells P 60 [.val zkA x] (.val i64T (zfo x)):=by
 refine zc Tryz.func60 rfl rfl rfl (fun ext w hext=>?_);refine qae ?_;refine qbT ?_;refine A0 (oFp ziZ) ?_;refine A0 (oLb zhf zaO) ?_;refine A0 (oFp ziY) ?_;refine A0 (oLb zhe zaO) ?_;refine A0 (ziV (T:=zP) (xs:=[_,_]) rfl ar_204 ze_204 yao rfl) ?_;refine qaF ?_;refine Lp (ι:=Nat) 1 (fun (k:Nat)=>((Fr.none).set 10 (.val (arrT 2 yl zP) [x.p,x.q])).set 11 (.val i64T (k:Int))) (fun (k:Nat)=>Hp.none) (fun (k:Nat)=>k<=2/\(0<k->zac x.p=0)/\(1<k->zac x.q=0)) (fun (k:Nat)=>2-k) (0) (⟨by omega,fun h=>absurd h yl,fun h=>absurd h yl⟩) ?_;intro k hinv;refine qap ?_;refine Cf (p:=k<2) (fun ht12=>?_) (fun ht12=>?_)
 .
  obtain⟨e,he⟩:∃e,[x.p,x.q][k]?=some e:=⟨_,ub (show k < [x.p,x.q].length from ht12)⟩;have hek:(k=0/\e=x.p)\/(k=1/\e=x.q):=ycr;rcases hek with ⟨hk,rfl⟩|⟨hk,rfl⟩
  .
   refine qeh ?_;refine A0 (zlM rfl rfl rfl rfl ar_204 zaO yj) ?_;refine qcv ?_;refine qas ?_;refine CNQR ?_;refine qa9 ?_;refine A0 (oCl (ziD x.p) rfl fn_17 yd) ?_;refine qaR ?_;refine qaG ?_;refine zl (p:=¬zac x.p=0) rfl yx (fun ht17=>?_) (fun ht17=>?_)
   .
    refine qd3 ?_;exact zb rfl rfl (za rfl (by unfold zfo;rw[ut ht17]))
   refine qbt ?_;exact Nx (k+1) yaR ya
  refine qeh ?_;refine A0 (zlM rfl rfl rfl rfl ar_204 zaO yj) ?_;refine qcv ?_;refine qas ?_;refine CNQR ?_;refine qa9 ?_;refine A0 (oCl (ziD x.q) rfl fn_17 yd) ?_;refine qaR ?_;refine qaG ?_;refine zl (p:=¬zac x.q=0) rfl yx (fun ht17=>?_) (fun ht17=>?_)
  .
   refine qd3 ?_;exact zb rfl rfl (za rfl (by unfold zfo;rw[ur (fun h=>h (hinv.2.1 ya))]))
  refine qbt ?_;exact Nx (k+1) yaR ya
 refine qcs ?_;exact zb rfl rfl (za rfl (by unfold zfo;rw[ur (fun h=>h (hinv.2.1 ya)),hinv.2.2 ya]))
theorem alikeE_ok (x:PPair) (h1:0<x.p.p.length) (h2:0<x.q.p.length) (h3:x.p.p.length<=110) (h4:x.q.p.length<=110):Tells P 61 [.val zkA x] (.val i64T (ze5 x)):=by
 have hy:=at_ x.p h1;have hz:=at_ x.q h2;have hiy:=zob x.p h1;have hiz:=zob x.q h2;refine zc Tryz.func61 rfl rfl rfl (fun ext w hext=>?_);refine qae ?_;refine qaL ?_;refine CB ?_;refine CQQR ?_;refine A0 (oFp ziZ) ?_;refine A0 (oFp zed) ?_;refine A0 (oLb (zhf.comp zem) ty_3) ?_;refine A0 (oFp ziY) ?_;refine A0 (oFp zed) ?_;refine A0 (oLb (zhe.comp zem) ty_3) ?_;refine A0 zd1 ?_;refine qad ?_;refine zl (p:=¬x.p.m=x.q.m) rfl yx (fun ht3=>?_) (fun ht3=>?_)
 .
  refine CS ?_;refine zf6 rfl (by simpa [IntL.toI] using ht3) ?_;refine qar ?_;exact zb rfl rfl (za rfl (by unfold ze5;rw[ut (.inl yj)]))
 refine CR ?_;refine A0 (oFp ziZ) ?_;refine A0 (oFp zdJ) ?_;refine A0 (oLb (zhf.comp zdu) ty_3) ?_;refine A0 (oFp ziY) ?_;refine A0 (oFp zdJ) ?_;refine A0 (oLb (zhe.comp zdu) ty_3) ?_;refine A0 zd1 ?_;refine qad ?_;refine zl (p:=¬x.p.k=x.q.k) rfl yx (fun ht3=>?_) (fun ht3=>?_)
 .
  refine qar ?_;exact zb rfl rfl (za rfl (by unfold ze5;rw[ut (.inr yj)]))
 refine qaI ?_;refine G0 (oFp ziZ) ?_;refine G0 (oFp za1) ?_;refine G0 (oLb (zhf.comp zaB) zcy) ?_;refine G0 (zx (i:=0) rfl rfl rfl ya zcu yj) ?_;refine G0 (oFr zbA zbe) ?_;refine qfa ?_;refine G0 (oFp ziY) ?_;refine G0 (oFp za1) ?_;refine G0 (oLb (zhe.comp zaB) zcy) ?_;refine G0 (zx (i:=0) rfl rfl rfl ya zcu yj) ?_;refine G0 (oFr zbA zbe) ?_;refine qfa ?_;refine G0 (zgY rfl rfl rfl (zmd)) ?_;refine G0 mV ?_;refine zaj (d:=32) (p:=¬(yAt x.p 0).h=(yAt x.q 0).h) rfl yw (fun g32=>?_) (fun g32=>?_)
 .
  refine G1 (oFp ziZ) ?_;refine G1 (oLb zhf zaO) ?_;refine G1 (oCl (zu (zs1 x.p ya)) rfl fn_22 yd) ?_;refine qb0 ?_;refine G1 (oFp ziY) ?_;refine G1 (oLb zhe zaO) ?_;refine G1 (oCl (zu (zs1 x.q ya)) rfl fn_22 yd) ?_;refine qb0 ?_;refine qfM ?_;refine G0 oK ?_;refine qaM ?_;refine zl (p:=¬zaN (yAt x.p 0).h=zaN (yAt x.q 0).h) rfl yw (fun ht18=>?_) (fun ht18=>?_)
  .
   refine qar ?_;exact zb rfl rfl (za rfl (by unfold ze5;rw[ur (fun h=>by omega),ut ⟨g32,ht18⟩]))
  refine qeS ?_;refine qar ?_;exact zb rfl rfl (za rfl (by unfold ze5;rw[ur (fun h=>by omega),ur (fun h=>ht18 h.2)]))
 refine qf0 ?_;refine G2 ?_;refine G2 ?_;refine G0 oK ?_;refine qaM ?_;refine Cg ?_;refine qeS ?_;refine qar ?_;exact zb rfl rfl (za rfl (by unfold ze5;rw[ur (fun h=>by omega),ur (fun h=>g32 h.1)]))
theorem zvf (p:Proof) (i:Int) (hp:p.p.length<=110) (h1:-1<=i) (h2:i<p.p.length):Tells P 63 [.val zP p,.val i64T i] (.val i64T (zqw p i)):=by
 have hll:(zfc p).length=p.p.length:=by unfold zfc;simp
 refine zc Tryz.func63 rfl rfl rfl (fun ext w hext=>?_);refine ze (d:=1) rfl zz (fun hin1=>?_);refine qae ?_;refine qc3 ?_;refine G0 (oLs rfl rfl rfl zaO) ?_;refine G0 (oCl (zu (levelsP_ok p ya)) rfl fn_65 yd) ?_;refine G0 mV ?_;refine qcB ?_;refine G0 (oCl (score_ok ((zfc p).drop (i+1).toNat) p.m) rfl fn_64 ye) ?_;refine qaM ?_;exact zb rfl rfl (za rfl (rfl))
theorem better_ok (p q:Proof) (hp:p.p.length<=110) (hq:q.p.length<=110):Tells P 19 [.val zP p,.val zP q] (.tup2 (.val zo (zf4 p q)) (.val i64T (zcw p q))):=by
 obtain⟨x,hx⟩:∃x:PPair,x=⟨p,q⟩:=⟨_,rfl⟩;have hbd:=zmf p q;refine zc Tryz.func19 rfl rfl rfl (fun ext w hext=>?_);refine qav ?_;refine A0 aV ?_;refine qeV ?_;refine qa9 ?_;refine A0 (zJ rfl ze_124 bd_124 (.cons ziZ zhf zaO rfl (.cons ziY zhe zaO rfl .nil)) rfl) ?_;refine zN ze_124 rfl rfl rfl rfl ?_;refine zg rfl rfl rfl rfl rfl (Lens.self _) ty_124 rfl ?_;refine CNQ ?_;refine CQ ?_;refine zt (n:=2) (y:=x) rfl hx.symm ?_;refine CR ?_;refine A0 (oLs rfl rfl rfl ty_124) ?_;refine A0 (g_mkbv rfl rfl) ?_;refine A0 (oLs rfl rfl rfl ty_124) ?_;refine A0 (g_mkbv rfl rfl) ?_;refine A0 (zW (T:=(bndvT zkA)) (xs:=[_,_]) rfl sl_203 row_203 yao rfl rfl) ?_;refine z6 rfl rfl rfl rfl Tryz.func59 fn_59 rfl rfl (fun ia1 iok1=>?_);refine qcK ?_;refine A0 (zaC rfl rfl isl_203) ?_;refine qaF ?_;refine Lp (ι:=Nat) 3 (fun (k:Nat)=>(((Fr.none).set 6 (.val (sl (bndvT zkA)) [(60,x),(61,x)])).set 7 (.val i64T 2)).set 8 (.val i64T (k:Int))) (fun (k:Nat)=>((Hp.none).set 0 (.box 27 zP p)).set 1 (.box 27 zP q)) (fun (k:Nat)=>k<=2/\(0<k->zfo x=0)/\(1<k->ze5 x=0)) (fun (k:Nat)=>2-k) (0) (⟨by omega,fun h=>absurd h yl,fun h=>absurd h yl⟩) ?_;intro k hinv;refine qap ?_;refine Cf (p:=k<2) (fun ht9=>?_) (fun ht9=>?_)
 .
  obtain⟨e,he⟩:∃e,[((60:Nat),x),(61,x)][k]?=some e:=⟨_,ub (show k<2 from ht9)⟩;have hek:(k=0/\e=(60,x))\/(k=1/\e=(61,x)):=ycr;rcases hek with ⟨hk,rfl⟩|⟨hk,rfl⟩
  .
   refine qeh ?_;refine A0 (zct rfl rfl rfl sl_203 yj) ?_;refine A0 (zh rfl rfl ty_119) ?_;refine qfw ?_;refine A0 (zwf (holdsE_ok x) rfl rfl fn_60 rfl) ?_;refine qaw ?_;refine zl (p:=¬zfo x=0) rfl yx (fun ht15=>?_) (fun ht15=>?_)
   .
    refine qcq ?_;refine qck ?_;refine zf6 rfl (by simpa [IntL.toI] using ht15) ?_;refine CQR ?_;refine A0 mX ?_;refine A0 aV ?_;refine qbe ?_;exact zG rfl rfl (za rfl (by unfold zf4 zcw;rw[<-hx,ut ht15,uh ht15];rfl)) (za rfl (by unfold zcw;rw[<-hx,ut ht15]))
   refine qbt ?_;exact Nx (k+1) yaS ya
  refine qeh ?_;refine A0 (zct rfl rfl rfl sl_203 yj) ?_;refine A0 (zh rfl rfl ty_119) ?_;refine qfw ?_;refine A0 (zwf (alikeE_ok x (by have:=zpY (hinv.2.1 ya);exact zkP this.1) (by have:=zpY (hinv.2.1 ya);exact zkP this.2) (by rw[hx];exact hp) (by rw[hx];exact hq)) rfl rfl fn_61 rfl) ?_;refine qaw ?_;refine zl (p:=¬ze5 x=0) rfl yx (fun ht15=>?_) (fun ht15=>?_)
  .
   refine qcq ?_;refine qck ?_;refine zf6 rfl (by simpa [IntL.toI] using ht15) ?_;refine CQR ?_;refine A0 mX ?_;refine A0 aV ?_;refine qbe ?_;exact zG rfl rfl (za rfl (by unfold zf4 zcw;rw[<-hx,ur (fun h=>h (hinv.2.1 ya)),uh ht15];rfl)) (za rfl (by unfold zcw;rw[<-hx,ur (fun h=>h (hinv.2.1 ya))]))
  refine qbt ?_;exact Nx (k+1) yaS ya
 refine qcs ?_;refine qck ?_;refine Cg ?_;refine qeM ?_;refine qa9 ?_;refine A0 (oCl (common_ok p q hp hq) rfl fn_62 ye) ?_;refine qaA ?_;refine A0 aV ?_;refine qaj ?_;refine A0 aC ?_;refine CNQ ?_;refine CD mixed ?_;refine G0 mC ?_;refine G0 (oLs rfl rfl rfl zaO) ?_;refine G0 mV ?_;refine G0 (zfd (As:=[_,_]) (Cs:=[]) (zvf q (zbx p q).2 hq hbd.2.1 hbd.2.2) rfl rfl fn_63 ye yC trivial rfl) ?_;refine G0 mC ?_;refine G0 (oLs rfl rfl rfl zaO) ?_;refine G0 mV ?_;refine G0 (zfd (As:=[_,_]) (Cs:=[]) (zvf p (zbx p q).1 hp hbd.1.1 hbd.1.2) rfl rfl fn_63 ye yC trivial rfl) ?_;refine G0 zcq ?_;refine qfQ ?_;exact zG rfl rfl (za rfl (by unfold zf4 zcw;rw[<-hx,ur (fun h=>h (hinv.2.1 ya)),hinv.2.2 ya];simp[IntL.toI])) (za rfl (by unfold zcw;rw[<-hx,ur (fun h=>h (hinv.2.1 ya)),hinv.2.2 ya]))
theorem pick_ok (p q:Proof) (hp:zh7 p) (hq:zh7 q):Tells P 87 [.val zP p,.val zP q] (.tup2 (.val zP (zbD p q).1) (.val i64T (zbD p q).2)):=by
 refine zc Tryz.func87 rfl rfl rfl (fun ext w hext=>?_);refine qav ?_;refine qcv ?_;refine qc3 ?_;refine G0 (oLs rfl rfl rfl zaO) ?_;refine G0 (oCl (ziD p) rfl fn_17 yd) ?_;refine G0 (oLs rfl rfl rfl zaO) ?_;refine G0 (oCl (ziD q) rfl fn_17 yd) ?_;refine qfQ ?_;refine CQ ?_;refine CB ?_;refine qb1 ?_;refine A0 zd1 ?_;refine qaz ?_;refine zX (d:=16) (p:=¬zac p=0) rfl yx (fun g16=>?_) (fun g16=>?_)
 .
  refine qfY ?_;refine A1 zd7 ?_;refine qaE ?_;refine zl (p:=zac q=0) rfl yx (fun ht13=>?_) (fun ht13=>?_)
  .
   refine qfH ?_;refine A0 (oCl (zn0 q hq) rfl fn_86 yd) ?_;refine qcp ?_;exact zi rfl rfl (zm rfl rfl zaO (by unfold zbD;rw[ut ⟨g16,ht13⟩])) (zC (za rfl (by unfold zbD;rw[ut ⟨g16,ht13⟩])))
  refine qb1 ?_;refine A0 zd1 ?_;refine qaz ?_;refine zf5 (d:=25) rfl (by simpa [IntL.toI] using g16) ?_;refine qaZ ?_;refine qaE ?_;refine Ct ?_;refine qfH ?_;refine A0 (oCl (zn0 p hp) rfl fn_86 yd) ?_;refine qaz ?_;refine qcp ?_;exact zi rfl rfl (zm rfl rfl zaO (by unfold zbD;rw[ur (fun h=>ht13 h.2),ut (.inl g16)])) (zC (za rfl (by unfold zbD;rw[ur (fun h=>ht13 h.2),ut (.inl g16)])))
 refine qaZ ?_;refine qaE ?_;refine Cg ?_;refine qb1 ?_;refine A0 zd1 ?_;refine qaz ?_;refine zlc (d:=25) rfl (by simpa [IntL.toI] using g16) ?_;refine qfY ?_;refine A1 zd1 ?_;refine qaE ?_;refine zl (p:=¬zac q=0) rfl yx (fun ht22=>?_) (fun ht22=>?_)
 .
  refine qfH ?_;refine A0 (oCl (zn0 p hp) rfl fn_86 yd) ?_;refine qaz ?_;refine qcp ?_;exact zi rfl rfl (zm rfl rfl zaO (by unfold zbD;rw[ur (fun h=>g16 h.1),ut (.inr ht22)])) (zC (za rfl (by unfold zbD;rw[ur (fun h=>g16 h.1),ut (.inr ht22)])))
 refine qeS ?_;refine qfH ?_;refine qa9 ?_;refine A0 (oCl (better_ok p q hp.1 hq.1) rfl fn_19 ye) ?_;refine qbF ?_;refine CN ?_;refine zl (p:=zf4 p q=true) rfl yw (fun ht38=>?_) (fun ht38=>?_)
 .
  refine qfH ?_;refine A0 (oCl (zn0 q hq) rfl fn_86 yd) ?_;refine qcp ?_;exact zi rfl rfl (zm rfl rfl zaO ybL) (zC (za rfl ybL))
 refine qeM ?_;refine A0 (oCl (zn0 p hp) rfl fn_86 yd) ?_;refine qaz ?_;refine qcp ?_;exact zi rfl rfl (zm rfl rfl zaO ybM) (zC (za rfl ybM))
theorem zf3 {p q:Proof} (h:¬zcw p q=0):zf4 p q=false:=by
  unfold zf4;rw[uh h];rfl
theorem ztG {p q:Proof} (h:¬zac p=0):zcw p q=zac p:=by
  have:zfo ⟨p,q⟩=zac p:=by unfold zfo;rw[ut h]
  unfold zcw;rw[this,ut h]
theorem ztF {p q:Proof} (hp:zac p=0) (h:¬zac q=0):zcw p q=zac q:=by
  have:zfo ⟨p,q⟩=zac q:=by unfold zfo;rw[ur (fun c=>c hp)]
  unfold zcw;rw[this,ut h]
theorem zeB {p q:Proof} (hp:zac p=0) (hq:zac q=0):zcw p q=ze5 ⟨p,q⟩:=by
  have:zfo ⟨p,q⟩=0:=by unfold zfo;rw[ur (fun c=>c hp)];exact hq
  unfold zcw;rw[this,ur yl]
def rsF (v:List Int) (m:Int):Nat->Int
  | 0=>0
  | n+1=>if (n=0\/m<=(many v n:Int))/\rsF v m n<(many v n:Int)*2^n then (many v n:Int)*2^n else rsF v m n
theorem rs_one (v:List Int) (m:Int):rsF v m 1=(many v 0:Int):=by
  unfold rsF;have e:(2:Int)^0=1:=rfl;have e0:rsF v m 0=0:=rfl;rw[e,e0,Int.mul_one];by_cases h:(0:Int)<(many v 0:Int)
  . rw[ut ⟨.inl rfl,h⟩]
  rw[ur (fun c=>h c.2)];omega
theorem rs_many (v:List Int) (m:Int):∀n,rsF v m (n+1)=zjn v m (n+1)
  | 0=>by
    rw[rs_one];show _=if m<=(many v 0:Int) then max (many v 0:Int) ((many v 0:Int)*2^0) else (many v 0:Int)
    rw[show(2:Int)^0=1 from rfl,Int.mul_one]
    split<;>omega
  | n+1=>by
    have ih:=rs_many v m n;rw[rsF,zjn,ih];by_cases h:m<=(many v (n+1):Int)
    . rw[ut h]
      by_cases c:zjn v m (n+1)<(many v (n+1):Int)*2^(n+1)
      . rw[ut ⟨.inr h,c⟩,Int.max_eq_right (Int.le_of_lt c)]
      rw[ur (fun q=>c q.2),Int.max_eq_left (Int.not_lt.1 c)]
    rw[ur h,ur (fun q=>q.1.elim (fun e=>by omega) h)]
theorem zsr (v:List Int) (m:Int):Tells P 308 [.val (bsl i64T) v,.val i64T m] (.val i64T (zjF v m)):=by
 refine zc Tryz.func308 rfl rfl rfl (fun ext w hext=>?_);refine ze (d:=0) rfl zk (fun hsl0=>?_);refine ze (d:=1) rfl zz (fun hin1=>?_);refine qcK ?_;refine qbw ?_;refine qc2 ?_;refine Cf (p:=100<v.length) (fun ht12=>?_) (fun ht12=>?_)
 .
  refine qar ?_;exact zb rfl rfl (za rfl (by unfold zjF;rw[ut ht12]))
 refine CSQR ?_;refine qaj ?_;refine qcz ?_;refine Lp (ι:=Nat) 0 (fun (n:Nat)=>(((((Fr.none).set 0 (.val (bsl i64T) v)).set 1 (.val i64T m)).set 5 (.val i64T (rsF v m n))).set 6 (.val i64T ((2:Int)^n))).set 7 (.val i64T (n:Int))) (fun (n:Nat)=>Hp.none) (fun (n:Nat)=>n<=32) (fun (n:Nat)=>32-n) (0) (uf _) ?_;intro n hn;refine qbd ?_;refine A0 zfR ?_;refine CN ?_;refine Cf (p:=n<=31) (fun ht14=>?_) (fun ht14=>?_)
 .
  have ⟨hp1,hp2⟩:=zpq (n:=n) ya;refine qeh ?_;refine qcz ?_;refine zj (d:=8) (y:=(many (v.take 0) n:Int)) rfl (by simp[many]) ?_;refine Lp (ι:=Nat) 0 (fun (i:Nat)=>(((((((Fr.none).set 0 (.val (bsl i64T) v)).set 1 (.val i64T m)).set 5 (.val i64T (rsF v m n))).set 6 (.val i64T ((2:Int)^n))).set 7 (.val i64T (n:Int))).set 8 (.val i64T (many (v.take i) n:Int))).set 9 (.val i64T (i:Int))) (fun (i:Nat)=>Hp.none) (fun (i:Nat)=>i<=v.length) (fun (i:Nat)=>v.length-i) (0) (uf _) ?_;intro i hinv;refine qb6 ?_;refine qbw ?_;refine qa7 ?_;refine Cf (p:=i<v.length) (fun ht20=>?_) (fun ht20=>?_)
  .
   obtain⟨x,hx⟩:∃x,v[i]?=some x:=⟨_,ub ht20⟩;have hml:=zre (v.take i) n;have hml2:(v.take i).length<=100:=ybR;have hms:=zsP hx n;refine qf7 ?_;refine xz ?_;refine qbs ?_;refine qaz ?_;refine qb5 ?_;refine Cf (p:=(n:Int)<=x) (fun ht28=>?_) (fun ht28=>?_)
   .
    refine qe5 ?_;refine A0 (zuz rfl rfl rfl (show _=((many (v.take i) n:Int)+1:Int) from z8 ya)) ?_;refine qdB ?_;refine zj (d:=8) (y:=(many (v.take (i+1)) n:Int)) rfl (by rw[hms,ut ya]) ?_;exact Nx (i+1) ya ya
   refine qcG ?_;refine zj (d:=8) (y:=(many (v.take (i+1)) n:Int)) rfl (by rw[hms,ur ya];omega) ?_;exact Nx (i+1) ya ya
  refine zj (d:=8) (y:=(many v n:Int)) rfl yO ?_;have hml:=zre v n;have hpr:(many v n:Int)*2^n<=100*2147483648:=Int.mul_le_mul ya hp1 ya yl;have hpn:0<=(many v n:Int)*2^n:=Int.mul_nonneg ya ya;refine CE ?_;refine qbd ?_;refine A0 zd7 ?_;refine Sp (d:=32) (p:=n=0) (fun g32=>?_) (fun g32=>?_)
  .
   refine qf6 ?_;refine qai ?_;refine qdi ?_;refine A1 (zkT rfl rfl rfl (show _=((many v n:Int)*2^n:Int) from z8 ya)) ?_;refine qca ?_;refine qat ?_;refine Cf (p:=rsF v m n<(many v n:Int)*2^n) (fun ht44=>?_) (fun ht44=>?_)
   .
    refine qfJ ?_;refine A0 (zkT rfl rfl rfl (show _=((many v n:Int)*2^n:Int) from z8 ya)) ?_;refine qcc ?_;refine qaz ?_;refine A0 (zkT rfl rfl rfl (show _=((2:Int)^(n+1):Int) from by rw[pow_succ,mul_comm];exact z8 ya)) ?_;refine qdB ?_;refine zj (d:=5) (y:=rsF v m (n+1)) rfl ((ut ⟨.inl g32,ht44⟩).symm) ?_;exact Nx (n+1) ya ya
   refine CS ?_;refine qe5 ?_;refine A0 (zkT rfl rfl rfl (show _=((2:Int)^(n+1):Int) from by rw[pow_succ,mul_comm];exact z8 ya)) ?_;refine qdB ?_;refine zj (d:=5) (y:=rsF v m (n+1)) rfl ((ur (fun c=>ht44 c.2)).symm) ?_;exact Nx (n+1) ya ya
  refine qaz ?_;refine qdi ?_;refine A1 zgb ?_;refine Sp (d:=36) (p:=m<=(many v n:Int)) (fun g36=>?_) (fun g36=>?_)
  .
   refine qai ?_;refine qdi ?_;refine A1 (zkT rfl rfl rfl (show _=((many v n:Int)*2^n:Int) from z8 ya)) ?_;refine qca ?_;refine qat ?_;refine Cf (p:=rsF v m n<(many v n:Int)*2^n) (fun ht44=>?_) (fun ht44=>?_)
   .
    refine qfJ ?_;refine A0 (zkT rfl rfl rfl (show _=((many v n:Int)*2^n:Int) from z8 ya)) ?_;refine qcc ?_;refine qaz ?_;refine A0 (zkT rfl rfl rfl (show _=((2:Int)^(n+1):Int) from by rw[pow_succ,mul_comm];exact z8 ya)) ?_;refine qdB ?_;refine zj (d:=5) (y:=rsF v m (n+1)) rfl ((ut ⟨.inr g36,ht44⟩).symm) ?_;exact Nx (n+1) ya ya
   refine CS ?_;refine qe5 ?_;refine A0 (zkT rfl rfl rfl (show _=((2:Int)^(n+1):Int) from by rw[pow_succ,mul_comm];exact z8 ya)) ?_;refine qdB ?_;refine zj (d:=5) (y:=rsF v m (n+1)) rfl ((ur (fun c=>ht44 c.2)).symm) ?_;exact Nx (n+1) ya ya
  refine qaH ?_;refine qdg ?_;refine Cg ?_;refine CS ?_;refine qe5 ?_;refine A0 (zkT rfl rfl rfl (show _=((2:Int)^(n+1):Int) from by rw[pow_succ,mul_comm];exact z8 ya)) ?_;refine qdB ?_;refine zj (d:=5) (y:=rsF v m (n+1)) rfl ((ur (fun c=>c.1.elim g32 g36)).symm) ?_;exact Nx (n+1) ya ya
 refine qdl ?_;exact zb rfl rfl (za rfl (by unfold zjF;rw[ur ht12,show n=32 by omega];exact rs_many v m 31))
theorem rfind19_ok (l:List Ab.Id) (id:Ab.Id):Tells P 351 [.val (bsl idT) l,.val idT id] (.val i64T (idx (fun y=>decide (id=y)) l)):=by
 refine zc Tryz.func351 rfl rfl rfl (fun ext w hext=>?_);refine ze (d:=0) rfl zk (fun hsl0=>?_);refine qae ?_;refine qcz ?_;refine Lp (ι:=Nat) 1 (fun (k:Nat)=>(((Fr.none).set 0 (.val (bsl idT) l)).set 3 (.ptr 0 0)).set 5 (.val i64T (k:Int))) (fun (k:Nat)=>(Hp.none).set 0 (.box 49 idT id)) (fun (k:Nat)=>k<=l.length/\idx (fun y=>decide (id=y)) l=shift k (idx (fun y=>decide (id=y)) (l.drop k))) (fun (k:Nat)=>l.length-k) (0) (⟨uf _,zcC _ l⟩) ?_;intro k hinv;refine qb6 ?_;refine qbj ?_;refine qa7 ?_;refine Cf (p:=k<l.length) (fun ht9=>?_) (fun ht9=>?_)
 .
  obtain⟨x,hx⟩:∃x,l[k]?=some x:=yaN;refine qff ?_;refine qbl ?_;refine G0 (zx (i:=k) rfl rfl rfl ya zce yj) ?_;refine qe2 ?_;refine GK.nil ?_;refine zl (p:=(decide (id=x))=true) rfl (by rw[uo,uj];exact⟨fun h=>h.symm,fun h=>h.symm⟩) (fun ht17=>?_) (fun ht17=>?_)
  .
   refine qd3 ?_;exact zb rfl rfl (za rfl ((hinv.2.trans (zgA hx ht17)).symm))
  refine qcG ?_;exact Nx (k+1) (⟨by omega,hinv.2.trans (zjs hx ht17)⟩) ya
 refine qcs ?_;exact zb rfl rfl (za rfl ((hinv.2.trans (zfU ya)).symm))
theorem rcommon_ok (p q:Proof) (hp:p.p.length<=110) (hq:q.p.length<=110):Tells P 306 [.val zP p,.val zP q] (.tup2 (.val i64T (zbx p q).1) (.val i64T (zbx p q).2)):=by
 have hia:=zu (zig p ya);have hib:=zu (zig q ya);obtain⟨A,hA⟩:∃A,A=idsP p:=⟨_,rfl⟩;obtain⟨B,hB⟩:∃B,B=idsP q:=⟨_,rfl⟩;have hcm:zbx p q=zdK A B A.length:=by rw[hA,hB];rfl
 have hal:A.length<=110:=by rw[hA];unfold idsP;simpa using hp
 rw[<-hA] at hia;rw[<-hB] at hib;refine zc Tryz.func306 rfl rfl rfl (fun ext w hext=>?_);refine qav ?_;refine A0 aV ?_;refine qeV ?_;refine A0 (oCl (hia) rfl ztc yd) ?_;refine qeV ?_;refine A0 (oCl (hib) rfl ztc yd) ?_;refine qag ?_;refine qbj ?_;refine qfv ?_;refine qco ?_;refine Lp (ι:=Nat) 0 (fun (k:Nat)=>(((Fr.none).set 6 (.val (sl idT) A)).set 7 (.val (sl idT) B)).set 8 (.val i64T ((k:Int)-1))) (fun (k:Nat)=>Hp.none) (fun (k:Nat)=>k<=A.length/\zbx p q=zdK A B k) (fun (k:Nat)=>k) (A.length) (⟨ug _,hcm⟩) ?_;intro k hinv;refine qfR ?_;refine Cf (p:=0<k) (fun ht18=>?_) (fun ht18=>?_)
 .
  obtain⟨a,ha⟩:∃a,A[k-1]?=some a:=yr;refine qf7 ?_;refine qaz ?_;refine A0 (zx (i:=k-1) rfl rfl rfl ya zce yj) ?_;refine qeQ ?_;refine A0 (oCl (rfind19_ok B a) rfl fn_351 ⟨yk,yb,trivial⟩) ?_;refine qaR ?_;refine qb5 ?_;refine zl (p:=¬idx (fun y=>decide (a=y)) B = -1) rfl (by have h:=zkO (fun y=>decide (a=y)) B;rw[uo];simp only[IntL.toI,id_eq];omega) (fun ht28=>?_) (fun ht28=>?_)
  .
   refine CQR ?_;refine qal ?_;refine qb2 ?_;exact zG rfl rfl (za rfl (by rw[hinv.2,zhH ht18 ha ht28])) (za rfl (by rw[hinv.2,zhH ht18 ha ht28]))
  refine qeX ?_;refine zj (d:=8) (y:=((k-1:Nat):Int)-1) rfl ya ?_;exact Nx (k-1) (⟨by omega,by rw[hinv.2];exact ztq ht18 ha (ua ht28)⟩) ya
 refine qaU ?_;refine qb2 ?_;exact zG rfl rfl (za rfl ybg) (za rfl ybg)
theorem rbetter_ok (p q:Proof) (hp:p.p.length<=110) (hq:q.p.length<=110):Tells P 261 [.val zP p,.val zP q] (.tup2 (.val zo (zf4 p q)) (.val i64T (zcw p q))):=by
 have hbd:=zmf p q;have hll:(zfc p).length=p.p.length:=by unfold zfc;simp
 have hlq:(zfc q).length=q.p.length:=by unfold zfc;simp
 refine zc Tryz.func261 rfl rfl rfl (fun ext w hext=>?_);refine qav ?_;refine A0 aV ?_;refine qeV ?_;refine A0 (oCl (zgS p) rfl ztd yd) ?_;refine qag ?_;refine qaG ?_;refine zl (p:=¬zac p=0) rfl yx (fun ht17=>?_) (fun ht17=>?_)
 .
  refine qb1 ?_;refine qb2 ?_;exact zG rfl rfl (za rfl (by rw[zf3 (by rw[ztG ht17];exact ht17)])) (za rfl (by rw[ztG ht17]))
 refine qeM ?_;refine A0 (oCl (zgS q) rfl ztd yd) ?_;refine qag ?_;refine qaG ?_;refine zl (p:=¬zac q=0) rfl yx (fun ht22=>?_) (fun ht22=>?_)
 .
  refine qb1 ?_;refine qb2 ?_;exact zG rfl rfl (za rfl (by rw[zf3 (by rw[ztF (ua ht17) ht22];exact ht22)])) (za rfl (by rw[ztF (ua ht17) ht22]))
 have hp0:zac p=0:=ua ht17;have hq0:zac q=0:=ua ht22;have hiy:=zob p (zkP hp0);have hiz:=zob q (zkP hq0);refine CSQQR ?_;refine qbX ?_;refine qbX ?_;refine A0 zd1 ?_;refine zX (d:=28) (p:=¬p.m=q.m) rfl yx (fun g28=>?_) (fun g28=>?_)
 .
  refine qf6 ?_;refine qdg ?_;refine Ct ?_;refine qev ?_;exact zG rfl rfl (za rfl (by rw[zf3 (by rw[zeB hp0 hq0];unfold ze5;rw[ut (.inl g28)];decide)])) (za rfl (by rw[zeB hp0 hq0];unfold ze5;rw[ut (.inl g28)]))
 refine qaz ?_;refine qbb ?_;refine qbb ?_;refine A1 zd1 ?_;refine qat ?_;refine zl (p:=¬p.k=q.k) rfl yx (fun ht35=>?_) (fun ht35=>?_)
 .
  refine qev ?_;exact zG rfl rfl (za rfl (by rw[zf3 (by rw[zeB hp0 hq0];unfold ze5;rw[ut (.inr ht35)];decide)])) (za rfl (by rw[zeB hp0 hq0];unfold ze5;rw[ut (.inr ht35)]))
 refine qeM ?_;refine A0 (oCl (zu (zig p ya)) rfl ztc yd) ?_;refine qeV ?_;refine A0 (oCl (zu (zig q ya)) rfl ztc yd) ?_;refine qaL ?_;refine qdO ?_;refine G0 (zx (i:=0) rfl rfl rfl ya zce yj) ?_;refine qcE ?_;refine G0 mV ?_;refine G0 (zx (i:=0) rfl rfl rfl ya zce yj) ?_;refine qcE ?_;refine G0 (zgY rfl rfl rfl (zix)) ?_;refine GK.nil ?_;refine zl (p:=¬zaN (yAt p 0).h=zaN (yAt q 0).h) rfl yw (fun ht46=>?_) (fun ht46=>?_)
 .
  refine qev ?_;exact zG rfl rfl (za rfl (by rw[zf3 (by rw[zeB hp0 hq0];unfold ze5;rw[ur (fun h=>h.elim g28 ht35),ut ⟨fun h=>ht46 yaY,ht46⟩];decide)])) (za rfl (by rw[zeB hp0 hq0];unfold ze5;rw[ur (fun h=>h.elim g28 ht35),ut ⟨fun h=>ht46 yaY,ht46⟩]))
 have hbe:zcw p q=0:=by rw[zeB hp0 hq0];unfold ze5;rw[ur (fun h=>h.elim g28 ht35),ur (fun h=>ht46 h.2)]
 have hmm:p.m=q.m:=ua g28;refine qeM ?_;refine qa9 ?_;refine A0 (oCl (rcommon_ok p q hp hq) rfl fn_306 ye) ?_;refine qaA ?_;refine A0 aV ?_;refine qeV ?_;refine A0 (oCl (zu (zl3 p ya)) rfl fn_307 yd) ?_;refine qeV ?_;refine A0 (oCl (zu (zl3 q ya)) rfl fn_307 yd) ?_;refine qc3 ?_;refine qbl ?_;refine qcB ?_;refine G0 (oCl (zsr ((zfc q).drop ((zbx p q).2+1).toNat) p.m) rfl fn_308 ye) ?_;refine qbl ?_;refine qcB ?_;refine G0 (oCl (zsr ((zfc p).drop ((zbx p q).1+1).toNat) p.m) rfl fn_308 ye) ?_;refine G0 zcq ?_;refine qfQ ?_;exact zG rfl rfl (za rfl (by unfold zf4 zqw;rw[hbe,hmm];simp[IntL.toI])) (za rfl (hbe.symm))
theorem rpick_ok (p q:Proof) (hp:zh7 p) (hq:zh7 q):Tells P 201 [.val zP p,.val zP q] (.tup2 (.val zP (zbD p q).1) (.val i64T (zbD p q).2)):=by
 refine zc Tryz.func201 rfl rfl rfl (fun ext w hext=>?_);refine qav ?_;refine qcv ?_;refine qeV ?_;refine A0 (oCl (zgS p) rfl ztd yd) ?_;refine qeV ?_;refine A0 (oCl (zgS q) rfl ztd yd) ?_;refine qag ?_;refine A0 zd1 ?_;refine zX (d:=15) (p:=¬zac p=0) rfl yx (fun g15=>?_) (fun g15=>?_)
 .
  refine qaz ?_;refine qfY ?_;refine A1 zd7 ?_;refine qat ?_;refine zl (p:=zac q=0) rfl yx (fun ht19=>?_) (fun ht19=>?_)
  .
   refine qfH ?_;refine qcp ?_;exact zi rfl rfl (zm rfl rfl zaO (by unfold zbD;rw[ut ⟨g15,ht19⟩])) (zC (za rfl (by unfold zbD;rw[ut ⟨g15,ht19⟩])))
  refine qcb ?_;refine qaG ?_;refine zf6 rfl (by simpa [IntL.toI] using g15) ?_;refine qfH ?_;refine qaz ?_;refine qcp ?_;exact zi rfl rfl (zm rfl rfl zaO (by unfold zbD;rw[ur (fun h=>ht19 h.2),ut (.inl g15)])) (zC (za rfl (by unfold zbD;rw[ur (fun h=>ht19 h.2),ut (.inl g15)])))
 refine qaz ?_;refine qdg ?_;refine Cg ?_;refine qcb ?_;refine qaG ?_;refine zgH rfl (by simpa [IntL.toI] using g15) ?_;refine qcb ?_;refine qaG ?_;refine zl (p:=¬zac q=0) rfl yx (fun ht26=>?_) (fun ht26=>?_)
 .
  refine qfH ?_;refine qcp ?_;exact zi rfl rfl (zm rfl rfl zaO (by unfold zbD;rw[ur (fun h=>g15 h.1),ut (.inr ht26)])) (zC (za rfl (by unfold zbD;rw[ur (fun h=>g15 h.1),ut (.inr ht26)];exact(ua g15).symm)))
 refine qeM ?_;refine qa9 ?_;refine A0 (oCl (rbetter_ok p q hp.1 hq.1) rfl fn_261 ye) ?_;refine qbF ?_;refine qaG ?_;refine zl (p:=¬zcw p q=0) rfl yx (fun ht35=>?_) (fun ht35=>?_)
 .
  refine qfH ?_;refine qaz ?_;refine qcp ?_;exact zi rfl rfl (zm rfl rfl zaO ybp) (zC (za rfl ybp))
 refine qcb ?_;refine CN ?_;refine zl (p:=zf4 p q=true) rfl yw (fun ht38=>?_) (fun ht38=>?_)
 .
  refine qfH ?_;refine qcp ?_;exact zi rfl rfl (zm rfl rfl zaO ybN) (zC (za rfl ybN))
 refine qeM ?_;refine qcp ?_;exact zi rfl rfl (zm rfl rfl zaO (by unfold zbD;rw[ur (fun h=>g15 h.1),ur (fun h=>h.elim g15 ht26),ur ht38])) (zC (za rfl (by unfold zbD;rw[ur (fun h=>g15 h.1),ur (fun h=>h.elim g15 ht26),ur ht38];exact(ua ht35).symm)))
end Go.Proofs.YtikaeepohlkjdaaGreat
