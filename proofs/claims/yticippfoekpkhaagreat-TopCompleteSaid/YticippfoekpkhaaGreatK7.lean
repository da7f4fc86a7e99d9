/- Parts of the proof: the layer that reads Go values as data, and what the functions of the program tell. -/
import Derived.Test.YticippfoekpkhaaGreatK6
set_option linter.unusedVariables false
set_option linter.unusedSimpArgs false
set_option maxRecDepth 20000
namespace Go.Proofs.YticippfoekpkhaaGreat
open Go.Ab Go.RowKit
theorem zsx {L:List Int} (hL:L.Pairwise (· < ·)) (y:Int):∀lo hi,lo≤hi→hi≤L.length→(∀j x,L[j]?=some x→j<lo→x<y)→(∀j x,L[j]?=some x→hi≤j→y≤x)→
    halves (fun x=>x-y) L lo hi≤L.length∧(∀j x,L[j]?=some x→j<halves (fun x=>x-y) L lo hi→x<y)∧(∀j x,L[j]?=some x→halves (fun x=>x-y) L lo hi≤j→y≤x):=by
  intro lo hi
  induction lo,hi using halves.induct (fun x=>x-y) L with
  | case1 lo hi hlt hx =>
    intro _ h2 _ _;rw[ub ya] at hx;cases hx
  | case2 lo hi hlt x hx hc ih =>
    intro h1 h2 h3 h4;rw[zia hlt hx hc];refine ih ya h2 (fun j z hz hj=>?_) h4;by_cases e:j=(lo+hi)/2
    · subst e;rw[hx] at hz;injection hz with hz;omega
    have:=(zc9 hL hz hx).2 ya;omega
  | case3 lo hi hlt x hx hc ih =>
    intro h1 h2 h3 h4;rw[zib hlt hx hc];refine ih ya ya h3 (fun j z hz hj=>?_);by_cases e:j=(lo+hi)/2
    · subst e;rw[hx] at hz;injection hz with hz;omega
    have:=(zc9 hL hx hz).2 ya;omega
  | case4 lo hi hlt =>
    intro h1 h2 h3 h4;have e:hi=lo:=ya;subst e;rw[zbW];exact⟨h2,h3,h4⟩
def placeIn (L:List Int) (q:Int):Nat:=halves (fun x=>x-q) L 0 L.length
def isIn (L:List Int) (q:Int):Bool:=zeP (fun x=>x-q) L (placeIn L q)
theorem bsPl_ok (L:List Int) (q:Int) (hl:L.length<4611686018427387904):Tells P 35 [.val (bsl i64T) L,.val i64T q] (.tup2 (.val i64T (placeIn L q:Nat)) (.val zn (isIn L q))):=bsInt_ok L q hl
theorem zlM {L:List Int} (hL:L.Pairwise (· < ·)) (q:Int):placeIn L q≤L.length∧(∀j x,L[j]?=some x→j<placeIn L q→x<q)∧(∀j x,L[j]?=some x→placeIn L q≤j→q≤x) :=
  zsx hL q 0 L.length (uf _) (ug _) (fun j x _ h=>absurd h (Nat.not_lt_zero _)) (fun j x hx h=>by rw[List.getElem?_eq_none h] at hx;cases hx)
theorem isIn_iff {L:List Int} (hL:L.Pairwise (· < ·)) (q:Int):isIn L q=true↔q∈L:=by
  obtain⟨h1,h2,h3⟩:=zlM hL q;unfold isIn zeP
  constructor
  · intro h
    cases hx:L[placeIn L q]? with
    | none=>rw[hx] at h;cases h
    | some x =>
      rw[hx] at h;have h5:x-q=0:=of_decide_eq_true h;have e:x=q:=ya;rw[←e];exact ud hx
  intro h;obtain⟨j,hj⟩:=List.getElem?_of_mem h;have hnl:¬j<placeIn L q:=fun c=>by have:=h2 j q hj c;omega
  have hjl:=(ul.1 hj).1;obtain⟨x,hx⟩:∃x,L[placeIn L q]?=some x:=yo;have hqx:=h3 _ x hx (ug _)
  have:x=q:=by
    by_cases e:placeIn L q=j
    · rw[e,hj] at hx;injection hx with hx;exact hx.symm
    have:=(zc9 hL hx hj).2 ya;omega
  rw[hx];exact ui (show x-q=0 by omega)
def wayL (v L:List Int) (q:Int):List Int:=if isIn L q=true then L else ziV L (ziV (zay v (L.getD (placeIn L q) 0) q) (zay v q (L.getD (placeIn L q-1) 0)))
def zc7 (l:List Block) (m k q:Int):List Int:=wayL (zk l) (zy l m k) q
def wiE (l:List Block) (m k q:Int):Int:=if ¬prE l m k=0 then prE l m k else if q<0∨(l.length:Int)-k≤q then 1 else 0
def wiOf (l:List Block) (m k q:Int):Proof:=if wiE l m k q=0 then ⟨m,k,(zc7 l m k q).map (zaQ l)⟩ else zdN
theorem zru {l:List Block} {m k q:Int} (h:¬wiE l m k q=0):wiOf l m k q=zdN:=by unfold wiOf;rw[if_neg h]
section
variable {l:List Block} {m k q:Int}
theorem zg3 (h:BuildOk l m k) (h0:0≤q) (h1:q<(l.length:Int)-k) (hn:¬isIn (zy l m k) q=true) :
    ∃x y,1≤placeIn (zy l m k) q∧(zy l m k)[placeIn (zy l m k) q-1]?=some x∧(zy l m k)[placeIn (zy l m k) q]?=some y∧0≤x∧x<q∧q<y∧y<l.length:=by
  have hr:=ze0 h;obtain⟨p1,p2,p3⟩:=zlM hr q;rw[isIn_iff hr] at hn;have hf:=zlL h;have hl:=ztJ h;have hk:=h.k1;have hi:1≤placeIn (zy l m k) q:=Nat.pos_of_ne_zero fun e=>by
    have:=p3 0 0 hf ya
    exact hn (by rw[show q=0 by omega];exact ud hf)
  have hne:(zy l m k).length≠0:=fun e=>by rw[List.length_eq_zero_iff.1 e] at hf;cases hf
  have hi2:placeIn (zy l m k) q<(zy l m k).length:=Nat.lt_of_not_le fun c=>by
    have:=p2 _ _ hl ya
    omega
  obtain⟨x,hx⟩:∃x,(zy l m k)[placeIn (zy l m k) q-1]?=some x:=yo;obtain⟨y,hy⟩:∃y,(zy l m k)[placeIn (zy l m k) q]?=some y:=⟨_,ub hi2⟩;have hx1:=p2 _ x hx ya;have hy1:=p3 _ y hy (ug _);have hy2:y≠q:=fun e=>hn (by rw[←e];exact ud hy)
  have hxm:=zcl ⟨h.k1,h.kl⟩ (ud hx);have hym:=zcl ⟨h.k1,h.kl⟩ (ud hy);exact⟨x,y,hi,hx,hy,hxm.1,hx1,by omega,hym.2⟩
theorem zjt (L:List Int) (x:Int):x∈zG L↔x∈L:=by
  refine zjL (p:=fun L=>x∈zG L↔x∈L) Iff.rfl (fun L y ih=>?_) L;show x∈zG (L++[y])↔x∈L++[y];rw[zeF];unfold cstep
  split
  · rename_i c
    rw[ih,List.mem_append,List.mem_singleton];refine⟨.inl,fun h=>h.elim id fun e=>?_⟩;rw[e,←ih] at *;rw[zlW] at c;exact List.mem_of_getLast? c
  rw[List.mem_append,ih,List.mem_append]
theorem zhL {a b:List Int} {x:Int}:x∈ziV a b↔x∈a∨x∈b:=by
  unfold ziV;rw[zjt,zmm,List.mem_append]
theorem zoQ (L:List Int) (h:L.Pairwise fun a b=>a≤b):(zG L).Pairwise (· < ·):=by
  revert h;refine zjL (p:=fun L=>(L.Pairwise fun a b=>a≤b)→(zG L).Pairwise (· < ·)) (fun _=>List.Pairwise.nil) (fun L y ih h=>?_) L;rw[List.pairwise_append] at h;have hi:=ih h.1;rw[zeF];unfold cstep
  split
  · exact hi
  rename_i c;rw[List.pairwise_append];refine⟨hi,List.pairwise_singleton ..,fun a ha b hb=>?_⟩;rw[List.mem_singleton] at hb;subst hb;have h1:=h.2.2 a ((zjt L a).1 ha) b (List.mem_singleton.2 rfl);have hne:zG L≠[]:=fun e=>by rw[e] at ha;cases ha
  obtain⟨z,hz⟩:∃z,(zG L).getLast?=some z:=⟨_,List.getLast?_eq_some_getLast hne⟩;have hzm:z∈L:=(zjt L z).1 (List.mem_of_getLast? hz);have h2:=h.2.2 z hzm b (List.mem_singleton.2 rfl);have hzb:z≠b:=fun e=>c (by rw[hz,e])
  have h3:a≤z:=by
    obtain⟨i,hi'⟩:=List.getElem?_of_mem ha;rw[List.getLast?_eq_getElem?] at hz;have hil:=(ul.1 hi').1;by_cases e:i=(zG L).length-1
    · rw[←e,hi'] at hz;injection hz with hz;omega
    have:=(zc9 hi hi' hz).2 ya;omega
  omega
theorem zrC (a b:List Int):(ziV a b).Pairwise (· < ·):=zoQ _ (zg8 _)
theorem zp2 (v:List Int) (low:Nat):∀s at_ n,at_+n≤s→low≤at_→∀x∈zfO v low at_ n,(low:Int)≤x∧x<at_
  | 0,at_,n,h,_,x,hx=>by rw[zg4 v ya] at hx;cases hx
  | s+1,at_,n,h,hlo,x,hx=>by
    by_cases c:low<at_
    · by_cases d:zbi v n (at_-1)<low
      · cases n with
        | zero=>rw[zfO,dif_pos c,dif_pos d] at hx;cases hx
        | succ n=>rw[zhI c d] at hx;exact zp2 v low s at_ n ya hlo x hx
      rw[zhH c d] at hx;have hb:=zhu v n (at_-1);rcases List.mem_cons.1 hx with e|hx
      · rw[e];omega
      have:=zp2 v low s (zbi v n (at_-1)) n ya ya x hx;omega
    rw[zg4 v c] at hx;cases hx
theorem ziE {v:List Int} {high low x:Int} (h:x∈zay v high low):low≤x∧x≤high:=by
  unfold zay at h
  split at h
  · rename_i c
    obtain⟨_,h2,_,h4,h5,h6⟩:=zdT c;rw[List.mem_reverse] at h;rcases List.mem_cons.1 h with e|h
    · rw[e];omega
    have:=zp2 v low.toNat _ high.toNat 31 (ug _) ya x h;omega
  cases h
theorem znO {v:List Int} {high low:Int} (h:zaq v high low=true):high∈zay v high low:=by
  unfold zay;rw[if_pos h,List.mem_reverse];exact List.mem_cons_self ..
theorem way_len (L:List Int) (v:List Int) (q:Int):(wayL v L q).length≤L.length+402:=by
  unfold wayL
  split
  · omega
  have h1:=zmU L (ziV (zay v (L.getD (placeIn L q) 0) q) (zay v q (L.getD (placeIn L q-1) 0)));have h2:=zmU (zay v (L.getD (placeIn L q) 0) q) (zay v q (L.getD (placeIn L q-1) 0));have h3:=zfg v (L.getD (placeIn L q) 0) q;have h4:=zfg v q (L.getD (placeIn L q-1) 0);omega
theorem zmj (h:BuildOk l m k) (h0:0≤q) (h1:q<(l.length:Int)-k) {x:Int} (hx:x∈zc7 l m k q):0≤x∧x<l.length:=by
  unfold zc7 wayL at hx
  split at hx
  · exact zcl ⟨h.k1,h.kl⟩ hx
  rename_i c;obtain⟨a,b,hi,ha,hb,h2,h3,h4,h5⟩:=zg3 h h0 h1 c;rw[uq,uq,ha,hb,zhL,zhL] at hx;rcases hx with hx|hx|hx
  · exact zcl ⟨h.k1,h.kl⟩ hx
  · have:q≤x∧x≤b:=ziE hx;omega
  have:a≤x∧x≤q:=ziE hx;omega
theorem zmM (h:BuildOk l m k):(zc7 l m k q).Pairwise (· < ·):=by
  unfold zc7 wayL
  split
  · exact ze0 h
  exact zrC ..
theorem zuz {x:Int} (hx:x∈zy l m k):x∈zc7 l m k q:=by
  unfold zc7 wayL
  split
  · exact hx
  exact zhL.2 (.inl hx)
end
def ztE:GoT (List Block×Int×Int×List Int×List Int):=za7 (bsl zH) (za7 i64T (za7 i64T (za7 (sl i64T) (sl i64T))))
theorem ztR {l:List Block} {m k:Int} {v p:List Int}:zkH ztE (l,m,k,v,p) [.val (bsl zH) l,.val i64T m,.val i64T k,.val (sl i64T) v] i64T p:=zfu (zfu (zfu (zfu znB)))
theorem zp8 {l:List Block} {m k:Int} {v p:List Int}:zgu ztE (l,m,k,v,p) [.val (bsl zH) l,.val i64T m,.val i64T k,.val (sl i64T) v,.val (sl i64T) p]:=zbT zce (zbT zce (zbT zce (zbT zce zce)))
theorem prWith_ok (l:List Block) (m k q:Int) (hl:zhR l):Tells P 12 [.val (bsl zH) l,.val i64T m,.val i64T k,.val i64T q] (.tup2 (.val za1 (wiOf l m k q)) (.val i64T (wiE l m k q))):=by
 have hll:=hl.1;refine zc Tryz.func12 rfl rfl rfl (fun ext w hext=>?_);refine zf (d:=0) rfl zl (fun hsl0=>?_);refine zf (d:=1) rfl zt (fun hin1=>?_);refine zf (d:=2) rfl zt (fun hin2=>?_);refine zf (d:=3) rfl zt (fun hin3=>?_);refine CQR ?_;refine qb8 ?_;refine qag ?_;refine qaq ?_;refine zaa rfl rfl rfl rfl Tryz.func21 fn_21 rfl rfl (fun ia1 iok1=>?_);refine qap ?_;refine qam ?_;refine A0 (oCl (zkt l hl) rfl fn_6 yd) ?_;refine qa1 ?_;refine qag ?_;refine qbz ?_;refine zo (p:=¬(zM l).2=0) rfl yO (fun ht18=>?_) (fun ht18=>?_)
 ·
  refine qa6 ?_;refine A0 aL ?_;refine qad ?_;refine zcu rfl ?_;refine A0 yt ?_;refine qaC ?_;refine ziq rfl (by simp;exact ht18) ?_;refine CQR ?_;refine xC ?_;refine qby ?_;exact zp rfl rfl (zx rfl rfl zbw (by rw[zru (by unfold wiE prE;rw[if_pos ht18,if_pos ht18];exact ht18)])) (zad (za rfl (by unfold wiE prE;rw[if_pos ht18,if_pos ht18])))
 refine qb2 ?_;refine A0 zbu ?_;refine qaw ?_;refine Sp (d:=22) (p:=m<1) (fun g22=>?_) (fun g22=>?_)
 ·
  refine qa5 ?_;refine A2 ?_;refine qaj ?_;refine A2 ?_;refine qar ?_;refine qas ?_;refine Ct ?_;refine qbe ?_;refine zcu rfl ?_;refine A0 yt ?_;refine qaC ?_;refine Ct ?_;refine CQR ?_;refine xC ?_;refine qby ?_;exact zp rfl rfl (zx rfl rfl zbw yz) (zad (za rfl ((show wiE l m k q=1 by unfold wiE;rw[if_pos yy];unfold prE;rw[if_neg ya,if_pos ya]).symm)))
 refine qbx ?_;refine qaj ?_;refine Sp (d:=26) (p:=20<m) (fun g26=>?_) (fun g26=>?_)
 ·
  refine qa5 ?_;refine qar ?_;refine qas ?_;refine Ct ?_;refine qbe ?_;refine zcu rfl ?_;refine A0 yt ?_;refine qaC ?_;refine Ct ?_;refine CQR ?_;refine xC ?_;refine qby ?_;exact zp rfl rfl (zx rfl rfl zbw yz) (zad (za rfl ((show wiE l m k q=1 by unfold wiE;rw[if_pos yy];unfold prE;rw[if_neg ya,if_pos ya]).symm)))
 refine A1 mV ?_;refine A1 zbu ?_;refine qaj ?_;refine Sp (d:=30) (p:=k<1) (fun g30=>?_) (fun g30=>?_)
 ·
  refine A2 ?_;refine qar ?_;refine qas ?_;refine Ct ?_;refine qbe ?_;refine zcu rfl ?_;refine A0 yt ?_;refine qaC ?_;refine Ct ?_;refine CQR ?_;refine xC ?_;refine qby ?_;exact zp rfl rfl (zx rfl rfl zbw yz) (zad (za rfl ((show wiE l m k q=1 by unfold wiE;rw[if_pos yy];unfold prE;rw[if_neg ya,if_pos ya]).symm)))
 refine qbx ?_;refine qaj ?_;refine Sp (d:=34) (p:=20<k) (fun g34=>?_) (fun g34=>?_)
 ·
  refine qbA ?_;refine qas ?_;refine Ct ?_;refine qbe ?_;refine zcu rfl ?_;refine A0 yt ?_;refine qaC ?_;refine Ct ?_;refine CQR ?_;refine xC ?_;refine qby ?_;exact zp rfl rfl (zx rfl rfl zbw yz) (zad (za rfl ((show wiE l m k q=1 by unfold wiE;rw[if_pos yy];unfold prE;rw[if_neg ya,if_pos ya]).symm)))
 refine A1 mV ?_;refine A1 (zO rfl rfl zeB) ?_;refine A1 mV ?_;refine A1 zh2 ?_;refine qas ?_;refine Cf (p:=l.length≤k) (fun ht39=>?_) (fun ht39=>?_)
 ·
  refine qbe ?_;refine zcu rfl ?_;refine A0 yt ?_;refine qaC ?_;refine Ct ?_;refine CQR ?_;refine xC ?_;refine qby ?_;exact zp rfl rfl (zx rfl rfl zbw yz) (zad (za rfl ((show wiE l m k q=1 by unfold wiE;rw[if_pos yy];unfold prE;rw[if_neg ya,if_pos ya]).symm)))
 have hpl:=zhd (zk l) m k;refine CSQR ?_;refine qaq ?_;refine qaq ?_;refine A0 (oCl (zB (zsm l ya)) rfl fn_69 yd) ?_;refine A0 (zu rfl zrm bd_97 (.cons zt0 (Lens.fst _ _) ty_22 rfl (.cons znU ((Lens.snd _ _).comp (Lens.fst _ _)) ty_3 rfl (.cons znT ((Lens.snd _ _).comp ((Lens.snd _ _).comp (Lens.fst _ _))) ty_3 rfl (.cons zld ((Lens.snd _ _).comp ((Lens.snd _ _).comp ((Lens.snd _ _).comp (Lens.fst _ _)))) zeX rfl .nil)))) rfl) ?_;refine xc ?_;refine A0 aP ?_;refine CN ?_;refine zeH 2 (x:=(l,m,k,zk l,())) zlA rfl ?_;refine zds 2 3 i64T [.val (bsl zH) l,.val i64T m,.val i64T k,.val (sl i64T) (zk l)] rfl yaX ?_;refine CQR ?_;refine A0 mP ?_;refine qbE ?_;refine A0 (oFp zld) ?_;refine xd ?_;refine qaq ?_;refine zkB (zsb (zk l) m k) rfl fn_70 yJ zkk rfl rfl rfl ?_;refine A0 yt ?_;refine qaa ?_;refine qb0 ?_;refine CNQQR ?_;refine qaq ?_;refine CNB ?_;refine zz (n:=4) (y:=(zai (zk l) m k).1++(List.range 0).map fun j:Nat=>(l.length:Int)-k+(j:Int)) rfl yB ?_;refine Lp (ι:=Nat) 5 (fun i=>((((Fr.none.set 0 (.val (bsl zH) l)).set 2 (.val i64T k)).set 10 (.ptr 2 0)).set 60 (.val i64T k)).set 61 (.val i64T (i:Int))) (fun i=>((Hp.none.set 0 (.box 46 za1 zdN)).set 2 (.parts 97 ([.val (bsl zH) l,.val i64T m,.val i64T k,.val (sl i64T) (zk l)]++[.own 4]))).set 4 (.row 3 i64T ((zai (zk l) m k).1++(List.range i).map fun j:Nat=>(l.length:Int)-k+(j:Int)))) (fun i=>(i:Int)≤k) (fun i=>k.toNat-i) (0) yA ?_;intro i hi;refine qal ?_;refine Cf (p:=(i:Int)<k) (fun ht62=>?_) (fun ht62=>?_)
 ·
  refine qaL ?_;refine A0 aV ?_;refine CNR ?_;refine A0 mP ?_;refine qaO ?_;refine qaw ?_;refine xB ?_;refine qbI ?_;refine qaW ?_;refine qaJ ?_;refine qb0 ?_;refine qaV ?_;refine zaS 5 4 6 rfl rfl rfl rfl rfl rfl ?_;refine zz (n:=4) (y:=(zai (zk l) m k).1++(List.range (i+1)).map fun j:Nat=>(l.length:Int)-k+(j:Int)) rfl (by rw[List.range_succ,List.map_append];simp) ?_;exact Nx (i+1) ya ya
 refine CE ?_;refine CQ ?_;obtain⟨PL,hPL⟩:∃PL,PL=zy l m k:=⟨_,rfl⟩;refine zz (n:=4) (y:=PL) rfl (by rw[hPL];unfold zy;rw[show k.toNat=i by omega]) ?_;have hpm:∀x∈PL,0≤x∧x<l.length:=fun x hx=>zcl ya (hPL▸hx)
 have hpn:PL.length≤220:=hPL▸zjX ya;refine CR ?_;refine A0 mP ?_;refine A0 aP ?_;refine qad ?_;refine zcu rfl ?_;refine A0 yt ?_;refine qaa ?_;refine A0 aP ?_;refine A0 aX ?_;refine CNQQR ?_;refine qav ?_;refine Cg ?_;refine CS ?_;refine CQ ?_;refine CQ ?_;have hpe:prE l m k=0:=by unfold prE;rw[if_neg ya,if_neg ya]
 have hbo:=zht hpe;refine CR ?_;refine qaw ?_;refine A0 zbu ?_;refine Sp (d:=30) (p:=q<0) (fun g30=>?_) (fun g30=>?_)
 ·
  refine qaw ?_;refine qac ?_;refine qac ?_;refine qas ?_;refine Ct ?_;refine CQR ?_;refine xC ?_;refine qao ?_;refine qad ?_;exact zp rfl rfl (zx rfl rfl zbw ya7) (zad (za rfl ((show wiE l m k q=1 by unfold wiE;rw[if_neg (fun h=>h hpe),if_pos ya]).symm)))
 refine qaw ?_;refine A1 mV ?_;refine A1 mV ?_;refine A1 (zO rfl rfl zeB) ?_;refine A1 mV ?_;refine A1 zbh ?_;refine A1 zfR ?_;refine qas ?_;refine Cf (p:=(l.length:Int)-k≤q) (fun ht38=>?_) (fun ht38=>?_)
 ·
  refine CQR ?_;refine xC ?_;refine qao ?_;refine qad ?_;exact zp rfl rfl (zx rfl rfl zbw ya7) (zad (za rfl ((show wiE l m k q=1 by unfold wiE;rw[if_neg (fun h=>h hpe),if_pos ya]).symm)))
 refine CS ?_;refine CQ ?_;refine ziM 2 4 [.val (bsl zH) l,.val i64T m,.val i64T k,.val (sl i64T) (zk l)] (z:=(l,m,k,zk l,PL)) (R:=ztE) rfl rfl rfl ztR ?_;refine zeH 2 (x:=(l,m,k,zk l,PL)) zp8 rfl ?_;refine CR ?_;refine qaO ?_;refine qaw ?_;refine A0 (oCl (bsPl_ok PL q ya) rfl fn_35 yi) ?_;refine qaQ ?_;refine A0 aV ?_;refine qam ?_;refine qbj ?_;refine zo (p:=¬isIn PL q=true) rfl yB (fun ht50=>?_) (fun ht50=>?_)
 ·
  refine CQ ?_;have hyl2:placeIn (zy l m k) q<(zy l m k).length:=Nat.lt_of_not_le fun c=>by obtain⟨_,_,_,_,h,_⟩:=zg3 hbo ya ya (hPL▸ht50);rw[List.getElem?_eq_none c] at h;cases h
  rw[←hPL] at hyl2;obtain⟨x,y,hi1,hx,hy,hx0,hxq,hqy,hyl⟩:=zg3 hbo ya ya (hPL▸ht50);rw[←hPL] at hi1 hx hy;refine CD mixed ?_;refine qbG ?_;refine G0 (oFp zld) ?_;refine G0 (z6 rfl rfl rfl rfl rfl zeX) ?_;refine qbG ?_;refine G0 (oFp zlc) ?_;refine G0 (z6 rfl rfl rfl rfl rfl zeX) ?_;refine G0 mV ?_;refine G0 (zR (i:=placeIn PL q) rfl rfl rfl ya zcv yj) ?_;refine G0 (ze rfl rfl ty_3) ?_;refine G0 mV ?_;refine G0 (oCl (zcO (zsD (zk l) y q)) rfl fn_36 ⟨yl,yb,yl,trivial⟩) ?_;refine qbq ?_;refine qbc ?_;refine qbG ?_;refine G0 (oFp zld) ?_;refine G0 (z6 rfl rfl rfl rfl rfl zeX) ?_;refine G0 mV ?_;refine qbG ?_;refine G0 (oFp zlc) ?_;refine G0 (z6 rfl rfl rfl rfl rfl zeX) ?_;refine G0 mV ?_;refine G0 (zsy rfl rfl rfl (show _=(((placeIn PL q-1:Nat):Int):Int) from(zaz ya).trans ya)) ?_;refine G0 (zR (i:=placeIn PL q-1) rfl rfl rfl ya zcv yj) ?_;refine G0 (ze rfl rfl ty_3) ?_;refine G0 (oCl (zcO (zsD (zk l) q x)) rfl fn_36 ⟨yl,yl,yb,trivial⟩) ?_;refine qbq ?_;refine zC [some 1,some 1,some 1,some 1,some 1,some 1,some 1,some 1,some 1,some 1,some 1,none] mixed yc ?_;refine X0 mP ?_;refine X0 mP ?_;refine xe ?_;refine X0 (oFp zlc) ?_;refine X0 (z6 rfl rfl rfl rfl rfl zeX) ?_;refine qb9 ?_;refine X0 (oCl (zB (both_ok (zay (zk l) y q) (zay (zk l) q x) (by have h1:=zfg (zk l) y q;have h2:=zfg (zk l) q x;omega))) rfl fn_37 yi) ?_;refine X0 (oCl (zB (both_ok PL (ziV (zay (zk l) y q) (zay (zk l) q x)) (by have h1:=zfg (zk l) y q;have h2:=zfg (zk l) q x;have h3:=zmU (zay (zk l) y q) (zay (zk l) q x);omega))) rfl fn_37 yi) ?_;refine xe ?_;refine X0 (oFp zlc) ?_;refine XK.e (x:=.idk) (fun fr' hfr kk H=>by exact zaB rfl rfl rfl ((hfr 94 yc).trans rfl) rfl rfl ((hfr 92 yc).trans rfl) rfl rfl rfl zeX (zr H)) ?_;refine XK.nil' ?_;refine CQ ?_;obtain⟨WL,hWL⟩:∃WL,WL=zc7 l m k q:=⟨_,rfl⟩;have hwe:wiE l m k q=0:=ybU;have hwm:∀x∈WL,0≤x∧x<l.length:=fun x hx=>zmj hbo ya ya (hWL▸hx)
  have hwn:WL.length≤622:=ybV
  first|refine ziK 2 [.val (bsl zH) l,.val i64T m,.val i64T k,.val (sl i64T) (zk l),.val (sl i64T) WL] rfl yaZ ?_|refine ziK 2 [.val (bsl zH) l,.val i64T m,.val i64T k,.val (sl i64T) (zk l),.val (sl i64T) WL] rfl (by congr 5;rw[hWL];unfold zc7 wayL;rw[←hPL,if_pos (ua ht50)]) ?_
  refine CR ?_;refine A0 mP ?_;refine zaa rfl rfl rfl rfl Tryz.func22 fn_22 rfl rfl (fun ia3 iok3=>?_);refine CQR ?_;refine qb8 ?_;refine CNQ ?_;refine xD ?_;refine XK.ga (fun _=>g_mp (.inl rfl) rfl) rfl rfl rfl ?_;refine XK.ga (fun _=>g_nc rfl rfl) rfl rfl rfl ?_;refine XK.ga (fun _=>zf3 rfl rfl znU rfl) rfl rfl rfl ?_;refine XK.gf (t:=8) rfl rfl (fun _ he=>z6 rfl rfl he rfl rfl ty_3) ⟨rfl,trivial⟩ rfl rfl rfl ?_;refine XK.ga (fun _=>g_mp (.inl rfl) rfl) rfl rfl rfl ?_;refine XK.ga (fun _=>g_nc rfl rfl) rfl rfl rfl ?_;refine XK.ga (fun _=>zf3 rfl rfl znT rfl) rfl rfl rfl ?_;refine XK.gf (t:=12) rfl rfl (fun _ he=>z6 rfl rfl he rfl rfl ty_3) ⟨rfl,trivial⟩ rfl rfl rfl ?_;refine XK.ga (fun _=>zu rfl ziv ze7 (.cons zfD (Lens.fst _ _) ty_3 rfl (.cons zek ((Lens.snd _ _).comp (Lens.fst _ _)) ty_3 rfl .nil)) rfl) rfl rfl rfl ?_;refine XK.e (fun fr' hfr kk H=>by exact zq ziv rfl rfl rfl rfl (zr H)) ?_;refine XK.e (x:=.idk) (fun fr' hfr kk H=>by exact zg rfl rfl rfl ((hfr 3 yc).trans rfl) rfl (Lens.self _) zbw ((hfr 14 yc).trans rfl) (zr H)) ?_;refine XK.nilp ⟨yx,yx,trivial⟩ ?_;refine zeH 6 (x:=(m,k,())) zg6 rfl ?_;refine zds 6 66 zcC [.val i64T m,.val i64T k] rfl yQ ?_;refine CQQR ?_;refine qaO ?_;refine qcp ?_;refine qa0 ?_;refine Lp (ι:=Nat) 8 (fun i=>(((((Fr.none.set 0 (.ptr 2 0)).set 2 (.ptr 5 0)).set 3 (.ptr 6 0)).set 18 (.val (sl i64T) WL)).set 19 (.val i64T (WL.length:Int))).set 20 (.val i64T (i:Int))) (fun i=>((((Hp.none.set 0 (.box 46 za1 zdN)).set 2 (.parts 97 ([.val (bsl zH) l,.val i64T m,.val i64T k,.val (sl i64T) (zk l)]++[.val (sl i64T) WL]))).set 5 (.box 46 za1 zdN)).set 6 (.parts 46 [.val i64T m,.val i64T k,.own 7])).set 7 (.row 66 zcC ((WL.take i).map (zaQ l)))) (fun i=>i≤WL.length) (fun i=>WL.length-i) (0) (uf _) ?_;intro i hi2;refine qal ?_;refine Cf (p:=i<WL.length) (fun ht21=>?_) (fun ht21=>?_)
  ·
   obtain⟨x,hx⟩:∃x,WL[i]?=some x:=⟨_,ub ht21⟩;have hxb:=hwm x (ud hx);obtain⟨b,hb⟩:∃b,l[x.toNat]?=some b:=yo;refine CSQBQR ?_;refine A0 (zR (i:=i) rfl rfl rfl ya zcv yj) ?_;refine xh ?_;refine qaB ?_;refine xE ?_;refine X0 (oFp za4) ?_;refine X0 (z6 rfl rfl rfl rfl rfl zef) ?_;refine qaP ?_;refine X0 mX ?_;refine xF ?_;refine X0 (oFr zaU zal) ?_;refine X0 (ze rfl rfl zaF) ?_;refine qaP ?_;refine X0 mX ?_;refine xF ?_;refine X0 (oFr zdW zb2) ?_;refine X0 (ze rfl rfl zcy) ?_;refine X0 (oCl (zB (zlh b.l ybi)) rfl fn_71 ybz) ?_;refine xG ?_;refine qci ?_;refine XK.e (fun fr' hfr kk H=>by exact zN rfl rfl rfl rfl ((hfr 25 yc).trans rfl) rfl ((hfr 44 yc).trans rfl) zr1 yA (zr H)) ?_;refine X0 (oFp za4) ?_;refine XK.e (x:=.idk) (fun fr' hfr kk H=>by exact zaB rfl rfl rfl ((hfr 46 yc).trans rfl) rfl rfl ((hfr 45 yc).trans rfl) rfl rfl rfl zef (zr H)) ?_;refine qaI ?_;refine zaS 8 7 9 rfl rfl rfl rfl rfl rfl ?_;refine zz (n:=7) (y:=(WL.take (i+1)).map (zaQ l)) rfl ybn ?_;exact Nx (i+1) ya ya
  refine CE ?_;refine CQ ?_;refine zz (n:=7) (y:=WL.map (zaQ l)) rfl yN ?_;refine ziM 6 7 [.val i64T m,.val i64T k] (z:=(⟨m,k,WL.map (zaQ l)⟩:Proof)) (R:=za1) rfl rfl rfl ziC ?_;refine qbO ?_;exact zp rfl rfl (zx rfl rfl zbw (by unfold wiOf;rw[if_pos hwe,hWL])) (zad (za rfl (hwe.symm)))
 refine CS ?_;refine CQ ?_;obtain⟨WL,hWL⟩:∃WL,WL=zc7 l m k q:=⟨_,rfl⟩;have hwe:wiE l m k q=0:=ybU;have hwm:∀x∈WL,0≤x∧x<l.length:=fun x hx=>zmj hbo ya ya (hWL▸hx)
 have hwn:WL.length≤622:=ybV
 first|refine ziK 2 [.val (bsl zH) l,.val i64T m,.val i64T k,.val (sl i64T) (zk l),.val (sl i64T) WL] rfl yaZ ?_|refine ziK 2 [.val (bsl zH) l,.val i64T m,.val i64T k,.val (sl i64T) (zk l),.val (sl i64T) WL] rfl (by congr 5;rw[hWL];unfold zc7 wayL;rw[←hPL,if_pos (ua ht50)]) ?_
 refine CR ?_;refine A0 mP ?_;refine zaa rfl rfl rfl rfl Tryz.func22 fn_22 rfl rfl (fun ia5 iok5=>?_);refine CQR ?_;refine qb8 ?_;refine CNQ ?_;refine xD ?_;refine XK.ga (fun _=>g_mp (.inl rfl) rfl) rfl rfl rfl ?_;refine XK.ga (fun _=>g_nc rfl rfl) rfl rfl rfl ?_;refine XK.ga (fun _=>zf3 rfl rfl znU rfl) rfl rfl rfl ?_;refine XK.gf (t:=8) rfl rfl (fun _ he=>z6 rfl rfl he rfl rfl ty_3) ⟨rfl,trivial⟩ rfl rfl rfl ?_;refine XK.ga (fun _=>g_mp (.inl rfl) rfl) rfl rfl rfl ?_;refine XK.ga (fun _=>g_nc rfl rfl) rfl rfl rfl ?_;refine XK.ga (fun _=>zf3 rfl rfl znT rfl) rfl rfl rfl ?_;refine XK.gf (t:=12) rfl rfl (fun _ he=>z6 rfl rfl he rfl rfl ty_3) ⟨rfl,trivial⟩ rfl rfl rfl ?_;refine XK.ga (fun _=>zu rfl ziv ze7 (.cons zfD (Lens.fst _ _) ty_3 rfl (.cons zek ((Lens.snd _ _).comp (Lens.fst _ _)) ty_3 rfl .nil)) rfl) rfl rfl rfl ?_;refine XK.e (fun fr' hfr kk H=>by exact zq ziv rfl rfl rfl rfl (zr H)) ?_;refine XK.e (x:=.idk) (fun fr' hfr kk H=>by exact zg rfl rfl rfl ((hfr 3 yc).trans rfl) rfl (Lens.self _) zbw ((hfr 14 yc).trans rfl) (zr H)) ?_;refine XK.nilp ⟨yx,yx,trivial⟩ ?_;refine zeH 6 (x:=(m,k,())) zg6 rfl ?_;refine zds 6 66 zcC [.val i64T m,.val i64T k] rfl yQ ?_;refine CQQR ?_;refine qaO ?_;refine qcp ?_;refine qa0 ?_;refine Lp (ι:=Nat) 8 (fun i=>(((((Fr.none.set 0 (.ptr 2 0)).set 2 (.ptr 5 0)).set 3 (.ptr 6 0)).set 18 (.val (sl i64T) WL)).set 19 (.val i64T (WL.length:Int))).set 20 (.val i64T (i:Int))) (fun i=>((((Hp.none.set 0 (.box 46 za1 zdN)).set 2 (.parts 97 ([.val (bsl zH) l,.val i64T m,.val i64T k,.val (sl i64T) (zk l)]++[.val (sl i64T) WL]))).set 5 (.box 46 za1 zdN)).set 6 (.parts 46 [.val i64T m,.val i64T k,.own 7])).set 7 (.row 66 zcC ((WL.take i).map (zaQ l)))) (fun i=>i≤WL.length) (fun i=>WL.length-i) (0) (uf _) ?_;intro i hi2;refine qal ?_;refine Cf (p:=i<WL.length) (fun ht21=>?_) (fun ht21=>?_)
 ·
  obtain⟨x,hx⟩:∃x,WL[i]?=some x:=⟨_,ub ht21⟩;have hxb:=hwm x (ud hx);obtain⟨b,hb⟩:∃b,l[x.toNat]?=some b:=yo;refine CSQBQR ?_;refine A0 (zR (i:=i) rfl rfl rfl ya zcv yj) ?_;refine xh ?_;refine qaB ?_;refine xE ?_;refine X0 (oFp za4) ?_;refine X0 (z6 rfl rfl rfl rfl rfl zef) ?_;refine qaP ?_;refine X0 mX ?_;refine xF ?_;refine X0 (oFr zaU zal) ?_;refine X0 (ze rfl rfl zaF) ?_;refine qaP ?_;refine X0 mX ?_;refine xF ?_;refine X0 (oFr zdW zb2) ?_;refine X0 (ze rfl rfl zcy) ?_;refine X0 (oCl (zB (zlh b.l ybi)) rfl fn_71 ybz) ?_;refine xG ?_;refine qci ?_;refine XK.e (fun fr' hfr kk H=>by exact zN rfl rfl rfl rfl ((hfr 25 yc).trans rfl) rfl ((hfr 44 yc).trans rfl) zr1 yA (zr H)) ?_;refine X0 (oFp za4) ?_;refine XK.e (x:=.idk) (fun fr' hfr kk H=>by exact zaB rfl rfl rfl ((hfr 46 yc).trans rfl) rfl rfl ((hfr 45 yc).trans rfl) rfl rfl rfl zef (zr H)) ?_;refine qaI ?_;refine zaS 8 7 9 rfl rfl rfl rfl rfl rfl ?_;refine zz (n:=7) (y:=(WL.take (i+1)).map (zaQ l)) rfl ybn ?_;exact Nx (i+1) ya ya
 refine CE ?_;refine CQ ?_;refine zz (n:=7) (y:=WL.map (zaQ l)) rfl yN ?_;refine ziM 6 7 [.val i64T m,.val i64T k] (z:=(⟨m,k,WL.map (zaQ l)⟩:Proof)) (R:=za1) rfl rfl rfl ziC ?_;refine qbO ?_;exact zp rfl rfl (zx rfl rfl zbw (by unfold wiOf;rw[if_pos hwe,hWL])) (zad (za rfl (hwe.symm)))
set_option maxRecDepth 20000
theorem equalFPart (l m:List Part):Tells P 30 [.val (bsl zcC) l,.val (bsl zcC) m,.fn2 P zcC zcC zn (fun x y=>decide (x=y))] (.val zn (decide (l=m))):=by
 refine zc Tryz.func30 rfl rfl rfl (fun ext w hext=>?_);refine zf (d:=0) rfl zl (fun hsl0=>?_);refine zf (d:=1) rfl zl (fun hsl1=>?_);refine CQR ?_;refine qam ?_;refine A0 (zO rfl rfl zdA) ?_;refine qaw ?_;refine A0 (zO rfl rfl zdA) ?_;refine qbz ?_;refine Cf (p:=¬l.length=m.length) (fun ht14=>?_) (fun ht14=>?_)
 ·
  refine qau ?_;exact zb rfl rfl (za rfl (uh (fun e=>ht14 (by rw[e]))).symm)
 refine qb2 ?_;refine A0 (zO rfl rfl zdA) ?_;refine qa0 ?_;refine Lp (ι:=Nat) 0 (fun (k:Nat)=>((((((Fr.none).set 0 (.val (bsl zcC) l)).set 1 (.val (bsl zcC) m)).set 2 (.fn2 P zcC zcC zn (fun x y=>decide (x=y)))).set 15 (.val (bsl zcC) l)).set 16 (.val i64T (l.length:Int))).set 17 (.val i64T (k:Int))) (fun (k:Nat)=>Hp.none) (fun (k:Nat)=>k≤l.length∧l.take k=m.take k) (fun (k:Nat)=>l.length-k) (0) (⟨uf _,by simp⟩) ?_;intro k hinv;refine qal ?_;refine Cf (p:=k<l.length) (fun ht18=>?_) (fun ht18=>?_)
 ·
  obtain⟨x,hx⟩:∃x,l[k]?=some x:=⟨_,ub ht18⟩;obtain⟨y,hy⟩:∃y,m[k]?=some y:=yo;refine qaL ?_;refine A0 (zbM rfl rfl rfl zjN yj) ?_;refine A0 (ze rfl rfl zov) ?_;refine zq ze_66 rfl rfl rfl rfl ?_;refine A0 aV ?_;refine zg rfl rfl rfl rfl rfl (Lens.self _) zov rfl ?_;refine CNQR ?_;refine qaq ?_;refine A0 (zbM rfl rfl rfl zjN yj) ?_;refine qbn ?_;refine CNQR ?_;refine A0 mH ?_;refine A0 (oLs rfl rfl rfl zov) ?_;refine A0 (oLs rfl rfl rfl zov) ?_;refine A0 (zmw rfl rfl yl yl) ?_;refine qbj ?_;refine zo (p:=¬x=y) rfl yB (fun ht30=>?_) (fun ht30=>?_)
  ·
   refine qau ?_;exact zb rfl rfl (za rfl (uh (zj7 hx hy ht30)).symm)
  refine qaU ?_;exact Nx (k+1) (⟨by omega,zeG hx hy hinv.2 (by simpa using ht30)⟩) ya
 refine CE ?_;refine qau ?_;exact zb rfl rfl (za rfl (ui y6).symm)
theorem zlF (x y:Part):Tells P 28 [.val zcC x,.val zcC y] (.val zn (decide (x=y))):=by
 refine zc Tryz.func28 rfl rfl rfl (fun ext w hext=>?_);refine qax ?_;refine qa4 ?_;refine A0 (oFp zc4) ?_;refine A0 (oLb zcd zaF) ?_;refine A0 (oFp zc4) ?_;refine A0 (oLb zcd zaF) ?_;refine A0 (zlS rfl rfl rfl (zpz)) ?_;refine qaw ?_;refine zbj (d:=10) (p:=x.h=y.h) rfl yB (fun g10=>?_) (fun g10=>?_)
 ·
  refine A1 (oFp zdq) ?_;refine A1 (oLb zcS zcy) ?_;refine A1 (oFp zdq) ?_;refine A1 (oLb zcS zcy) ?_;refine A1 (oCl (zt1 x.l y.l) rfl fn_29 yi) ?_;refine qaD ?_;exact zb rfl rfl (za rfl ((by rw[uo];exact⟨fun h=>by cases x;cases y;simp_all,fun h=>by rw[h]⟩)))
 refine qbA ?_;refine A2 ?_;refine qaD ?_;exact zb rfl rfl (za rfl ((by symm;apply uh;intro h;exact g10 (by rw[h]))))
theorem zuT (a b:Proof):Tells P 10 [.val za1 a,.val za1 b] (.val zn (decide (a=b))):=by
 refine zc Tryz.func10 rfl rfl rfl (fun ext w hext=>?_);refine qax ?_;refine qa4 ?_;refine A0 aC ?_;refine CNQR ?_;refine A0 (oFp zfD) ?_;refine A0 (oLb zfM ty_3) ?_;refine A0 (oFp zfD) ?_;refine A0 (oLb zfM ty_3) ?_;refine A0 zcw ?_;refine qaw ?_;refine zbj (d:=11) (p:=a.m=b.m) rfl yO (fun g11=>?_) (fun g11=>?_)
 ·
  refine A1 (oFp zek) ?_;refine A1 (oLb zd5 ty_3) ?_;refine A1 (oFp zek) ?_;refine A1 (oLb zd5 ty_3) ?_;refine A1 zcw ?_;refine qaj ?_;refine zbj (d:=18) (p:=a.k=b.k) rfl yO (fun g18=>?_) (fun g18=>?_)
  ·
   refine A1 (oFp za4) ?_;refine A1 (oLb zaW zef) ?_;refine A1 (oFp za4) ?_;refine A1 (oLb zaW zef) ?_;refine A1 mC ?_;refine A1 (oCl (equalFPart a.p b.p) rfl fn_30 ⟨yl,yl,(by first|exact zdu (Cs:=[]) rfl fn_28 yC trivial rfl (fun x=>zlF x y)|exact zdt (Cs:=[]) rfl fn_28 yC trivial rfl (fun x y=>zlF x y)|exact zdv rfl),trivial⟩) ?_;refine qaD ?_;exact zb rfl rfl (za rfl (yax))
  refine qac ?_;refine qac ?_;refine qaD ?_;exact zb rfl rfl (za rfl ((by symm;apply uh;intro h;exact g18 (by rw[h]))))
 refine qbA ?_;refine A2 ?_;refine qaH ?_;refine qac ?_;refine qaD ?_;exact zb rfl rfl (za rfl ((by symm;apply uh;intro h;exact g11 (by rw[h]))))
def valU (l:List UInt8):UInt64:=l.foldl (fun n c=>zhD n 8|||zac (IntL.toI u8T c)) 0
def zgo (b:List UInt8) (p size:Int):Bool:=decide (0≤size∧size≤8∧0≤p∧p≤b.length∧size≤(b.length:Int)-p)
def getU (b:List UInt8) (p size:Int):UInt64:=if zgo b p size=true then valU ((b.drop p.toNat).take size.toNat) else 0
def cutE (b:List UInt8) (p:Int):Bool:=zgo b p 2&&decide (((getU b p 2).toNat:Int)≤(b.length:Int)-p-2)
def cutX (b:List UInt8) (p:Int):List UInt8:=if cutE b p=true then (b.drop (p.toNat+2)).take (getU b p 2).toNat else []
def zkq (b:List UInt8) (p:Int):Int:=if cutE b p=true then p+2+(getU b p 2).toNat else 0
def zio (x:List UInt8):List UInt8:=zw (zac (x.length:Int)) 2++x
def zd2 (x:List UInt8):Bool:=decide (x.length≤65535)
def zjd (l:List (List UInt8)):List UInt8:=zbH (l.length:Int)::(l.map zio).flatten
def zdy (l:List (List UInt8)):Bool:=decide (l.length≤255)&&l.all zd2
def cutN:List UInt8→Option (List UInt8×List UInt8)
  | a::c::r=>if 256*a.toNat+c.toNat≤r.length then some (r.take (256*a.toNat+c.toNat),r.drop (256*a.toNat+c.toNat)) else none
  | _=>none
def pieces:Nat→List UInt8→List (List UInt8)×List UInt8
  | 0,r=>([],r)
  | n+1,r=>match cutN r with
    | none=>([],r)
    | some (x,z)=>(x::(pieces n z).1,(pieces n z).2)
def zY (b:List UInt8):List (List UInt8)×Bool :=
  match b with
  | []=>([],false)
  | n::r=>if (pieces n.toNat r).1.length=n.toNat∧(pieces n.toNat r).2=[] then ((pieces n.toNat r).1,true) else ([],false)
theorem or_low {a c:Nat} (hc:c<256):a*256|||c=a*256+c:=by
  have:=Nat.two_pow_add_eq_or_of_lt (i:=8) (b:=c) hc a
  rw[show(2:Nat)^8=256 from rfl,Nat.mul_comm] at this;exact this.symm
theorem val_step (n:UInt64) (c:UInt8):(zhD n 8|||zac (IntL.toI u8T c)).toNat=(256*n.toNat+c.toNat)%18446744073709551616:=by
  have hc:c.toNat<256:=c.toNat_lt;have hn:n.toNat<18446744073709551616:=n.toNat_lt;have e1:(zac (IntL.toI u8T c)).toNat=c.toNat:=zgw (n:=(c.toNat:Int)) ya ya;have e2:(zhD n 8).toNat=n.toNat*256%18446744073709551616:=by
    unfold zhD;rw[UInt64.toNat_ofNat'];rfl
  rw[UInt64.toNat_or,e1,e2];have e3:n.toNat*256%18446744073709551616=(n.toNat%72057594037927936)*256:=ya;rw[e3,or_low hc];omega
def valN (l:List UInt8):Nat:=l.foldl (fun n c=>256*n+c.toNat) 0
theorem zhK (l:List UInt8) (c:UInt8):valN (l++[c])=256*valN l+c.toNat:=by unfold valN;rw[List.foldl_append];rfl
theorem zrA (l:List UInt8) (c:UInt8):valU (l++[c])=zhD (valU l) 8|||zac (IntL.toI u8T c):=by unfold valU;rw[List.foldl_append];rfl
theorem zqa {α:Type} {P:List α→Prop} (h0:P []) (h1:∀l x,P l→P (l++[x])) (l:List α):P l:=by
  have:∀n:Nat,∀l:List α,l.length=n→P l:=by
    intro n
    induction n with
    | zero=>intro l hl;rw[List.length_eq_zero_iff.1 hl];exact h0
    | succ n ih =>
      intro l hl;have hne:l≠[]:=by intro e;rw[e] at hl;cases hl
      rw[←List.dropLast_concat_getLast hne];exact h1 _ _ (ih _ (by rw[List.length_dropLast];omega))
  exact this _ l rfl
theorem zp5 (l:List UInt8):valN l<256^l.length:=by
  refine zqa (P:=fun l=>valN l<256^l.length) yn (fun l c ih=>?_) l;have hc:c.toNat<256:=c.toNat_lt;rw[zhK,ue,List.length_singleton,Nat.pow_succ];omega
theorem zlx:∀l:List UInt8,l.length≤8→(valU l).toNat=valN l:=by
  refine zqa (P:=fun l=>l.length≤8→(valU l).toNat=valN l) (fun _=>rfl) (fun l c ih hl=>?_);rw[ue,List.length_singleton] at hl;rw[zrA,zhK,val_step,ih ya];have h1:=zp5 (l++[c]);rw[zhK] at h1;have h2:256^(l++[c]).length≤256^8:=Nat.pow_le_pow_right yn yA;have h3:(256:Nat)^8=18446744073709551616:=rfl;exact Nat.mod_eq_of_lt ya
theorem zj5 (n:UInt64) (s:Nat) (hs:s<8):zw n (s+1)=zw (zaN n 8) s++[zbH (IntL.toI u64T n)]:=by
  unfold zw;rw[List.range_succ,List.map_append];congr 1
  · apply List.map_congr_left
    intro j hj;rw[List.mem_range] at hj;congr 2;apply UInt64.toNat_inj.1;rw[zfq _ ya,zfq _ ya,zfq _ ya,Nat.div_div_eq_div_mul,←Nat.pow_add];congr 2;omega
  show [zbH (IntL.toI u64T (zaN n (8*(s+1-1-s))))]=_;rw[show s+1-1-s=0 by omega,←shr_zero]
theorem zin:∀l:List UInt8,l.length≤8→zw (valU l) l.length=l:=by
  refine zqa (P:=fun l=>l.length≤8→zw (valU l) l.length=l) (fun _=>rfl) (fun l c ih hl=>?_);rw[ue,List.length_singleton] at hl ⊢;have hc:c.toNat<256:=c.toNat_lt;have hv:=zlx (l++[c]) yA;have hw:=zlx l ya;rw[zhK] at hv;rw[zj5 _ _ ya];have e1:zaN (valU (l++[c])) 8=valU l:=by
    apply UInt64.toNat_inj.1;rw[zfq _ yn,hv,hw];omega
  have e2:zbH (IntL.toI u64T (valU (l++[c])))=c:=by
    apply UInt8.toNat_inj.1;unfold zbH;show(UInt8.ofNat ((((valU (l++[c])).toNat:Nat):Int)%256).toNat).toNat=_;rw[UInt8.toNat_ofNat_of_lt' ybk,hv];omega
  rw[e1,e2,ih ya]
theorem zmS (n:UInt64):∀s:Nat,s≤8→valN (zw n s)=n.toNat%256^s
  | 0,_=>by show 0=_;simp[Nat.mod_one]
  | s+1,hs=>by
    have ih:=zmS (zaN n 8) s ya;rw[zj5 _ _ ya,zhK,ih,zfq _ yn];have e:(zbH (IntL.toI u64T n)).toNat=n.toNat%256:=by
      unfold zbH;show(UInt8.ofNat (((n.toNat:Nat):Int)%256).toNat).toNat=_;rw[UInt8.toNat_ofNat_of_lt' ybk];omega
    have e8:(2:Nat)^8=256:=rfl;have ep:256^(s+1)=256*256^s:=by rw[Nat.pow_succ,Nat.mul_comm]
    rw[e,e8,ep,Nat.mod_mul];omega
theorem two_bytes {n:Nat} (h:n≤65535):∃a c:UInt8,zw (zac (n:Int)) 2=[a,c]∧256*a.toNat+c.toNat=n:=by
  have hl:=zP (zac (n:Int)) 2;have hv:=zmS (zac (n:Int)) 2 yn;rw[zgw ya ya] at hv
  match hb:zw (zac (n:Int)) 2 with
  | [a,c] =>
    rw[hb] at hv;refine⟨a,c,rfl,?_⟩;have e:valN [a,c]=256*(256*0+a.toNat)+c.toNat:=rfl;rw[e] at hv
    have:(256:Nat)^2=65536:=rfl
    omega
  | []=>rw[hb] at hl;cases hl
  | [_]=>rw[hb] at hl;cases hl
  | _::_::_::_=>rw[hb] at hl;simp at hl
theorem bytes_two (a c:UInt8):zw (zac ((256*a.toNat+c.toNat:Nat):Int)) 2=[a,c]:=by
  have ha:a.toNat<256:=a.toNat_lt;have hc:c.toNat<256:=c.toNat_lt;have e:zac ((256*a.toNat+c.toNat:Nat):Int)=valU [a,c]:=by
    apply UInt64.toNat_inj.1;rw[zgw ya ya,zlx [a,c] yB];show _=256*(256*0+a.toNat)+c.toNat
    omega
  rw[e];exact zin [a,c] yB
theorem cut_blob {x r:List UInt8} (h:zd2 x=true):cutN (zio x++r)=some (x,r):=by
  have hx:=of_decide_eq_true h;obtain⟨a,c,e1,e2⟩:=two_bytes hx;unfold zio;rw[e1];have e3:[a,c]++x++r=a::c::(x++r):=rfl;rw[e3,cutN,e2,if_pos yB,List.take_left,List.drop_left]
theorem cut_back {b x z:List UInt8} (h:cutN b=some (x,z)):b=zio x++z∧zd2 x=true:=by
  match b,h with
  | a::c::r,h =>
    have ha:a.toNat<256:=a.toNat_lt;have hc:c.toNat<256:=c.toNat_lt;rw[cutN] at h;by_cases q:256*a.toNat+c.toNat≤r.length
    · rw[if_pos q] at h
      simp only[Option.some.injEq,Prod.mk.injEq] at h;obtain⟨rfl,rfl⟩:=h;have hl:(r.take (256*a.toNat+c.toNat)).length=256*a.toNat+c.toNat:=ybd;refine⟨?_,ui (by rw[hl];omega)⟩;unfold zio;rw[hl,bytes_two];show a::c::r=a::c::(r.take _++r.drop _);rw[List.take_append_drop]
    rw[if_neg q] at h;cases h
  | [],h=>cases h
  | [_],h=>cases h
theorem znl (r:List UInt8):∀l:List (List UInt8),l.all zd2=true→pieces l.length ((l.map zio).flatten++r)=(l,r)
  | [],_=>rfl
  | x::l,h=>by
    rw[List.all_cons,uk] at h;rw[List.map_cons,List.flatten_cons,List.append_assoc,List.length_cons,pieces,cut_blob h.1];simp only[];rw[znl r l h.2]
theorem znm:∀(n:Nat) (r:List UInt8),(pieces n r).1.length≤n∧r=((pieces n r).1.map zio).flatten++(pieces n r).2∧(pieces n r).1.all zd2=true
  | 0,r=>⟨ug _,rfl,rfl⟩
  | n+1,r=>by
    rw[pieces]
    match hc:cutN r with
    | none=>exact⟨uf _,rfl,rfl⟩
    | some (x,z) =>
      obtain⟨h1,h2⟩:=cut_back hc;obtain⟨i1,i2,i3⟩:=znm n z;refine⟨Nat.succ_le_succ i1,?_,?_⟩
      · show r=((x::(pieces n z).1).map zio).flatten++(pieces n z).2
        rw[List.map_cons,List.flatten_cons,List.append_assoc,←i2];exact h1
      show(x::(pieces n z).1).all zd2=true;rw[List.all_cons,h2,i3];rfl
theorem u8_len {n:Nat} (h:n≤255):(zbH (n:Int)).toNat=n:=by
  unfold zbH;rw[UInt8.toNat_ofNat_of_lt' ybk];omega
theorem zo1 {l:List (List UInt8)} (h:zdy l=true):zY (zjd l)=(l,true):=by
  unfold zdy at h;rw[uk,uj] at h;unfold zjd zY;have hp:=znl [] l h.2;rw[List.append_nil] at hp;simp only[];rw[u8_len h.1,hp,if_pos ⟨rfl,rfl⟩]
theorem zpb {b:List UInt8} (h:(zY b).2=true):zjd (zY b).1=b∧zdy (zY b).1=true:=by
  match b,h with
  | n::r,h =>
    have hn:n.toNat<256:=n.toNat_lt;unfold zY at h ⊢;simp only[] at h ⊢;by_cases q:(pieces n.toNat r).1.length=n.toNat∧(pieces n.toNat r).2=[]
    · rw[if_pos q]
      obtain⟨i1,i2,i3⟩:=znm n.toNat r;rw[q.2,List.append_nil] at i2;refine⟨?_,?_⟩
      · show zbH ((pieces n.toNat r).1.length:Int)::((pieces n.toNat r).1.map zio).flatten=n::r
        rw[←i2,q.1];congr 1;apply UInt8.toNat_inj.1;rw[u8_len ya]
      unfold zdy;rw[i3,ui (show(pieces n.toNat r).1.length≤255 by omega)];rfl
    rw[if_neg q] at h;cases h
  | [],h=>cases h
theorem zq5 (x:List UInt8):(zio x).length=2+x.length:=by unfold zio;rw[ue,zP]
theorem zmo:∀l:List (List UInt8),(zjd l).length=1+(l.map fun x=>2+x.length).sum
  | []=>rfl
  | x::l=>by
    have ih:=zmo l;unfold zjd at ih ⊢;rw[List.length_cons,List.map_cons,List.flatten_cons,ue,zq5,List.map_cons,List.sum_cons];rw[List.length_cons] at ih;omega
def zcV (b:List UInt8):Head:=⟨((valU (b.take 4)).toNat:Int),(b.drop 4).take 32,(b.drop 36).take 32,(b.drop 68).take 32,(b.drop 100).take 32,ziS ((b.drop 132).take 32),UInt32.ofNat (valU ((b.drop 164).take 4)).toNat,valU ((b.drop 168).take 8)⟩
def zcB (b:List UInt8):Bool:=decide (b.length=176)&&decide ((valU (b.take 4)).toNat≤1048576)
def zmb (b:List UInt8):Head:=if zcB b=true then zcV b else zhC
def zhS (p:Proof):Bool:=decide (1≤p.m∧p.m≤20∧1≤p.k∧p.k≤20∧p.p.length≤100)&&p.p.all fun x=>decide (x.l.length≤32)
def wOk (p:Proof):Bool:=zhS p&&p.p.all fun x=>hOk x.h
def zbU (x:Part):List UInt8:=zjd (zaR x.h::x.l)
def putL (p:Proof):List UInt8:=zbH p.m::zbH p.k::zjd (p.p.map zbU)
def zey (r:List UInt8):Bool:=(zY r).2&&match (zY r).1 with
  | []=>false
  | h::l=>zcB h&&l.all fun x=>decide (x.length=32)
def zcQ (r:List UInt8):Part:=match (zY r).1 with
  | []=>⟨zhC,[]⟩
  | h::l=>⟨zcV h,l⟩
def zjT (b:List UInt8):Proof:=⟨((b.getD 0 0).toNat:Int),((b.getD 1 0).toNat:Int),(zY (b.drop 2)).1.map zcQ⟩
def zea (b:List UInt8):Bool:=decide (2<b.length)&&(zY (b.drop 2)).2&&(zY (b.drop 2)).1.all zey&&zhS (zjT b)
theorem u8_nat {n:Int} (h0:0≤n) (h1:n≤255):(zbH n).toNat=n.toNat:=by
  obtain⟨m,rfl⟩:∃m:Nat,n=m:=⟨n.toNat,by omega⟩;rw[u8_len ya];rfl
theorem of32_four (x0 x1 x2 x3 x4 x5 x6 x7 x8 x9 x10 x11 x12 x13 x14 x15 x16 x17 x18 x19 x20 x21 x22 x23 x24 x25 x26 x27 x28 x29 x30 x31:UInt8):ziS [x0,x1,x2,x3,x4,x5,x6,x7,x8,x9,x10,x11,x12,x13,x14,x15,x16,x17,x18,x19,x20,x21,x22,x23,x24,x25,x26,x27,x28,x29,x30,x31]=[valU [x24,x25,x26,x27,x28,x29,x30,x31],valU [x16,x17,x18,x19,x20,x21,x22,x23],valU [x8,x9,x10,x11,x12,x13,x14,x15],valU [x0,x1,x2,x3,x4,x5,x6,x7]]:=yq
theorem list32 {b:List UInt8} (h:b.length=32):∃x0 x1 x2 x3 x4 x5 x6 x7 x8 x9 x10 x11 x12 x13 x14 x15 x16 x17 x18 x19 x20 x21 x22 x23 x24 x25 x26 x27 x28 x29 x30 x31,b=[x0,x1,x2,x3,x4,x5,x6,x7,x8,x9,x10,x11,x12,x13,x14,x15,x16,x17,x18,x19,x20,x21,x22,x23,x24,x25,x26,x27,x28,x29,x30,x31]:=by
  match b,h with
  | [x0,x1,x2,x3,x4,x5,x6,x7,x8,x9,x10,x11,x12,x13,x14,x15,x16,x17,x18,x19,x20,x21,x22,x23,x24,x25,x26,x27,x28,x29,x30,x31],_=>exact⟨x0,x1,x2,x3,x4,x5,x6,x7,x8,x9,x10,x11,x12,x13,x14,x15,x16,x17,x18,x19,x20,x21,x22,x23,x24,x25,x26,x27,x28,x29,x30,x31,rfl⟩
theorem bytes_of32 {b:List UInt8} (h:b.length=32):zfH (ziS b)=b:=by
  obtain⟨x0,x1,x2,x3,x4,x5,x6,x7,x8,x9,x10,x11,x12,x13,x14,x15,x16,x17,x18,x19,x20,x21,x22,x23,x24,x25,x26,x27,x28,x29,x30,x31,rfl⟩:=list32 h;rw[of32_four,zjx];have e1:=zin [x0,x1,x2,x3,x4,x5,x6,x7] (ug _);have e2:=zin [x8,x9,x10,x11,x12,x13,x14,x15] (ug _);have e3:=zin [x16,x17,x18,x19,x20,x21,x22,x23] (ug _);have e4:=zin [x24,x25,x26,x27,x28,x29,x30,x31] (ug _);have e1:zw (valU [x0,x1,x2,x3,x4,x5,x6,x7]) 8=[x0,x1,x2,x3,x4,x5,x6,x7]:=e1;have e2:zw (valU [x8,x9,x10,x11,x12,x13,x14,x15]) 8=[x8,x9,x10,x11,x12,x13,x14,x15]:=e2;have e3:zw (valU [x16,x17,x18,x19,x20,x21,x22,x23]) 8=[x16,x17,x18,x19,x20,x21,x22,x23]:=e3;have e4:zw (valU [x24,x25,x26,x27,x28,x29,x30,x31]) 8=[x24,x25,x26,x27,x28,x29,x30,x31]:=e4;rw[e1,e2,e3,e4];rfl
theorem of32_bytes {a:Wide} (ha:a.length=4):ziS (zfH a)=a:=by
  have hl:(zfH a).length=32:=zem a;exact bytesW_inj of32_len ha (bytes_of32 hl)
theorem zhg {h:Head} (hh:HW h) (ho:hOk h=true):(zaR h).length=176:=by
  obtain⟨h1,h2,h3,h4,h5⟩:=hh;unfold zaR;rw[if_pos ho];simp[zcp,h1,h2,h3,h4,zem,zP]
theorem head_parts {h:Head} (hh:HW h):(zcp h).take 4=zw (zac (IntL.toI i64T h.height)) 4∧((zcp h).drop 4).take 32=h.prev∧((zcp h).drop 36).take 32=h.links∧((zcp h).drop 68).take 32=h.txs∧((zcp h).drop 100).take 32=h.past∧
    ((zcp h).drop 132).take 32=zfH h.work∧((zcp h).drop 164).take 4=zw (zac (IntL.toI u32T h.bits)) 4∧((zcp h).drop 168).take 8=zw h.nonce 8:=by
  obtain⟨h1,h2,h3,h4,h5⟩:=hh;have l0:=zP (zac (IntL.toI i64T h.height)) 4;have l6:=zP (zac (IntL.toI u32T h.bits)) 4;have l7:=zP h.nonce 8;have l5:=zem h.work;unfold zcp;simp only[List.flatten_cons,List.flatten_nil,List.append_nil];generalize zw (zac (IntL.toI i64T h.height)) 4=A at *;generalize zw (zac (IntL.toI u32T h.bits)) 4=F at *;generalize zw h.nonce 8=G at *;generalize zfH h.work=E at *;have d1:(A++(h.prev++(h.links++(h.txs++(h.past++(E++(F++G))))))).drop 4=h.prev++(h.links++(h.txs++(h.past++(E++(F++G))))):=List.drop_left' l0;have d2:(A++(h.prev++(h.links++(h.txs++(h.past++(E++(F++G))))))).drop 36=h.links++(h.txs++(h.past++(E++(F++G)))):=by rw[show 36=4+32 from rfl,←List.drop_drop,d1];exact List.drop_left' h1
  have d3:(A++(h.prev++(h.links++(h.txs++(h.past++(E++(F++G))))))).drop 68=h.txs++(h.past++(E++(F++G))):=by rw[show 68=36+32 from rfl,←List.drop_drop,d2];exact List.drop_left' h2
  have d4:(A++(h.prev++(h.links++(h.txs++(h.past++(E++(F++G))))))).drop 100=h.past++(E++(F++G)):=by rw[show 100=68+32 from rfl,←List.drop_drop,d3];exact List.drop_left' h3
  have d5:(A++(h.prev++(h.links++(h.txs++(h.past++(E++(F++G))))))).drop 132=E++(F++G):=by rw[show 132=100+32 from rfl,←List.drop_drop,d4];exact List.drop_left' h4
  have d6:(A++(h.prev++(h.links++(h.txs++(h.past++(E++(F++G))))))).drop 164=F++G:=by rw[show 164=132+32 from rfl,←List.drop_drop,d5];exact List.drop_left' l5
  have d7:(A++(h.prev++(h.links++(h.txs++(h.past++(E++(F++G))))))).drop 168=G:=by rw[show 168=164+4 from rfl,←List.drop_drop,d6];exact List.drop_left' l6
  rw[d1,d2,d3,d4,d5,d6,d7];exact⟨List.take_left' l0,List.take_left' h1,List.take_left' h2,List.take_left' h3,List.take_left' h4,List.take_left' l5,List.take_left' l6,uc (Nat.le_of_eq l7)⟩
theorem zto (n:UInt64) {s:Nat} (hs:s≤8):(valU (zw n s)).toNat=n.toNat%256^s:=by rw[zlx _ (by rw[zP];exact hs),zmS n s hs]
theorem zrz (n:UInt64):valU (zw n 8)=n:=by
  apply UInt64.toNat_inj.1;have hn:n.toNat<18446744073709551616:=n.toNat_lt;rw[zto n (ug _),show(256:Nat)^8=18446744073709551616 from rfl,Nat.mod_eq_of_lt hn]
theorem read_put {h:Head} (hh:HW h) (ho:hOk h=true):zcB (zcp h)=true∧zcV (zcp h)=h:=by
  obtain⟨p1,p2,p3,p4,p5,p6,p7,p8⟩:=head_parts hh;have ho2:=hOk_iff.1 ho;have hlen:(zcp h).length=176:=by
    have:=zhg hh ho
    unfold zaR at this
    rwa [if_pos ho] at this
  have hv:(valU ((zcp h).take 4)).toNat=h.height.toNat:=by
    rw[p1,zto _ yn,show(256:Nat)^4=4294967296 from rfl];have e:(zac (IntL.toI i64T h.height)).toNat=h.height.toNat:=zgw (n:=h.height) ho2.1 ya;rw[e];omega
  refine⟨?_,?_⟩
  · unfold zcB
    rw[ui hlen,ui (by rw[hv];omega)];rfl
  unfold zcV;rw[hv,p2,p3,p4,p5,p6,p7,p8,of32_bytes hh.2.2.2.2,zrz,zto _ yn];have eb:(zac (IntL.toI u32T h.bits)).toNat=h.bits.toNat:=by
    have:h.bits.toNat<4294967296:=h.bits.toNat_lt
    exact zgw (n:=(h.bits.toNat:Int)) ya ya
  have eb2:UInt32.ofNat (h.bits.toNat%256^4)=h.bits:=by
    apply UInt32.toNat_inj.1
    have:h.bits.toNat<4294967296:=h.bits.toNat_lt
    rw[show(256:Nat)^4=4294967296 from rfl,Nat.mod_eq_of_lt this,UInt32.toNat_ofNat_of_lt' this]
  have eh:((h.height.toNat:Nat):Int)=h.height:=ya;rw[eb,eb2,eh]
theorem rd_ok {b:List UInt8} (hv:(valU (b.take 4)).toNat≤1048576):0≤(zcV b).height∧(zcV b).height≤1048576:=by
  have e:(zcV b).height=((valU (b.take 4)).toNat:Int):=by simp only[zcV]
  rw[e];omega
theorem row_ok {x:Part} (hh:HW x.h) (ho:hOk x.h=true) (hi:∀y∈x.l,y.length=32) (hl:x.l.length≤32):zdy (zaR x.h::x.l)=true:=by
  unfold zdy;rw[uk,uj,List.all_cons,uk,List.all_eq_true];refine⟨by simp;omega,ui (by rw[zhg hh ho];omega),fun y hy=>ui (by rw[hi y hy];omega)⟩
theorem sum_32:∀l:List (List UInt8),(∀y∈l,y.length=32)→(l.map fun x=>2+x.length).sum=34*l.length
  | [],_=>rfl
  | x::l,h=>by
    rw[List.map_cons,List.sum_cons,sum_32 l (fun y hy=>h y (List.mem_cons_of_mem _ hy)),h x (List.mem_cons_self ..),List.length_cons];omega
theorem zno {x:Part} (hh:HW x.h) (ho:hOk x.h=true) (hi:∀y∈x.l,y.length=32):(zbU x).length=179+34*x.l.length:=by
  unfold zbU;rw[zmo,List.map_cons,List.sum_cons,zhg hh ho,sum_32 _ hi];omega
def PW (p:Proof):Prop:=∀x∈p.p,HW x.h∧∀y∈x.l,y.length=32
theorem zbq {p:Proof} (h:zhS p=true):(1≤p.m∧p.m≤20∧1≤p.k∧p.k≤20∧p.p.length≤100)∧∀x∈p.p,x.l.length≤32:=by
  unfold zhS at h;rw[uk,uj,List.all_eq_true] at h;exact⟨h.1,fun x hx=>of_decide_eq_true (h.2 x hx)⟩
theorem ziw {p:Proof} (h:wOk p=true):zhS p=true∧∀x∈p.p,hOk x.h=true:=by
  unfold wOk at h;rw[uk,List.all_eq_true] at h;exact h
theorem zqn {p:Proof} (hw:PW p) (h:wOk p=true):zdy (p.p.map zbU)=true:=by
  obtain⟨h1,h2⟩:=ziw h;obtain⟨h3,h4⟩:=zbq h1;unfold zdy;rw[uk,uj,List.all_eq_true];refine⟨by simp;omega,fun r hr=>?_⟩;obtain⟨x,hx,rfl⟩:=List.mem_map.1 hr
  have:=h4 x hx
  exact ui (by rw[zno (hw x hx).1 (h2 x hx) (hw x hx).2];omega)
theorem zsf {x:Part} (hh:HW x.h) (ho:hOk x.h=true) (hi:∀y∈x.l,y.length=32) (hl:x.l.length≤32):zey (zbU x)=true∧zcQ (zbU x)=x:=by
  have hs:=zo1 (row_ok hh ho hi hl);have eb:zaR x.h=zcp x.h:=by unfold zaR;rw[if_pos ho]
  obtain⟨r1,r2⟩:=read_put hh ho;unfold zey zcQ zbU;rw[hs];simp only[];rw[eb,r1,r2];refine⟨?_,rfl⟩;rw[Bool.true_and,Bool.true_and,List.all_eq_true];exact fun y hy=>ui (hi y hy)
theorem put_get {p:Proof} (h0:0≤p.m∧p.m≤255∧0≤p.k∧p.k≤255):(((putL p).getD 0 0).toNat:Int)=p.m∧(((putL p).getD 1 0).toNat:Int)=p.k:=by
  have e0:(putL p).getD 0 0=zbH p.m:=rfl;have e1:(putL p).getD 1 0=zbH p.k:=rfl;rw[e0,e1,u8_nat h0.1 h0.2.1,u8_nat h0.2.2.1 h0.2.2.2];omega
theorem zph {p:Proof} (hw:PW p) (h:wOk p=true):zea (putL p)=true∧zjT (putL p)=p:=by
  obtain⟨h1,h2⟩:=ziw h;obtain⟨h3,h4⟩:=zbq h1;have hs:=zo1 (zqn hw h);have hd:(putL p).drop 2=zjd (p.p.map zbU):=rfl;have hm:(p.p.map zbU).map zcQ=p.p:=by
    rw[List.map_map]
    conv=>rhs;rw[←List.map_id p.p]
    exact List.map_congr_left fun x hx=>(zsf (hw x hx).1 (h2 x hx) (hw x hx).2 (h4 x hx)).2
  obtain⟨g1,g2⟩:=put_get (p:=p) ya;have hr:zjT (putL p)=p:=by
    unfold zjT;rw[hd,hs,g1,g2];show(⟨p.m,p.k,(p.p.map zbU).map zcQ⟩:Proof)=p;rw[hm]
  refine⟨?_,hr⟩;unfold zea;rw[hr,h1,hd,hs,ui (show 2<(putL p).length by unfold putL zjd;simp)];simp only[Bool.true_and,Bool.and_true];rw[List.all_eq_true];intro r hr;obtain⟨x,hx,rfl⟩:=List.mem_map.1 hr;exact(zsf (hw x hx).1 (h2 x hx) (hw x hx).2 (h4 x hx)).1
theorem ztD {p:Proof} (hw:PW p) (h:wOk p=true):(putL p).length=3+(p.p.map fun x=>181+34*x.l.length).sum:=by
  obtain⟨h1,h2⟩:=ziw h;unfold putL;rw[List.length_cons,List.length_cons,zmo,List.map_map]
  have:p.p.map ((fun x:List UInt8=>2+x.length) ∘ zbU)=p.p.map fun x=>181+34*x.l.length:=List.map_congr_left fun x hx=>by
    show 2+(zbU x).length=_;rw[zno (hw x hx).1 (h2 x hx) (hw x hx).2];omega
  rw[this];omega
theorem zdS {b:List UInt8} {p size:Int} (h:size<0∨8<size∨p<0∨(b.length:Int)<p∨(b.length:Int)-p<size):zgo b p size=false:=by
  unfold zgo;apply uh;omega
theorem getOk_yes {b:List UInt8} {p size:Int} (h1:¬size<0) (h2:¬8<size) (h3:¬p<0) (h4:¬(b.length:Int)<p) (h5:¬(b.length:Int)-p<size):zgo b p size=true:=by
  unfold zgo;apply ui;omega
theorem znF {b:List UInt8} {p size:Int} (h:zgo b p size=false):getU b p size=0:=by unfold getU;rw[h];rfl
theorem zmv {b:List UInt8} {p size:Int} (h:zgo b p size=true):getU b p size=valU ((b.drop p.toNat).take size.toNat):=by unfold getU;rw[if_pos h]
theorem get2_le {b:List UInt8} {p:Int} (h:zgo b p 2=true):(getU b p 2).toNat≤65535:=by
  rw[zmv h,show(2:Int).toNat=2 from rfl];have hl:((b.drop p.toNat).take 2).length≤2:=ybd;have h2:=zlx ((b.drop p.toNat).take 2) ya;have h3:=zp5 ((b.drop p.toNat).take 2);have h4:256^((b.drop p.toNat).take 2).length≤256^2:=Nat.pow_le_pow_right yn hl;have h5:(256:Nat)^2=65536:=rfl;omega
theorem zvS {b:List UInt8} {p:Int} (h:cutE b p=false):cutX b p=[]∧zkq b p=0:=by
  unfold cutX zkq;rw[h];exact⟨rfl,rfl⟩
theorem znZ {b:List UInt8} {p:Int} (h:cutE b p=true):cutX b p=(b.drop (p.toNat+2)).take (getU b p 2).toNat∧zkq b p=p+2+(getU b p 2).toNat:=by
  unfold cutX zkq;rw[h];exact⟨rfl,rfl⟩
def blobR (x:List UInt8):List UInt8:=if zd2 x=true then zio x else []
def ztz (l:List (List UInt8)):List UInt8:=if zdy l=true then zjd l else []
theorem rows_no {l:List (List UInt8)} (h:255<l.length):zdy l=false:=by unfold zdy;rw[uh ya];rfl
theorem zuV {l:List (List UInt8)} {k:Nat} {x:List UInt8} (hx:l[k]?=some x) (h:¬zd2 x=true):zdy l=false:=by
  unfold zdy;rw[Bool.and_eq_false_iff];right;rw[List.all_eq_false];exact⟨x,ud hx,h⟩
theorem zuW {l:List (List UInt8)} {k:Nat} (h:¬255<l.length) (hb:∀x∈l.take k,zd2 x=true) (hk:l.length≤k):zdy l=true:=by
  rw[uc hk] at hb;unfold zdy;rw[ui ya,Bool.true_and,List.all_eq_true];exact hb
def zoA (l:List (List UInt8)) (k:Nat):List UInt8:=zbH (IntL.toI i64T (l.length:Int))::((l.take k).map zio).flatten
theorem rowsN_step {l:List (List UInt8)} {k:Nat} {x:List UInt8} (h:l[k]?=some x):zoA l (k+1)=zoA l k++zio x:=by
  unfold zoA;rw[un,h];simp
theorem rowsN_all {l:List (List UInt8)} {k:Nat} (h:l.length≤k):zoA l k=zjd l:=by
  unfold zoA zjd;rw[uc h];rfl
theorem rowsN_len {l:List (List UInt8)} {k:Nat} (h:∀x∈l.take k,zd2 x=true):(zoA l k).length≤1+k*65537:=by
  unfold zoA;rw[List.length_cons]
  have:∀(m:List (List UInt8)),(∀x∈m,zd2 x=true)→(m.map zio).flatten.length≤m.length*65537:=by
    intro m
    induction m with
    | nil=>intro _;simp
    | cons x m ih =>
      intro hm;have h1:=ih (fun y hy=>hm y (List.mem_cons_of_mem _ hy));have h2:=of_decide_eq_true (hm x (List.mem_cons_self ..));rw[List.map_cons,List.flatten_cons,ue,zq5,List.length_cons];omega
  have h1:=this (l.take k) h;have h2:(l.take k).length≤k:=ybd;have h3:(l.take k).length*65537≤k*65537:=Nat.mul_le_mul_right _ h2;omega
theorem cloneU8 (l:List UInt8) (hl:l.length*1≤140737488355328∧l.length≤9223372036854775807):Tells P 238 [.val (bsl u8T) l] (.fresh 5 u8T l):=by
 refine zc Tryz.func238 rfl rfl rfl (fun ext w hext=>?_);refine zf (d:=0) rfl zl (fun hsl0=>?_);refine qap ?_;refine qaN ?_;refine zhv rfl rfl rfl rfl rfl zcW (fun c4 hc4=>?_);refine CN ?_;refine zo (p:=c4=true) rfl yB (fun ht4=>?_) (fun ht4=>?_)
 ·
  obtain rfl:=hc4 ht4;refine qap ?_;refine CN ?_;exact zb rfl rfl (zm rfl)
 refine CSQR ?_;refine zb0 (T:=u8T) (xs:=[]) rfl rfl rfl rfl zcP zcg trivial rfl rfl ?_;refine qaw ?_;refine zN rfl rfl rfl rfl rfl rfl rfl zcg yaL ?_;refine qbm ?_;exact zb rfl rfl (zh rfl rfl yB)
theorem zs2 (b:List UInt8) (p size:Int):Tells P 179 [.val (bsl u8T) b,.val i64T p,.val i64T size] (.tup2 (.val u64T (getU b p size)) (.val zn (zgo b p size))):=by
 refine zc Tryz.func179 rfl rfl rfl (fun ext w hext=>?_);refine zf (d:=0) rfl zl (fun hsl0=>?_);refine zf (d:=1) rfl zt (fun hin1=>?_);refine zf (d:=2) rfl zt (fun hin2=>?_);refine CQR ?_;refine A0 aV ?_;refine qam ?_;refine A0 zbu ?_;refine Sp (d:=12) (p:=size<0) (fun g12=>?_) (fun g12=>?_)
 ·
  refine qaw ?_;refine qa5 ?_;refine qar ?_;refine qaH ?_;refine qac ?_;refine qas ?_;refine Ct ?_;refine CQR ?_;refine qbu ?_;exact zU rfl rfl (za rfl ((znF (zdS (.inl g12))).symm)) (za rfl ((zdS (.inl g12)).symm))
 refine qaw ?_;refine qbx ?_;refine Sp (d:=15) (p:=8<size) (fun g15=>?_) (fun g15=>?_)
 ·
  refine qaj ?_;refine A2 ?_;refine qar ?_;refine qaH ?_;refine qac ?_;refine qas ?_;refine Ct ?_;refine CQR ?_;refine qbu ?_;exact zU rfl rfl (za rfl ((znF (zdS (.inr (.inl g15)))).symm)) (za rfl ((zdS (.inr (.inl g15))).symm))
 refine qbP ?_;refine A1 zbu ?_;refine Sp (d:=19) (p:=p<0) (fun g19=>?_) (fun g19=>?_)
 ·
  refine qaH ?_;refine A2 ?_;refine qaH ?_;refine qac ?_;refine qas ?_;refine Ct ?_;refine CQR ?_;refine qbu ?_;exact zU rfl rfl (za rfl ((znF (zdS (.inr (.inr (.inl g19))))).symm)) (za rfl ((zdS (.inr (.inr (.inl g19)))).symm))
 refine qbP ?_;refine A1 mV ?_;refine A1 (zO rfl rfl zcW) ?_;refine A1 zcq ?_;refine Sp (d:=25) (p:=(b.length:Int)<p) (fun g25=>?_) (fun g25=>?_)
 ·
  refine qaH ?_;refine qac ?_;refine qas ?_;refine Ct ?_;refine CQR ?_;refine qbu ?_;exact zU rfl rfl (za rfl ((znF (zdS (.inr (.inr (.inr (.inl g25)))))).symm)) (za rfl ((zdS (.inr (.inr (.inr (.inl g25))))).symm))
 refine qbP ?_;refine A1 mV ?_;refine A1 (zO rfl rfl zcW) ?_;refine A1 mV ?_;refine A1 zbh ?_;refine A1 zcq ?_;refine qas ?_;refine Cf (p:=(b.length:Int)-p<size) (fun ht34=>?_) (fun ht34=>?_)
 ·
  refine CQR ?_;refine qbu ?_;exact zU rfl rfl (za rfl ((znF (zdS (.inr (.inr (.inr (.inr ht34)))))).symm)) (za rfl ((zdS (.inr (.inr (.inr (.inr ht34))))).symm))
 have hok:=getOk_yes g12 g15 g19 g25 ht34;obtain⟨M,hM⟩:∃M,M=(b.drop p.toNat).take size.toNat:=⟨_,rfl⟩;have hml:M.length=size.toNat:=by rw[hM,um,List.length_drop];omega
 refine CSQR ?_;refine qam ?_;refine qaq ?_;refine qaW ?_;refine A0 (g_sl_lh rfl rfl rfl rfl zcP yh) ?_;refine zj (d:=40) (y:=M) rfl (by rw[hM,List.drop_take];congr 1;omega) ?_;refine xl ?_;refine qa0 ?_;refine Lp (ι:=Nat) 0 (fun (k:Nat)=>((((Fr.none).set 8 (.val u64T (valU (M.take k)))).set 40 (.val (bsl u8T) M)).set 41 (.val i64T (M.length:Int))).set 42 (.val i64T (k:Int))) (fun (k:Nat)=>Hp.none) (fun (k:Nat)=>k≤M.length) (fun (k:Nat)=>M.length-k) (0) (uf _) ?_;intro k hinv;refine qal ?_;refine Cf (p:=k<M.length) (fun ht43=>?_) (fun ht43=>?_)
 ·
  obtain⟨x,hx⟩:∃x,M[k]?=some x:=⟨_,ub ht43⟩;refine CSQBQR ?_;refine A0 (zR (i:=k) rfl rfl rfl ya zcP yj) ?_;refine A0 (ze rfl rfl ty_5) ?_;refine A0 aX ?_;refine CNR ?_;refine qaw ?_;refine A0 (zk5 rfl rfl rfl yg rfl) ?_;refine A0 mX ?_;refine A0 (zi2 rfl (zou) (us_5) rfl) ?_;refine A0 (zsz rfl rfl rfl) ?_;refine A0 aV ?_;refine qaV ?_;refine zj (d:=8) (y:=valU (M.take (k+1))) rfl (by rw[un,hx];show _=valU (M.take k++[x]);rw[zrA];rfl) ?_;exact Nx (k+1) ya ya
 refine CE ?_;refine qa6 ?_;refine qbu ?_;exact zU rfl rfl (za rfl (by rw[zmv hok,uc ya,hM])) (za rfl (hok.symm))
theorem binBlob_ok (x:List UInt8):Tells P 177 [.val (bsl u8T) x] (.tup2 (.fresh 5 u8T (blobR x)) (.val zn (zd2 x))):=by
 refine zc Tryz.func177 rfl rfl rfl (fun ext w hext=>?_);refine zf (d:=0) rfl zl (fun hsl0=>?_);refine qap ?_;refine qam ?_;refine xl ?_;refine qcs ?_;refine Cf (p:=65535<x.length) (fun ht6=>?_) (fun ht6=>?_)
 ·
  refine qbe ?_;exact zU rfl rfl (by rw[show blobR x=[] by unfold blobR zd2;rw[if_neg (by rw[uj];omega)]];exact zm rfl) (za rfl (by unfold zd2;symm;apply uh;omega))
 have hbo:zd2 x=true:=ui ya;have hn:=zP (zac (IntL.toI i64T (x.length:Int))) 2;refine CSQR ?_;refine qaw ?_;refine xl ?_;refine A0 (zi2 rfl (zou) (us_3) rfl) ?_;refine A0 (oCl (zB (zky _ 2 yn)) rfl zvJ yi) ?_;refine zlo (S:=bsl u8T) (d:=10) rfl ?_;refine qaw ?_;refine A0 (zL (T:=(bsl u8T)) (xs:=[_,_]) rfl zc8 zcz yal rfl rfl) ?_;refine zaT (zgO [zw (zac (IntL.toI i64T (x.length:Int))) 2,x] (by simp[hn];omega)) rfl fn_99 yd rfl rfl rfl ?_;refine qcc ?_;exact zU rfl rfl (zh rfl rfl (by unfold blobR;rw[if_pos hbo];unfold zio;simp[IntL.toI])) (za rfl (hbo.symm))
theorem binCut_ok (b:List UInt8) (p:Int) (hb:b.length≤1000000000):Tells P 214 [.val (bsl u8T) b,.val i64T p] (.tup3 (.fresh 5 u8T (cutX b p)) (.val i64T (zkq b p)) (.val zn (cutE b p))):=by
 have hu:=get2_le (b:=b) (p:=p);refine zc Tryz.func214 rfl rfl rfl (fun ext w hext=>?_);refine zf (d:=0) rfl zl (fun hsl0=>?_);refine zf (d:=1) rfl zt (fun hin1=>?_);refine qap ?_;refine A0 aV ?_;refine qag ?_;refine qaw ?_;refine A0 (oCl (zs2 b p 2) rfl fn_179 yJ) ?_;refine qaQ ?_;refine A0 aV ?_;refine qam ?_;refine A0 oN ?_;refine zbj (d:=18) (p:=zgo b p 2=false) rfl (by cases zgo b p 2<;>rfl) (fun g18=>?_) (fun g18=>?_)
 ·
  have hcn:cutE b p=false:=by unfold cutE;rw[g18];rfl
  refine qaw ?_;refine qac ?_;refine qbA ?_;refine A2 ?_;refine qas ?_;refine Ct ?_;refine qap ?_;refine qbu ?_;exact zeT rfl rfl (by rw[(zvS hcn).1];exact zm rfl) (za rfl (by rw[(zvS hcn).2])) (za rfl hcn.symm)
 have hg:zgo b p 2=true:=by simpa using g18
 have hu2:=hu hg;have hgs:0≤p∧p≤b.length∧2≤(b.length:Int)-p:=by have h:=hg;unfold zgo at h;rw[uj] at h;omega
 have hti:IntL.toI u64T (getU b p 2)=((getU b p 2).toNat:Int):=rfl;refine qaw ?_;refine A1 mV ?_;refine A1 (zmh rfl (ui_3) (zl5) rfl yaI) ?_;refine A1 mV ?_;refine A1 (zO rfl rfl zcW) ?_;refine A1 mV ?_;refine A1 zbh ?_;refine A1 zbh ?_;refine A1 zcq ?_;refine qas ?_;refine Cf (p:=(b.length:Int)-p-2<((getU b p 2).toNat:Int)) (fun ht28=>?_) (fun ht28=>?_)
 ·
  have hcn:cutE b p=false:=by unfold cutE;rw[hg,Bool.true_and,decide_eq_false_iff_not];omega
  refine qap ?_;refine qbu ?_;exact zeT rfl rfl (by rw[(zvS hcn).1];exact zm rfl) (za rfl (by rw[(zvS hcn).2])) (za rfl hcn.symm)
 have hce:cutE b p=true:=by unfold cutE;rw[hg,Bool.true_and,uj];omega
 refine CSQR ?_;refine qaW ?_;refine qaW ?_;refine qaw ?_;refine A0 (zmh rfl (ui_3) (zl5) rfl yaI) ?_;refine A0 zdo ?_;refine A0 aV ?_;refine qag ?_;refine qaq ?_;refine qaw ?_;refine A0 (zvv rfl rfl rfl rfl rfl zcP yh) ?_;refine zj (d:=40) (y:=cutX b p) rfl (by rw[(znZ hce).1,List.drop_take];congr 1<;>first|omega|(congr 1;omega)) ?_;have hcl:(cutX b p).length≤b.length:=by rw[(znZ hce).1,um,List.length_drop];omega
 refine zaT (cloneU8 (cutX b p) yac) rfl fn_238 yd rfl rfl rfl ?_;refine qaw ?_;refine A0 aO ?_;refine qbu ?_;exact zeT rfl rfl (zh rfl rfl yB) (za rfl (by rw[(znZ hce).2,hti])) (za rfl hce.symm)
theorem binRows_ok (l:List (List UInt8)):Tells P 125 [.val (bsl (bsl u8T)) l] (.tup2 (.fresh 5 u8T (ztz l)) (.val zn (zdy l))):=by
 refine zc Tryz.func125 rfl rfl rfl (fun ext w hext=>?_);refine zf (d:=0) rfl zl (fun hsl0=>?_);refine qap ?_;refine qam ?_;refine A0 (zO rfl rfl zhf) ?_;refine qcs ?_;refine Cf (p:=255<l.length) (fun ht11=>?_) (fun ht11=>?_)
 ·
  refine qbe ?_;exact zU rfl rfl (by rw[show ztz l=[] by unfold ztz;rw[if_neg (by rw[rows_no ht11];decide)]];exact zm rfl) (za rfl ((rows_no ht11).symm))
 refine CSQR ?_;refine qaw ?_;refine A0 (zO rfl rfl zhf) ?_;refine A0 (zhh rfl (ui_5) (us_3) rfl) ?_;refine zb0 (T:=u8T) (xs:=[_]) rfl rfl rfl rfl zcP zcg yx rfl rfl ?_;refine A0 aO ?_;refine qaN ?_;refine A0 (zO rfl rfl zhf) ?_;refine qa0 ?_;refine zz (n:=0) (y:=zoA l 0) rfl (by rfl) ?_;refine Lp (ι:=Nat) 1 (fun k=>((((Fr.none.set 0 (.val (bsl (bsl u8T)) l)).set 4 (.own 0)).set 16 (.val (bsl (bsl u8T)) l)).set 17 (.val i64T (l.length:Int))).set 18 (.val i64T (k:Int))) (fun k=>Hp.none.set 0 (.row 5 u8T (zoA l k))) (fun k=>k≤l.length∧∀x∈l.take k,zd2 x=true) (fun k=>l.length-k) (0) (⟨uf _,fun x hx=>by simp at hx⟩) ?_;intro k hinv;refine qal ?_;refine Cf (p:=k<l.length) (fun ht19=>?_) (fun ht19=>?_)
 ·
  obtain⟨x,hx⟩:∃x,l[k]?=some x:=⟨_,ub ht19⟩;have hnl:=rowsN_len hinv.2;refine CSQBQR ?_;refine A0 (zR (i:=k) rfl rfl rfl ya zc8 yj) ?_;refine A0 (ze rfl rfl zfl) ?_;refine qaR ?_;refine A0 mX ?_;refine A0 (oCl (zcO (binBlob_ok x)) rfl fn_177 ybz) ?_;refine qaQ ?_;refine A0 aV ?_;refine qam ?_;refine qbj ?_;refine zo (p:=¬zd2 x=true) rfl (by cases zd2 x<;>rfl) (fun ht28=>?_) (fun ht28=>?_)
  ·
   refine qbe ?_;exact zU rfl rfl (by rw[show ztz l=[] by unfold ztz;rw[if_neg (by rw[zuV hx ht28];decide)]];exact zm rfl) (za rfl ((zuV hx ht28).symm))
  have hbo:zd2 x=true:=ua ht28;have hbr:blobR x=zio x:=by unfold blobR;rw[if_pos hbo]
  have hbx:=of_decide_eq_true hbo;have hbl:=zq5 x;refine CS ?_;refine CR ?_;refine A0 mO ?_;refine qaw ?_;refine zN rfl rfl rfl rfl rfl rfl rfl zcg (by rw[hbr];simp;omega) ?_;refine A0 aO ?_;refine qaV ?_;refine xk ?_;refine zz (n:=0) (y:=zoA l (k+1)) rfl (by rw[hbr,rowsN_step hx]) ?_;exact Nx (k+1) (⟨by omega,fun y hy=>by rw[un,hx] at hy;rcases List.mem_append.1 hy with h|h;exact hinv.2 y h;simp at h;rw[h];exact hbo⟩) ya
 refine CE ?_;refine qb3 ?_;refine qcc ?_;exact zU rfl rfl (zh rfl rfl (by unfold ztz;rw[zuW ht11 hinv.2 ya,if_pos rfl];exact rowsN_all ya)) (za rfl ((zuW ht11 hinv.2 ya).symm))
theorem zmp {J:Job} {hp:Hp} {X:AV} {e:Nat} {α:Type} {T:GoT α} {l:List α} (h:X = .lit (.slice none 0 0)) (el:l=[]):zfa J hp X (.fresh e T l):=by subst el;exact zm h
theorem zn_rows:zax P 150 nilT ():=zfb zgZ yq
theorem drop_two {b:List UInt8} {p:Nat} (h:p+2≤b.length):∃a c r,b.drop p=a::c::r∧r=b.drop (p+2):=by
  obtain⟨a,ha⟩:∃a,b[p]?=some a:=yo;obtain⟨c,hc⟩:∃c,b[p+1]?=some c:=yo;refine⟨a,c,b.drop (p+2),?_,rfl⟩;have h1:b.drop p=a::b.drop (p+1):=by
    obtain⟨h1,e⟩:=ul.1 ha;rw[List.drop_eq_getElem_cons h1,e]
  have h2:b.drop (p+1)=c::b.drop (p+2):=by
    obtain⟨h1,e⟩:=ul.1 hc;rw[List.drop_eq_getElem_cons h1,e]
  rw[h1,h2]
theorem zvU {b:List UInt8} {p:Nat} (hp:p≤b.length):cutN (b.drop p)=if cutE b p=true then some (cutX b p,b.drop (zkq b p).toNat) else none:=by
  by_cases h2:p+2≤b.length
  · obtain⟨a,c,r,e,er⟩:=drop_two h2
    have hg:zgo b p 2=true:=by unfold zgo;rw[uj];omega
    have hu:(getU b p 2).toNat=256*a.toNat+c.toNat:=by
      rw[zmv hg];have e1:(b.drop (p:Int).toNat).take (2:Int).toNat=[a,c]:=by
        rw[show((p:Int)).toNat=p by omega,show(2:Int).toNat=2 from rfl,e];rfl
      rw[e1,zlx [a,c] yB];show 256*(256*0+a.toNat)+c.toNat=_;omega
    have hrl:r.length=b.length-(p+2):=by rw[er,List.length_drop]
    rw[e,cutN];by_cases h3:256*a.toNat+c.toNat≤r.length
    · have hce : cutE b p = true := by
        unfold cutE;rw[hg,Bool.true_and,uj,hu];omega
      obtain⟨c1,c2⟩:=znZ hce;rw[if_pos h3,if_pos hce,c1,c2,hu,show((p:Int)).toNat=p by omega,←er];congr 2;rw[er,List.drop_drop];congr 1
    have hce : ¬ cutE b p = true := by
      unfold cutE;rw[hg,Bool.true_and,uj,hu];omega
    rw[if_neg h3,if_neg hce]
  have hg:zgo b p 2=false:=zdS ya;have hce:¬cutE b p=true:=by unfold cutE;rw[hg];simp
  rw[if_neg hce]
  match hd:b.drop p with
  | []=>rfl
  | [_]=>rfl
  | _::_::r =>
    have:=congrArg List.length hd
    rw[List.length_drop] at this;simp at this;omega
structure SplitAt (b:List UInt8) (N:Nat) (p:Nat) (out:List (List UInt8)):Prop where
  p1:1≤p
  p2:p≤b.length
  n:out.length≤N
  l:(pieces N (b.drop 1)).1=out++(pieces (N-out.length) (b.drop p)).1
  z:(pieces N (b.drop 1)).2=(pieces (N-out.length) (b.drop p)).2
theorem ztr {b:List UInt8} {N:Nat} (h:1≤b.length):SplitAt b N 1 []:=⟨ug _,h,uf _,rfl,rfl⟩
theorem zvT {b:List UInt8} {p:Nat} (hp:p≤b.length) (hc:cutE b p=true):∃q:Nat,zkq b p=(q:Int)∧p<q∧q≤b.length∧(cutX b p).length≤65535:=by
  have hg:zgo b p 2=true:=by
    unfold cutE at hc;rw[uk] at hc;exact hc.1
  have hu:=get2_le hg;have hgs:=hg;unfold zgo at hgs;rw[uj] at hgs;have h2:=hc;unfold cutE at h2;rw[uk,uj] at h2;obtain⟨c1,c2⟩:=znZ hc;refine⟨p+2+(getU b p 2).toNat,by rw[c2];omega,by omega,by omega,?_⟩;rw[c1,um];omega
theorem split_go {b:List UInt8} {N p:Nat} {out:List (List UInt8)} (h:SplitAt b N p out) (hc:cutE b p=true) (hn:¬out.length=N):SplitAt b N (zkq b p).toNat (out++[cutX b p]):=by
  obtain⟨q,hq,h1,h2,_⟩:=zvT h.p2 hc;have hN:N-out.length=(N-(out++[cutX b p]).length)+1:=by
    have:=h.n
    rw[ue,List.length_singleton];omega
  have hp:pieces (N-out.length) (b.drop p)=(cutX b p::(pieces (N-(out++[cutX b p]).length) (b.drop (zkq b p).toNat)).1,(pieces (N-(out++[cutX b p]).length) (b.drop (zkq b p).toNat)).2):=by
    rw[hN,pieces,zvU h.p2,if_pos hc]
  have hp1:=h.p1;have hnn:=h.n;refine⟨by rw[hq];omega,by rw[hq];omega,by rw[ue,List.length_singleton];omega,?_,?_⟩
  · rw[h.l,hp,List.append_assoc];rfl
  rw[h.z,hp]
theorem zbD {b:List UInt8} {N p:Nat} {out:List (List UInt8)} (h:SplitAt b N p out) (hc:cutE b p=false∨out.length=N):pieces N (b.drop 1)=(out,b.drop p):=by
  have hp:pieces (N-out.length) (b.drop p)=([],b.drop p):=by
    by_cases e:out.length=N
    · rw[show N-out.length=0 by omega];rfl
    have hn:=h.n;rw[show N-out.length=(N-out.length-1)+1 by omega,pieces,zvU h.p2,if_neg (by rw[hc.resolve_right e];decide)]
  have h1:=h.l;have h2:=h.z;rw[hp] at h1 h2;rw[List.append_nil] at h1;exact Prod.ext h1 h2
theorem zbE {b:List UInt8} {n0:UInt8} {p:Nat} {out:List (List UInt8)} (h0:b[0]?=some n0) (h:pieces n0.toNat (b.drop 1)=(out,b.drop p)):zY b=if out.length=n0.toNat∧b.drop p=[] then (out,true) else ([],false):=by
  match b,h0 with
  | n::r,h0 =>
    have e:n=n0:=by simpa using h0
    subst e;have h:pieces n.toNat r=(out,(n::r).drop p):=h;unfold zY;simp only[];rw[h]
theorem zuf (b:List UInt8) (hb:b.length≤1000000000):Tells P 126 [.val (bsl u8T) b] (.tup2 (.fresh 49 (sl u8T) (zY b).1) (.val zn (zY b).2)):=by
 refine zc Tryz.func126 rfl rfl rfl (fun ext w hext=>?_);refine zf (d:=0) rfl zl (fun hsl0=>?_);refine qai ?_;refine A0 aL ?_;refine qce ?_;refine xo ?_;refine xl ?_;refine A0 zcw ?_;refine CN ?_;refine zo (p:=b.length=0) rfl yO (fun ht10=>?_) (fun ht10=>?_)
 ·
  refine qbe ?_;exact zU rfl rfl (by rw[List.length_eq_zero_iff.1 ht10];exact zm rfl) (za rfl (by rw[List.length_eq_zero_iff.1 ht10];rfl))
 obtain⟨n0,hn0⟩:∃n0,b[0]?=some n0:=yo;have hn8:n0.toNat<256:=n0.toNat_lt;have hti8:IntL.toI u8T n0=(n0.toNat:Int):=rfl;refine CSQR ?_;refine zq zn_rows rfl rfl rfl rfl ?_;refine CN ?_;refine zs7 1 49 (sl u8T) rfl ?_;refine CQR ?_;refine zq ze_3 rfl rfl rfl rfl ?_;refine zg rfl rfl rfl rfl rfl (Lens.self _) ty_3 rfl ?_;refine CNQQR ?_;refine xo ?_;refine zaa rfl rfl rfl rfl Tryz.func178 fn_178 rfl rfl (fun ia2 iok2=>?_);refine qai ?_;refine qcr ?_;refine CNB ?_;refine ziL rfl rfl rfl Tryz.func213 fn_213 rfl rfl yV (fun fid3 ca3 lN3 DN3 cok3 rc3 hrc3=>?_);refine CQR ?_;refine A0 aV ?_;refine CNB ?_;refine zaS 2 7 8 rfl rfl rfl rfl rfl rfl ?_;refine Lp (ι:=Nat×List (List UInt8)) 8 (fun(p,out)=>((Fr.none.set 0 (.lit (.func (.yield lN3) #[] #[]))).set 1 (.ptr 4 0)).set 3 (.val i64T (p:Int))) (fun(p,out)=>((((((Hp.none.set 0 (.box 49 (bsl u8T) b)).set 1 (.parts 150 [.own 7])).set 3 (.box 3 i64T (p:Int))).set 4 (.box 49 (bsl u8T) b)).set 7 (.row 49 (sl u8T) out)).set 5 (.objAt DN3 (.deferred (some [])))).set 6 (.objAt lN3 (rc3 .ready none))) (fun(p,out)=>SplitAt b n0.toNat p out) (fun(p,out)=>b.length-p) ((1,[])) (ztr ya) ?_;intro⟨p,out⟩ hinv;dsimp only at hinv;refine CB ?_;refine CQR ?_;refine xo ?_;refine qaw ?_;refine A0 (oCl (tells_pub3 (binCut_ok b p hb)) rfl fn_214 yi) ?_;refine qaQ ?_;refine A0 e32 ?_;refine A0 aV ?_;refine A0 aV ?_;refine qam ?_;refine A0 oN ?_;refine zbj (d:=15) (p:=cutE b p=false) rfl (by cases cutE b p<;>rfl) (fun g15=>?_) (fun g15=>?_)
 ·
  refine qaw ?_;refine qbA ?_;refine A2 ?_;refine qas ?_;refine Ct ?_;refine zfJ (nL:=6) rfl hrc3 rfl yn ?_;refine CI ?_;refine qa2 ?_;refine G0 ze1 ?_;refine zaH (d:=33) (p:=¬out.length=n0.toNat) rfl (by rw[←decide_not,uo,hti8];simp only[IntL.toI,id_eq];omega) (fun g33=>?_) (fun g33=>?_)
  ·
   refine G0 mV ?_;refine qaY ?_;refine G2 ?_;refine qaM ?_;refine Ct ?_;refine qbe ?_;refine zaD (zb1 (nD:=5) rfl rfl rfl ?_);exact zjy rfl rfl (zmp rfl (by rw[zbE hn0 (zbD hinv (.inl g15)),if_neg (fun h=>g33 h.1)])) (za rfl (by rw[zbE hn0 (zbD hinv (.inl g15)),if_neg (fun h=>g33 h.1)]))
  refine G0 mV ?_;refine G1 (oLs rfl rfl rfl ty_3) ?_;refine G1 (oLs rfl rfl rfl zfl) ?_;refine G1 (zO rfl rfl zcW) ?_;refine G1 ze1 ?_;refine qaM ?_;refine zo (p:=¬p=b.length) rfl ybj (fun ht39=>?_) (fun ht39=>?_)
  ·
   refine qbe ?_;refine zaD (zb1 (nD:=5) rfl rfl rfl ?_);exact zjy rfl rfl (zmp rfl yaT) (za rfl yaT)
  refine qcu ?_;refine qcc ?_;refine zaD (zb1 (nD:=5) rfl rfl rfl ?_);exact zjy rfl rfl (zh rfl rfl ya5) (za rfl ya5)
 have hce:cutE b p=true:=by simpa using g15
 obtain⟨q,hq,hpq,hqb,hxl⟩:=zvT hinv.p2 hce;have hol:=hinv.n;refine qaw ?_;refine A1 mL ?_;refine A1 mV ?_;refine A1 mV ?_;refine zpN rfl rfl rfl rfl rfl rfl ?_;refine ziJ (nL:=6) rfl rfl rfl rfl rfl hrc3 rfl rfl rfl (fun ya4 yok4=>?_);refine CQR ?_;refine A0 aV ?_;refine CNR ?_;refine qad ?_;refine ziN (nL:=6) hrc3 rfl ?_;refine CB ?_;refine qa2 ?_;refine G0 zcw ?_;refine GK.nil ?_;refine Cf (p:=out.length=n0.toNat) (fun ht21=>?_) (fun ht21=>?_)
 ·
  refine zkz (nL:=6) rfl hrc3 rfl ?_;refine A1 oN ?_;refine qas ?_;refine Ct ?_;refine zfJ (nL:=6) rfl hrc3 rfl yn ?_;refine CE ?_;refine qa2 ?_;refine G0 ze1 ?_;refine zaH (d:=33) (p:=¬out.length=n0.toNat) rfl (by rw[←decide_not,uo,hti8];simp only[IntL.toI,id_eq];omega) (fun g33=>?_) (fun g33=>?_)
  ·
   refine G0 mV ?_;refine qaY ?_;refine G2 ?_;refine qaM ?_;refine Ct ?_;refine qbe ?_;refine zaD (zb1 (nD:=5) rfl rfl rfl ?_);exact zjy rfl rfl (zmp rfl (by rw[zbE hn0 (zbD hinv (.inr ht21)),if_neg (fun h=>g33 h.1)])) (za rfl (by rw[zbE hn0 (zbD hinv (.inr ht21)),if_neg (fun h=>g33 h.1)]))
  refine G0 mV ?_;refine G1 (oLs rfl rfl rfl ty_3) ?_;refine G1 (oLs rfl rfl rfl zfl) ?_;refine G1 (zO rfl rfl zcW) ?_;refine G1 ze1 ?_;refine qaM ?_;refine zo (p:=¬p=b.length) rfl ybj (fun ht39=>?_) (fun ht39=>?_)
  ·
   refine qbe ?_;refine zaD (zb1 (nD:=5) rfl rfl rfl ?_);exact zjy rfl rfl (zmp rfl yaS) (za rfl yaS)
  refine qcu ?_;refine qcc ?_;refine zaD (zb1 (nD:=5) rfl rfl rfl ?_);exact zjy rfl rfl (zh rfl rfl ya0) (za rfl ya0)
 refine qcu ?_;refine qaw ?_;refine A0 (zL (T:=(sl u8T)) (xs:=[_]) rfl zc8 zcz yx rfl rfl) ?_;refine zN rfl rfl rfl rfl rfl rfl rfl zcz yA ?_;refine zaB rfl rfl rfl rfl rfl rfl rfl rfl rfl rfl zrF ?_;refine CNR ?_;refine qaw ?_;refine zg rfl rfl rfl rfl rfl (Lens.self _) ty_3 rfl ?_;refine CN ?_;refine CI ?_;refine zdG (nL:=6) hrc3 rfl ?_;refine A1 oN ?_;refine qas ?_;refine Cg ?_;refine CS ?_;refine CR ?_;refine qaw ?_;refine qad ?_;refine CI ?_;refine zaS 8 7 9 rfl rfl rfl rfl rfl rfl ?_;refine z8 (n:=3) (y:=(((zkq b p).toNat:Nat):Int)) rfl (by rw[hq];omega) ?_;refine zj (d:=3) (y:=(((zkq b p).toNat:Nat):Int)) rfl (by rw[hq];omega) ?_;exact Nx (((zkq b p).toNat,out++[cutX b p])) (split_go hinv hce ht21) (by show b.length-(zkq b p).toNat<b.length-p;omega)
theorem zvt {l:List UInt8} {n:Nat} (h:l.length=n) (hn:n≤8):getU l 0 (n:Int)=valU l:=by
  have hg:zgo l 0 (n:Int)=true:=by unfold zgo;rw[uj];omega
  rw[zmv hg,show(0:Int).toNat=0 from rfl,List.drop_zero,show((n:Int)).toNat=n by omega,uc ya]
theorem u32_of {l:List UInt8} (h:l.length≤4):zjG (IntL.toI u64T (valU l))=UInt32.ofNat (valU l).toNat:=by
  unfold zjG;have e:IntL.toI u64T (valU l)=((valU l).toNat:Int):=rfl;have h1:=zlx l ya;have h2:=zp5 l;have h3:256^l.length≤256^4:=Nat.pow_le_pow_right yn h;have h4:(256:Nat)^4=4294967296:=rfl;rw[e];congr 1;omega
theorem dd (b:List UInt8) (i j k:Nat) (h:i+j=k):(b.drop i).drop j=b.drop k:=by rw[List.drop_drop,h]
theorem num4_at {X:List UInt8} (h:4≤X.length):getU (X.take (Int.toNat 4)) 0 4=valU (X.take 4):=zvt (l:=X.take 4) (n:=4) ybd yn
theorem num8_at {X:List UInt8} (h:8≤X.length):getU (X.take (Int.toNat 8)) 0 8=valU (X.take 8):=zvt (l:=X.take 8) (n:=8) ybd yn
theorem zg2 {l:List UInt8} (h:l.length≤4):IntKind.i64.wrap (IntL.toI u64T (valU l))=((valU l).toNat:Int):=by
  have e:IntL.toI u64T (valU l)=((valU l).toNat:Int):=rfl;have h1:=zlx l ya;have h2:=zp5 l;have h3:256^l.length≤256^4:=Nat.pow_le_pow_right yn h;have h4:(256:Nat)^4=4294967296:=rfl;rw[e];exact zaz ya
theorem head_mk {x y:Head} (h1:x.height=y.height) (h2:x.prev=y.prev) (h3:x.links=y.links) (h4:x.txs=y.txs) (h5:x.past=y.past) (h6:x.work=y.work) (h7:x.bits=y.bits) (h8:x.nonce=y.nonce):x=y:=by
  cases x;cases y;simp only at h1 h2 h3 h4 h5 h6 h7 h8;subst h1 h2 h3 h4 h5 h6 h7 h8;rfl
def D1 (b:List UInt8):=b.drop (Int.toNat 4)
def D2 (b:List UInt8):=(D1 b).drop (Int.toNat 32)
def D3 (b:List UInt8):=(D2 b).drop (Int.toNat 32)
def D4 (b:List UInt8):=(D3 b).drop (Int.toNat 32)
def D5 (b:List UInt8):=(D4 b).drop (Int.toNat 32)
def D6 (b:List UInt8):=(D5 b).drop (Int.toNat 32)
def D7 (b:List UInt8):=(D6 b).drop (Int.toNat 4)
theorem d2 (b:List UInt8):D2 b=b.drop 36:=dd b 4 32 36 rfl
theorem d3 (b:List UInt8):D3 b=b.drop 68:=by unfold D3;rw[d2];exact dd b 36 32 68 rfl
theorem d4 (b:List UInt8):D4 b=b.drop 100:=by unfold D4;rw[d3];exact dd b 68 32 100 rfl
theorem d5 (b:List UInt8):D5 b=b.drop 132:=by unfold D5;rw[d4];exact dd b 100 32 132 rfl
theorem d6 (b:List UInt8):D6 b=b.drop 164:=by unfold D6;rw[d5];exact dd b 132 32 164 rfl
theorem d7 (b:List UInt8):D7 b=b.drop 168:=by unfold D7;rw[d6];exact dd b 164 4 168 rfl
theorem rd_is {b:List UInt8} (hl:b.length=176) {x:Head} (h1:x.height=IntKind.i64.wrap (IntL.toI u64T (getU (b.take (Int.toNat 4)) 0 4))) (h2:x.prev=(D1 b).take (Int.toNat 32)) (h3:x.links=(D2 b).take (Int.toNat 32)) (h4:x.txs=(D3 b).take (Int.toNat 32)) (h5:x.past=(D4 b).take (Int.toNat 32))
    (h6:x.work=ziS ((D5 b).take (Int.toNat 32))) (h7:x.bits=zjG (IntL.toI u64T (getU ((D6 b).take (Int.toNat 4)) 0 4))) (h8:x.nonce=getU ((D7 b).take (Int.toNat 8)) 0 8):x=zcV b:=by
  rw[num4_at ya,zg2 ybd] at h1;rw[d2] at h3;rw[d3] at h4;rw[d4] at h5;rw[d5] at h6;rw[d6,num4_at yaU,u32_of ybd] at h7;rw[d7,num8_at yaU] at h8;exact head_mk (h1.trans (by simp only[zcV])) (h2.trans ybp) (h3.trans ybp) (h4.trans ybp) (h5.trans ybp) (h6.trans ybp) (h7.trans (by simp only[zcV])) (h8.trans (by simp only[zcV]))
theorem zu1 {b:List UInt8} (h:¬zcB b=true):zmb b=zhC:=by unfold zmb;rw[if_neg h]
theorem zr7 {b:List UInt8} (h:zcB b=true):zmb b=zcV b:=by unfold zmb;rw[if_pos h]
theorem ztC (b:List UInt8):Tells P 77 [.val (bsl u8T) b] (.tup2 (.val zbl (zmb b)) (.val zn (zcB b))):=by
 refine zc Tryz.func77 rfl rfl rfl (fun ext w hext=>?_);refine zf (d:=0) rfl zl (fun hsl0=>?_);refine CQR ?_;refine qct ?_;refine qam ?_;refine xl ?_;refine qbz ?_;refine zo (p:=¬b.length=176) rfl ybj (fun ht8=>?_) (fun ht8=>?_)
 ·
  have hno:¬zcB b=true:=by unfold zcB;rw[uk,uj];exact fun h=>ht8 h.1
  refine CQR ?_;refine A0 (zu rfl zpU bd_32 .nil rfl) ?_;refine qaS ?_;refine qad ?_;exact zp rfl rfl (zx rfl rfl zaF ((zu1 hno).symm)) (zad (za rfl ((Bool.eq_false_iff.2 hno).symm)))
 have hl:b.length=176:=ua ht8;refine CSQR ?_;refine qaw ?_;refine A0 (zu rfl ze_228 bd_228 (.cons zmy ziP zfl rfl .nil) rfl) ?_;refine xc ?_;refine A0 aP ?_;refine CNQR ?_;refine qct ?_;refine CNQR ?_;refine A0 mP ?_;refine zaa rfl rfl rfl rfl Tryz.func127 fn_127 rfl rfl (fun ia1 iok1=>?_);refine CQR ?_;refine qa4 ?_;refine A0 mP ?_;refine qaw ?_;refine zaa rfl rfl rfl rfl Tryz.func180 zlT rfl rfl (fun ia2 iok2=>?_);refine qa9 ?_;refine A0 (zmh rfl (ui_3) (zl5) rfl yaI) ?_;refine A0 (oFp zcr) ?_;refine zg rfl rfl rfl rfl rfl zak ty_3 rfl ?_;refine CNQR ?_;refine A0 mP ?_;refine zaa rfl rfl rfl rfl Tryz.func128 zsF rfl rfl (fun ia3 iok3=>?_);refine qbM ?_;refine A0 mP ?_;refine zaa rfl rfl rfl rfl Tryz.func180 zlT rfl rfl (fun ia4 iok4=>?_);refine qap ?_;refine qan ?_;refine xI ?_;refine qbr ?_;refine A0 mP ?_;refine zaa rfl rfl rfl rfl Tryz.func128 zsF rfl rfl (fun ia5 iok5=>?_);refine qbM ?_;refine A0 mP ?_;refine zaa rfl rfl rfl rfl Tryz.func180 zlT rfl rfl (fun ia6 iok6=>?_);refine qap ?_;refine qan ?_;refine xI ?_;refine qbr ?_;refine A0 mP ?_;refine zaa rfl rfl rfl rfl Tryz.func128 zsF rfl rfl (fun ia7 iok7=>?_);refine qbM ?_;refine A0 mP ?_;refine zaa rfl rfl rfl rfl Tryz.func180 zlT rfl rfl (fun ia8 iok8=>?_);refine qap ?_;refine qan ?_;refine xI ?_;refine qbr ?_;refine A0 mP ?_;refine zaa rfl rfl rfl rfl Tryz.func128 zsF rfl rfl (fun ia9 iok9=>?_);refine qbM ?_;refine A0 mP ?_;refine zaa rfl rfl rfl rfl Tryz.func180 zlT rfl rfl (fun ia10 iok10=>?_);refine qap ?_;refine qan ?_;refine xI ?_;refine qbr ?_;refine A0 (oFp zhm) ?_;refine zg rfl rfl rfl rfl rfl zcL zaA rfl ?_;refine A0 (oFp zhl) ?_;refine zg rfl rfl rfl rfl rfl zb7 zaA rfl ?_;refine A0 (oFp zlf) ?_;refine zg rfl rfl rfl rfl rfl zgX zaA rfl ?_;refine A0 (oFp zjr) ?_;refine zg rfl rfl rfl rfl rfl zeo zaA rfl ?_;refine CNQR ?_;refine A0 mP ?_;refine zaa rfl rfl rfl rfl Tryz.func128 zsF rfl rfl (fun ia11 iok11=>?_);refine qbM ?_;refine A0 mP ?_;refine zaa rfl rfl rfl rfl Tryz.func180 zlT rfl rfl (fun ia12 iok12=>?_);refine qap ?_;refine qan ?_;refine xI ?_;refine qbr ?_;refine A0 (oCl (zqu _) rfl fn_129 yd) ?_;refine A0 (oFp zih) ?_;refine zg rfl rfl rfl rfl rfl zdw zap rfl ?_;refine CNQR ?_;refine A0 mP ?_;refine zaa rfl rfl rfl rfl Tryz.func127 fn_127 rfl rfl (fun ia13 iok13=>?_);refine CQR ?_;refine qa4 ?_;refine A0 mP ?_;refine qaw ?_;refine zaa rfl rfl rfl rfl Tryz.func180 zlT rfl rfl (fun ia14 iok14=>?_);refine qa9 ?_;refine A0 (zsB rfl (ui_30) (zl5) rfl) ?_;refine A0 (oFp zdr) ?_;refine zg rfl rfl rfl rfl rfl zaX zbS rfl ?_;refine CNQR ?_;refine A0 mP ?_;refine zaa rfl rfl rfl rfl Tryz.func127 fn_127 rfl rfl (fun ia15 iok15=>?_);refine CQR ?_;refine qa4 ?_;refine A0 mP ?_;refine qaw ?_;refine zaa rfl rfl rfl rfl Tryz.func180 zlT rfl rfl (fun ia16 iok16=>?_);refine qa9 ?_;refine A0 (oFp zig) ?_;refine zg rfl rfl rfl rfl rfl zcM zco rfl ?_;refine CNQ ?_;refine CQ ?_;refine z8 (n:=2) (y:=zcV b) rfl (rd_is hl y8 y8 y8 y8 y8 y8 y8 y8) ?_;refine CR ?_;refine qbS ?_;refine qcs ?_;refine Cf (p:=1048576<(zcV b).height) (fun ht42=>?_) (fun ht42=>?_)
 ·
  have hno:¬zcB b=true:=fun h=>by have:=(rd_ok (b:=b) (by unfold zcB at h;rw[uk,uj,uj] at h;exact h.2)).2;omega
  refine CQR ?_;refine A0 (zu rfl zpU bd_32 .nil rfl) ?_;refine qaS ?_;refine qad ?_;exact zp rfl rfl (zx rfl rfl zaF ((zu1 hno).symm)) (zad (za rfl ((Bool.eq_false_iff.2 hno).symm)))
 have hrh:(zcV b).height=((valU (b.take 4)).toNat:Int):=by simp only[zcV]
 have hyes:zcB b=true:=by unfold zcB;rw[uk,uj,uj];exact⟨hl,by omega⟩
 refine CSQR ?_;refine qbU ?_;refine qaS ?_;refine qad ?_;exact zp rfl rfl (zx rfl rfl zaF ((zr7 hyes).symm)) (zad (za rfl (hyes.symm)))
abbrev noV:Value:=.iface 149 (.agg #[])
theorem fine_idle (b:Nat) (w:World):CallsDIn Fence.wide 0 P 72 #[.pointer (some ⟨b,0,none⟩)] .returning w fun e u w'=>e = .returned (.tuple #[])∧u = .returning∧w'=w:=by
  have hn:Tryz.f72.ntmps=7:=rfl;refine callsDIn_of_wpSIn Tryz.func72 rfl trivial fun c₀ cs hu=>?_
  rw[hn];apply wpSIn_seq;apply wpSIn_region;simp[wpOpsSIn,go_sem,recoverD,hu,Exit.thenS];apply wpSIn_seq;apply wpSIn_region;simp[wpOpsSIn,go_sem,recoverD,hu,Exit.thenS];refine wpSIn_cond (t:=false) (by simp[Act.eval,Array.replicate]) ?_;simp only[Bool.false_eq_true,if_false];refine wpSIn_of_wpIn rfl (wpIn_skip ?_);cases c₀
  simp_all [bodyPostS,results]
theorem ztY (b : Nat) (w : World) (x : Bool) (hw : w.heap[b]? = some (.cells #[.bool x] 4 (0, 0))) : CallsDIn Fence.wide 0 P 72 #[.pointer (some ⟨b, 0, none⟩)] (.panicking [{ v := noV, recovered := false }]) w
    fun e u w'=>e = .returned (.tuple #[])∧u = .panicking [{ v:=noV,recovered:=true }]∧w'=w.putObj b (.cells #[.bool false] 4 (0,0)):=by
  have hn:Tryz.f72.ntmps=7:=rfl;refine callsDIn_of_wpSIn Tryz.func72 rfl trivial fun c₀ cs hu=>?_
  rw[hn];apply wpSIn_seq;apply wpSIn_region;simp[wpOpsSIn,go_sem,recoverD,hu,Exit.thenS];apply wpSIn_seq;apply wpSIn_region;simp[wpOpsSIn,go_sem,recoverD,hu,Exit.thenS];refine wpSIn_cond (t:=true) (by simp[Act.eval,Array.replicate]) ?_;simp only[if_true];apply wpSIn_seq;apply wpSIn_region;simp[wpOpsSIn,go_sem,recoverD,hu,Exit.thenS];have hta:∀w,(Instr.typeAssert noV 20 149 false).run P w = .ok (.agg #[]) w:=fun w=>by kernel_rfl
  have hc:w.cell? { block:=b,off:=0 }=some (.bool x):=by simp[World.cell?,hw]
  have hz:w.frozen? { block:=b,off:=0 }=false:=by simp[World.frozen?,hw]
  have hs:w.setCell { block:=b,off:=0 } (.bool false)=w.putObj b (.cells #[.bool false] 4 (0,0)):=by
    unfold World.setCell World.putObj;congr 1;apply Array.ext_getElem?;intro i;rw[Array.getElem?_modify,Array.getElem?_setIfInBounds];by_cases e:b=i
    · subst e
      have hlt:b<w.heap.size:=(Array.getElem?_eq_some_iff.1 hw).1;rw[if_pos rfl,if_pos rfl,if_pos hlt,hw];rfl
    rw[if_neg e,if_neg e]
  rw[hta];simp only[Result.andThen_ok];apply wpSIn_region;simp[wpOpsSIn,go_sem,hc,hz,hs,bodyPostS,results]
theorem zf5:Catches P 72 4 noV:=⟨fn_72,fine_idle,ztY⟩
theorem zbB (b:Bool):zoo P 74 [.val zn b] (b=true) noV (.lit (.tuple #[])):=by
 refine zie Tryz.func74 rfl rfl rfl (fun ext w hext=>?_);refine qa6 ?_;refine qbj ?_;refine zo (p:=¬b=true) rfl (by cases b<;>rfl) (fun ht3=>?_) (fun ht3=>?_)
 ·
  refine CR ?_;refine A0 (zvB rfl zu_149 su_149) ?_;refine A0 (g_mkif rfl rfl yq) ?_;refine aw_panic rfl rfl rfl ?_;exact zon (ht3)
 refine CS ?_;exact aw_fall (zv9 rfl rfl rfl (ua ht3))
theorem zqe (l:List (List UInt8)):zoo P 75 [.val (bsl (bsl u8T)) l] (zdy l=true) noV (.fresh 5 u8T (zjd l)):=by
 refine zie Tryz.func75 rfl rfl rfl (fun ext w hext=>?_);refine zf (d:=0) rfl zl (fun hsl0=>?_);refine qbv ?_;refine qaw ?_;refine zkB (binRows_ok l) rfl fn_125 yd zkk rfl rfl rfl ?_;refine A0 yt ?_;refine qaa ?_;refine A0 aO ?_;refine qaR ?_;refine A0 mX ?_;refine za2 (zbB (zdy l)) rfl zfT rfl ybz (fun hm=>?_) (fun hm=>?_)
 ·
  exact zon (hm)
 refine A0 (oCl ((zbB (zdy l)).1 hm) rfl zfT ybz) ?_;refine CNQR ?_;refine A0 mO ?_;refine qbm ?_;exact zq9 rfl rfl hm (zh rfl rfl (by unfold ztz;rw[if_pos hm]))
theorem zjJ (b:List UInt8) (hb:b.length≤1000000000):zoo P 76 [.val (bsl u8T) b] ((zY b).2=true) noV (.fresh 49 (sl u8T) (zY b).1):=by
 refine zie Tryz.func76 rfl rfl rfl (fun ext w hext=>?_);refine zf (d:=0) rfl zl (fun hsl0=>?_);refine qbv ?_;refine qaw ?_;refine zkB (zuf b hb) rfl fn_126 yd zkk rfl rfl rfl ?_;refine A0 yt ?_;refine qaa ?_;refine A0 aO ?_;refine qaR ?_;refine A0 mX ?_;refine za2 (zbB (zY b).2) rfl zfT rfl ybz (fun hm=>?_) (fun hm=>?_)
 ·
  exact zon (hm)
 refine A0 (oCl ((zbB (zY b).2).1 hm) rfl zfT ybz) ?_;refine CNQR ?_;refine A0 mO ?_;refine qbm ?_;exact zq9 rfl rfl hm (zh rfl rfl rfl)
theorem zjZ (p:Proof):zoo P 73 [.rptr paperT p] (zhS p=true) noV (.lit (.tuple #[])):=by
 refine zie Tryz.func73 rfl rfl rfl (fun ext w hext=>?_);refine CQR ?_;refine A0 mR ?_;refine A0 (zbX rfl rfl) ?_;refine A0 (oFr zdp zdf) ?_;refine A0 (oFr zfD zfM) ?_;refine xh ?_;refine A0 zfR ?_;refine Sp (d:=9) (p:=1≤p.m) (fun g9=>?_) (fun g9=>?_)
 ·
  refine qaw ?_;refine A1 mR ?_;refine A1 (zbX rfl rfl) ?_;refine A1 (oFr zdp zdf) ?_;refine A1 (oFr zfD zfM) ?_;refine A1 (ze rfl rfl ty_3) ?_;refine A1 zh2 ?_;refine Sp (d:=16) (p:=p.m≤20) (fun g16=>?_) (fun g16=>?_)
  ·
   refine qaj ?_;refine A1 mR ?_;refine A1 (zbX rfl rfl) ?_;refine A1 (oFr zdp zdf) ?_;refine A1 (oFr zek zd5) ?_;refine A1 (ze rfl rfl ty_3) ?_;refine A1 zfR ?_;refine Sp (d:=24) (p:=1≤p.k) (fun g24=>?_) (fun g24=>?_)
   ·
    refine qaj ?_;refine A1 mR ?_;refine A1 (zbX rfl rfl) ?_;refine A1 (oFr zdp zdf) ?_;refine A1 (oFr zek zd5) ?_;refine A1 (ze rfl rfl ty_3) ?_;refine A1 zh2 ?_;refine Sp (d:=32) (p:=p.k≤20) (fun g32=>?_) (fun g32=>?_)
    ·
     refine qaj ?_;refine A1 mR ?_;refine A1 (zbX rfl rfl) ?_;refine A1 (oFr zdp zdf) ?_;refine A1 (oFr za4 zaW) ?_;refine A1 (ze rfl rfl zef) ?_;refine A1 yaa ?_;refine A1 zh2 ?_;refine A0 oK ?_;refine za2 (zbB (decide ((p.p.length:Int)≤100))) rfl zfT rfl yd (fun hm=>?_) (fun hm=>?_)
     ·
      exact zon (fun h=>hm (ui (by have:=(zbq h).1;omega)))
     refine A0 (oCl ((zbB (decide ((p.p.length:Int)≤100))).1 hm) rfl zfT yd) ?_;refine CNQR ?_;refine A0 mR ?_;refine A0 (zbX rfl rfl) ?_;refine A0 (oFr zdp zdf) ?_;refine A0 (oFr za4 zaW) ?_;refine A0 (ze rfl rfl zef) ?_;refine A0 yaa ?_;refine qa0 ?_;refine Lp (ι:=Nat) 0 (fun i=>((Fr.none.set 48 (.val (sl zcC) p.p)).set 49 (.val i64T (p.p.length:Int))).set 50 (.val i64T (i:Int))) (fun i=>Hp.none) (fun i=>i≤p.p.length∧∀x∈p.p.take i,x.l.length≤32) (fun i=>p.p.length-i) (0) (⟨uf _,fun x hx=>by simp at hx⟩) ?_;intro i hinv;refine qal ?_;refine Cf (p:=i<p.p.length) (fun ht51=>?_) (fun ht51=>?_)
     ·
      have hlb:(p.p.length:Int)≤100:=of_decide_eq_true hm;obtain⟨x,hx⟩:∃x,p.p[i]?=some x:=⟨_,ub ht51⟩;refine CSQBQR ?_;refine A0 (zR (i:=i) rfl rfl rfl ya zjN yj) ?_;refine qbn ?_;refine CNR ?_;refine A0 (oFp zdq) ?_;refine A0 (oLb zcS zcy) ?_;refine qbK ?_;refine A0 zh2 ?_;refine za2 (zbB (decide ((x.l.length:Int)≤32))) rfl zfT rfl yd (fun hm2=>?_) (fun hm2=>?_)
      ·
       exact zon (fun h=>hm2 (ui (by have:=(zbq h).2 x (ud hx);omega)))
      refine A0 (oCl ((zbB (decide ((x.l.length:Int)≤32))).1 hm2) rfl zfT yd) ?_;refine qaV ?_;exact Nx (i+1) (⟨by omega,fun y hy=>by rw[un,hx] at hy;rcases List.mem_append.1 hy with h|h;exact hinv.2 y h;simp at h;rw[h];have:=of_decide_eq_true hm2;omega⟩) ya
     refine CE ?_;exact aw_fall (zv9 rfl rfl rfl (by unfold zhS;rw[uk,uj,List.all_eq_true];exact⟨⟨g9,g16,g24,g32,by have:=of_decide_eq_true hm;omega⟩,fun y hy=>ui (hinv.2 y (by rw[uc ya];exact hy))⟩))
    refine qaH ?_;refine qbA ?_;refine A0 oK ?_;refine za2 (zbB false) rfl zfT rfl yd (fun hm=>?_) (fun h=>absurd h yn);exact zon (fun h=>by have:=(zbq h).1;omega)
   refine qaH ?_;refine qac ?_;refine qaH ?_;refine qbA ?_;refine A0 oK ?_;refine za2 (zbB false) rfl zfT rfl yd (fun hm=>?_) (fun h=>absurd h yn);exact zon (fun h=>by have:=(zbq h).1;omega)
  refine qaH ?_;refine qac ?_;refine qaH ?_;refine qac ?_;refine qaH ?_;refine qbA ?_;refine A0 oK ?_;refine za2 (zbB false) rfl zfT rfl yd (fun hm=>?_) (fun h=>absurd h yn);exact zon (fun h=>by have:=(zbq h).1;omega)
 refine qaw ?_;refine qac ?_;refine qac ?_;refine qaH ?_;refine qac ?_;refine qaH ?_;refine qac ?_;refine qaH ?_;refine qbA ?_;refine A0 oK ?_;refine za2 (zbB false) rfl zfT rfl yd (fun hm=>?_) (fun h=>absurd h yn);exact zon (fun h=>by have:=(zbq h).1;omega)
theorem hd_rel {U N:Nat→Prop} {w:World} {h:Head} {cs:List Value} (hr:zbl.rel U N w h cs):HW h:=by
  obtain⟨_,_,_,_,_,_,_,h1,_,_,_,h2,_,_,_,h3,_,_,_,h4,_,_,_,h5,_⟩:=hr;exact⟨h1.1,h2.1,h3.1,h4.1,h5.1⟩
theorem is_rel {U N:Nat→Prop} {w:World} {b:Bool} {l:List Ab.Id} {cs:List Value} (hr:(slT b idT).rel U N w l cs):∀y∈l,y.length=32:=fun x hx=>by
  obtain⟨ad,cap,_,_,_,h3⟩:=hr;obtain⟨_,ds,_,_,hr,_⟩:=h3 (List.ne_nil_of_mem hx);obtain⟨c,hc⟩:=ziz hr x hx;exact hc.1
theorem fact_pw {p:Proof} {ρ:Nat→Value} {B:Nat→Prop} {U N:Nat→Prop} {w:World} {v:Value} (h:(AV.val za1 p).rel ρ B U N w v):PW p:=by
  obtain⟨cs,⟨c1,c2,_,_,c3,c4,_,_,a,cap,_,_,_,h3⟩,_⟩:=h;intro x hx;obtain⟨i,hi⟩:=List.getElem?_of_mem hx;obtain⟨ad,ds,_,_,hr,_⟩:=h3 (List.ne_nil_of_mem hx);obtain⟨d1,d2,_,hh,hl⟩:=hr.get hi;exact⟨hd_rel hh,is_rel hl⟩
theorem putL_is (p:Proof):putL p=zbH (IntL.toI i64T p.m)::zbH (IntL.toI i64T p.k)::zjd (p.p.map zbU):=rfl
theorem wok_of {p:Proof} (hs:zhS p=true) (h:∀x∈p.p,hOk x.h=true):wOk p=true:=by unfold wOk;rw[hs,Bool.true_and,List.all_eq_true];exact h
theorem sum_le {α:Type} (f:α→Nat) (c:Nat):∀l:List α,(∀x∈l,f x≤c)→(l.map f).sum≤l.length*c
  | [],_=>by simp
  | x::l,h=>by
    rw[List.map_cons,List.sum_cons,List.length_cons,Nat.add_mul,Nat.one_mul];have h1:=sum_le f c l (fun y hy=>h y (List.mem_cons_of_mem _ hy));have h2:=h x (List.mem_cons_self ..);omega
theorem put_bd {p:Proof} (hw:PW p) (h:wOk p=true):(putL p).length≤126903:=by
  obtain⟨h1,h2⟩:=zbq (ziw h).1;rw[ztD hw h];have h3:=sum_le (fun x:Part=>181+34*x.l.length) 1269 p.p (fun x hx=>by have:=h2 x hx;omega);have h4:p.p.length*1269≤100*1269:=Nat.mul_le_mul_right _ h1.2.2.2.2;omega
theorem rows_bd {p:Proof} (hw:PW p) (h:wOk p=true):(zjd (p.p.map zbU)).length≤126901:=by
  have:=put_bd hw h
  rw[putL_is,List.length_cons,List.length_cons] at this;omega
def zgm (p:Proof):List UInt8:=if wOk p=true then putL p else []
theorem zr8 (p:Proof) (hw:PW p):zoo P 25 [.rptr paperT p] (wOk p=true) noV (.fresh 5 u8T (putL p)):=by
 refine zie Tryz.func25 rfl rfl rfl (fun ext w hext=>?_);refine qbv ?_;refine A0 mR ?_;refine za2 (zjZ p) rfl fn_73 rfl ⟨(zA rfl),trivial⟩ (fun hs=>?_) (fun hs=>?_)
 ·
  exact zon (fun h=>hs (ziw h).1)
 refine A0 (oCl ((zjZ p).1 hs) rfl fn_73 ⟨(zA rfl),trivial⟩) ?_;refine CNQR ?_;refine A0 aL ?_;refine CNQQR ?_;refine A0 mR ?_;refine A0 (zbX rfl rfl) ?_;refine A0 (oFr zdp zdf) ?_;refine A0 (oFr za4 zaW) ?_;refine A0 (ze rfl rfl zef) ?_;refine A0 yaa ?_;refine qa0 ?_;have hlb:=(zbq hs).1;refine zcJ (T:=bsl u8T) (d:=3) 49 rfl ?_;refine Lp (ι:=Nat) 1 (fun i=>((((Fr.none.set 0 (.rptr paperT p)).set 3 (.own 0)).set 17 (.val (sl zcC) p.p)).set 18 (.val i64T (p.p.length:Int))).set 19 (.val i64T (i:Int))) (fun i=>Hp.none.set 0 (.row 49 (bsl u8T) ((p.p.take i).map zbU))) (fun i=>i≤p.p.length∧∀x∈p.p.take i,hOk x.h=true) (fun i=>p.p.length-i) (0) (⟨uf _,fun x hx=>by simp at hx⟩) ?_;intro i hinv;refine qal ?_;refine Cf (p:=i<p.p.length) (fun ht20=>?_) (fun ht20=>?_)
 ·
  obtain⟨x,hx⟩:∃x,p.p[i]?=some x:=⟨_,ub ht20⟩;refine CSQBQR ?_;refine A0 (zR (i:=i) rfl rfl rfl ya zjN yj) ?_;refine qbn ?_;refine CNQR ?_;refine A0 (oFp zc4) ?_;refine A0 (oLb zcd zaF) ?_;refine A0 (oCl (zcO (hput_ok x.h)) rfl fn_48 yd) ?_;refine qaQ ?_;refine A0 aV ?_;refine qag ?_;refine za2 (zbB (hOk x.h)) rfl zfT rfl yd (fun hm=>?_) (fun hm=>?_)
  ·
   exact zon (fun h=>hm ((ziw h).2 x (ud hx)))
  refine A0 (oCl ((zbB (hOk x.h)).1 hm) rfl zfT yd) ?_;refine CNQR ?_;refine qaw ?_;refine zlo (S:=bsl u8T) (d:=31) rfl ?_;refine zb0 (T:=(bsl u8T)) (xs:=[_]) rfl rfl rfl rfl zc8 zcz yx rfl rfl ?_;refine A0 aO ?_;refine CNQQR ?_;refine A0 (oFp zdq) ?_;refine A0 (oLb zcS zcy) ?_;refine qbK ?_;refine qa0 ?_;have hxl:=(zbq hs).2 x (ud hx);refine Lp (ι:=Nat) 3 (fun j=>((((((((Fr.none.set 0 (.rptr paperT p)).set 3 (.own 0)).set 8 (.own 2)).set 17 (.val (sl zcC) p.p)).set 18 (.val i64T (p.p.length:Int))).set 19 (.val i64T (i:Int))).set 34 (.val (sl idT) x.l)).set 35 (.val i64T (x.l.length:Int))).set 36 (.val i64T (j:Int))) (fun j=>(Hp.none.set 0 (.row 49 (bsl u8T) ((p.p.take i).map zbU))).set 2 (.row 49 (bsl u8T) (zaR x.h::x.l.take j))) (fun j=>j≤x.l.length) (fun j=>x.l.length-j) (0) (uf _) ?_;intro j hj;refine qal ?_;refine Cf (p:=j<x.l.length) (fun ht37=>?_) (fun ht37=>?_)
  ·
   obtain⟨y,hy⟩:∃y,x.l[j]?=some y:=⟨_,ub ht37⟩;refine CSQBQR ?_;refine A0 (zR (i:=j) rfl rfl rfl ya zeM yj) ?_;refine A0 (ze rfl rfl zaA) ?_;refine qaF ?_;refine qat ?_;refine CN ?_;refine zci (d:=10) rfl rfl (Lens.self _) ?_;refine CR ?_;refine A0 mO ?_;refine A0 (zic rfl rfl zjz rfl rfl) ?_;refine A0 (zL (T:=(bsl u8T)) (xs:=[_]) rfl zc8 zcz yx rfl rfl) ?_;refine zN rfl rfl rfl rfl rfl rfl rfl zcz (by simp[um];omega) ?_;refine A0 aO ?_;refine qaV ?_;refine zaS 4 2 5 rfl rfl rfl rfl rfl rfl ?_;refine zz (n:=2) (y:=zaR x.h::x.l.take (j+1)) rfl (by rw[un,hy];rfl) ?_;exact Nx (j+1) ya ya
  refine CE ?_;have hr1:=row_ok (hw x (ud hx)).1 hm (hw x (ud hx)).2 ((zbq hs).2 x (ud hx));refine zz (n:=2) (y:=zaR x.h::x.l) rfl yN ?_;refine CR ?_;refine A0 mO ?_;refine A0 mO ?_;refine A0 (oCl (zB ((zqe (zaR x.h::x.l)).1 hr1)) rfl fn_75 ⟨(zI rfl rfl),trivial⟩) ?_;refine zlo (S:=bsl u8T) (d:=47) rfl ?_;refine A0 (zL (T:=(bsl u8T)) (xs:=[_]) rfl zc8 zcz yx rfl rfl) ?_;refine zN rfl rfl rfl rfl rfl rfl rfl zcz (by simp[um];omega) ?_;refine A0 aO ?_;refine qaV ?_;refine zaS 3 0 4 rfl rfl rfl rfl rfl rfl ?_;refine zz (n:=0) (y:=(p.p.take (i+1)).map zbU) rfl (by rw[un,hx,List.map_append];rfl) ?_;exact Nx (i+1) (⟨by omega,fun y hy=>by rw[un,hx] at hy;rcases List.mem_append.1 hy with h|h;exact hinv.2 y h;simp at h;rw[h];exact hm⟩) ya
 refine CE ?_;refine CQ ?_;have hwk:=wok_of hs (fun y hy=>hinv.2 y (by rw[uc ya];exact hy));have hbd:=rows_bd hw hwk;refine zz (n:=0) (y:=p.p.map zbU) rfl yN ?_;refine zC [some 1,some 1,some 1,some 1,some 1,some 1,some 1,some 1,some 1,some 1,some 1,some 1,none,some 2,some 2,none,some 1] mixed yc ?_;refine X0 mR ?_;refine X0 (zbX rfl rfl) ?_;refine X0 (oFr zdp zdf) ?_;refine X0 (oFr zfD zfM) ?_;refine X0 (ze rfl rfl ty_3) ?_;refine X0 (zhh rfl (ui_5) (us_3) rfl) ?_;refine X0 mR ?_;refine X0 (zbX rfl rfl) ?_;refine X0 (oFr zdp zdf) ?_;refine X0 (oFr zek zd5) ?_;refine X0 (ze rfl rfl ty_3) ?_;refine X0 (zhh rfl (ui_5) (us_3) rfl) ?_;refine XK.e (fun fr' hfr kk H=>by exact zb0 (T:=u8T) (xs:=[_,_]) rfl rfl rfl rfl zcP zcg ⟨rfl,((hfr 56 yc).trans rfl),rfl,((hfr 62 yc).trans rfl),trivial⟩ rfl rfl (zr H)) ?_;refine XK.g2 (g_mo (.inl rfl) rfl) (g_mo (.inl rfl) rfl) rfl rfl rfl ?_;refine XK.g2 (zec (zB ((zqe (p.p.map zbU)).1 (zqn hw hwk))) rfl fn_75 ⟨(zI rfl rfl),trivial⟩ rfl) (zec (zB ((zqe (p.p.map zbU)).1 (zqn hw hwk))) rfl fn_75 ⟨(zI rfl rfl),trivial⟩ rfl) rfl rfl rfl ?_;refine XK.e (fun fr' hfr kk H=>by exact zN rfl rfl rfl rfl ((hfr 63 yc).trans rfl) rfl ((hfr 65 yc).trans rfl) zcg (by simp[um];omega) (zr H)) ?_;refine X0 aO ?_;refine XK.nil' ?_;exact zq9 rfl rfl hwk (zh rfl rfl rfl)
theorem ztH (p:Proof):Tells P 8 [.val za1 p] (.tup2 (.val (sl u8T) (zgm p)) (.val zn (wOk p))):=by
 refine zc Tryz.func8 rfl rfl rfl (fun ext w hext=>?_);refine zf (d:=0) rfl fact_pw (fun hw=>?_);refine qai ?_;refine A0 aL ?_;refine qa4 ?_;refine A0 (oLs rfl rfl rfl zbw) ?_;refine A0 (zu rfl ze_79 bd_79 (.cons zdp zdf zbw rfl .nil) rfl) ?_;refine xc ?_;refine ziO zp_77 rfl rfl rfl rfl rfl rfl ?_;refine zaB rfl rfl rfl rfl rfl rfl rfl rfl rfl rfl zrD ?_;refine CNQR ?_;refine zq ze_49 rfl rfl rfl rfl ?_;refine CNQR ?_;refine xn ?_;refine zaa rfl rfl rfl rfl Tryz.func23 fn_23 rfl rfl (fun ia2 iok2=>?_);refine CQR ?_;refine zq ze_4 rfl rfl rfl rfl ?_;refine CNQR ?_;refine xg ?_;refine zv3 rfl rfl rfl rfl rfl rfl rfl (fun bD=>?_);refine CNQR ?_;refine A0 mC ?_;refine zlp rfl rfl rfl rfl rfl Tryz.func24 fn_24 rfl rfl yI (fun ia3 iok3=>?_);refine CR ?_;refine A0 yaz ?_;refine za2 (zr8 p hw) rfl fn_25 rfl ybC (fun hm=>?_) (fun hm=>?_)
 ·
  refine ap_inl ?_;refine ap_fine (n:=4) zf5 rfl rfl rfl ty_4 ?_;refine qa4 ?_;refine xo ?_;refine qaw ?_;refine qbu ?_;exact zU rfl rfl (za rfl (by unfold zgm;rw[if_neg hm])) (za rfl (Bool.eq_false_iff.2 hm).symm)
 refine A0 (oCl (zB ((zr8 p hw).1 hm)) rfl fn_25 ybC) ?_;refine zg rfl rfl rfl rfl rfl (Lens.self _) zfl rfl ?_;refine CN ?_;refine zir rfl ?_;refine CNQR ?_;refine zpO rfl rfl rfl rfl rfl ty_4 rfl ?_;refine CN ?_;refine zpP zf5 rfl rfl rfl ty_4 ?_;refine qa4 ?_;refine xo ?_;refine qaw ?_;refine qbu ?_;exact zU rfl rfl (za rfl (by unfold zgm;rw[if_pos hm])) (za rfl hm.symm)
def zoD (b:List UInt8):Proof:=if zea b=true then zjT b else zdN
theorem zhc {b:List UInt8} (h:zea b=false):zoD b=zdN:=by unfold zoD;rw[h];rfl
theorem znh {b:List UInt8} (h:zea b=true):zoD b=zjT b:=by unfold zoD;rw[if_pos h]
theorem no_len {b:List UInt8} (h:¬decide ((2:Int)<(b.length:Int))=true):zea b=false:=by
  unfold zea;rw[uj] at h;rw[uh ya];rfl
theorem no_split {b:List UInt8} (h:¬(zY (b.drop 2)).2=true):zea b=false:=by
  unfold zea;rw[Bool.eq_false_iff.2 h,Bool.and_false];rfl
theorem zqw {b r:List UInt8} (hr:r∈(zY (b.drop 2)).1) (h:¬zey r=true):zea b=false:=by
  unfold zea
  have:(zY (b.drop 2)).1.all zey=false:=List.all_eq_false.2 ⟨r,hr,h⟩
  rw[this,Bool.and_false];rfl
theorem no_size {b:List UInt8} (h:¬zhS (zjT b)=true):zea b=false:=by
  unfold zea;rw[Bool.eq_false_iff.2 h,Bool.and_false]
theorem pno_split {r:List UInt8} (h:¬(zY r).2=true):¬zey r=true:=fun hp=>by
  unfold zey at hp;rw[uk] at hp;exact h hp.1
theorem pno_nil {r:List UInt8} (h:¬decide ((0:Int)<((zY r).1.length:Int))=true):¬zey r=true:=fun hp=>by
  unfold zey at hp;rw[uj] at h
  have:(zY r).1=[]:=List.length_eq_zero_iff.1 ya
  rw[this] at hp;simp at hp
theorem pno_head {r x:List UInt8} (hx:(zY r).1[0]?=some x) (h:¬zcB x=true):¬zey r=true:=fun hp=>by
  unfold zey at hp;cases hl:(zY r).1 with
  | nil=>rw[hl] at hx;simp at hx
  | cons z l =>
    rw[hl] at hx hp;simp at hx;subst hx;simp only[uk] at hp;exact h hp.2.1
theorem pno_id {r y:List UInt8} (hy:y∈(zY r).1.drop 1) (h:¬decide ((y.length:Int)=32)=true):¬zey r=true:=fun hp=>by
  unfold zey at hp;rw[uj] at h;cases hl:(zY r).1 with
  | nil=>rw[hl] at hy;simp at hy
  | cons z l =>
    rw[hl] at hy hp;simp only[uk,List.all_eq_true,uj] at hp;exact h (by have:=hp.2.2 y hy;omega)
theorem part_yes {r x:List UInt8} (h1:(zY r).2=true) (hx:(zY r).1[0]?=some x) (h2:zcB x=true) (h3:∀y∈(zY r).1.drop 1,y.length=32):zey r=true∧(⟨zmb x,(zY r).1.drop 1⟩:Part)=zcQ r:=by
  unfold zey zcQ;cases hl:(zY r).1 with
  | nil=>rw[hl] at hx;simp at hx
  | cons z l =>
    rw[hl] at hx h3;simp at hx;subst hx;refine⟨?_,?_⟩
    · simp only[uk,List.all_eq_true,uj]
      exact⟨h1,h2,fun y hy=>h3 y hy⟩
    rw[zr7 h2];rfl
theorem mem_sum {α:Type} (f:α→Nat) {x:α}:∀{l:List α},x∈l→f x≤(l.map f).sum
  | y::l,h=>by
    rw[List.map_cons,List.sum_cons];rcases List.mem_cons.1 h with e|h
    · rw[e];omega
    have:=mem_sum f h;omega
theorem row_short {b r:List UInt8} (h:(zY b).2=true) (hr:r∈(zY b).1):r.length≤b.length:=by
  have e:=(zpb h).1;have h1:=zmo (zY b).1;rw[e] at h1;have h2:2+r.length≤_:=mem_sum (fun x:List UInt8=>2+x.length) hr;omega
theorem zuU {b:List UInt8} (h:(zY b).2=true):(zY b).1.length≤255:=by
  have:=(zpb h).2
  unfold zdy at this;rw[uk,uj] at this;exact this.1
theorem yes_read {b:List UInt8} (h1:decide ((2:Int)<(b.length:Int))=true) (h2:(zY (b.drop 2)).2=true) (h3:∀r∈(zY (b.drop 2)).1,zey r=true) (h4:zhS (zjT b)=true):zea b=true:=by
  unfold zea;rw[uj] at h1;rw[h2,h4,ui ya,List.all_eq_true.2 h3];rfl
theorem readP_is {b:List UInt8} {b0 b1:UInt8} (h0:b[0]?=some b0) (h1:b[1]?=some b1):(⟨(b0.toNat:Int),(b1.toNat:Int),(zY (b.drop 2)).1.map zcQ⟩:Proof)=zjT b:=by
  unfold zjT;rw[uq,uq,h0,h1];rfl
theorem zn_paper:zax P 79 proofN (0,0,()):=zS (zF zbz (zF zbz zgZ)) yq
def partN:GoT (Head×Unit):=za7 zbl nilT
theorem zn_part:zax P 66 partN (zhC,()):=zS (zF zdM zgZ) yq
theorem split_part {h:Head}:zgu partN (h,()) [.val zbl h,.lit (.slice none 0 0)]:=zbT zce zm1
theorem join_part {h:Head} {l:List Ab.Id}:zkH zcC (⟨h,l⟩:Part) [.val zbl h] idT l:=zvn (zfu znB)
theorem cvi_u8 (x:UInt8):IntKind.i64.wrap (IntL.toI u8T x)=(x.toNat:Int):=by
  have h:x.toNat<256:=x.toNat_lt;have e:IntL.toI u8T x=(x.toNat:Int):=rfl;rw[e];exact zaz ya
theorem zqm (b:List UInt8) (hb:b.length≤1000000000):Tells P 9 [.val (bsl u8T) b] (.tup2 (.val za1 (zoD b)) (.val zn (zea b))):=by
 refine zc Tryz.func9 rfl rfl rfl (fun ext w hext=>?_);refine zf (d:=0) rfl zl (fun hsl0=>?_);refine qai ?_;refine qb8 ?_;refine qa4 ?_;refine A0 (zu rfl zn_paper bd_79 .nil rfl) ?_;refine xc ?_;refine ziO zp_77 rfl rfl rfl rfl rfl rfl ?_;refine zaB rfl rfl rfl rfl rfl rfl rfl rfl rfl rfl zrD ?_;refine CN ?_;refine zeH 2 (x:=(0,0,())) zg6 rfl ?_;refine zds 2 66 zcC [.val i64T 0,.val i64T 0] rfl yQ ?_;refine CQQR ?_;refine xn ?_;refine zaa rfl rfl rfl rfl Tryz.func23 fn_23 rfl rfl (fun ia3 iok3=>?_);refine CQR ?_;refine zq ze_4 rfl rfl rfl rfl ?_;refine CNQR ?_;refine xg ?_;refine zv3 rfl rfl rfl rfl rfl rfl rfl (fun bD=>?_);refine CNQR ?_;refine A0 mC ?_;refine zlp rfl rfl rfl rfl rfl Tryz.func26 fn_26 rfl rfl yI (fun ia4 iok4=>?_);refine CR ?_;refine A0 yaz ?_;refine xo ?_;refine zaa rfl rfl rfl rfl Tryz.func27 fn_27 rfl rfl (fun ia5 iok5=>?_);refine qa6 ?_;refine xl ?_;refine A0 zcq ?_;refine za2 (zbB (decide ((2:Int)<(b.length:Int)))) rfl zfT rfl yd (fun hm1=>?_) (fun hm1=>?_)
 ·
  have hno:=no_len hm1;refine qaE ?_;refine Ct ?_;refine CQR ?_;refine xC ?_;refine qao ?_;refine qad ?_;exact zp rfl rfl (zx rfl rfl zbw ((zhc hno).symm)) (zad (za rfl (hno.symm)))
 refine A0 (oCl ((zbB (decide ((2:Int)<(b.length:Int)))).1 hm1) rfl zfT yd) ?_;refine CNQ ?_;have hbl:2<b.length:=by have:=of_decide_eq_true hm1;omega
 obtain⟨b0,hb0⟩:∃x,b[0]?=some x:=yo;obtain⟨b1,hb1⟩:∃x,b[1]?=some x:=yo;have hb08:b0.toNat<256:=b0.toNat_lt;have hb18:b1.toNat<256:=b1.toNat_lt;refine zC [some 1,some 1000001,some 1,some 1,some 1,some 1,some 1,some 1,some 1,some 1000001,some 1,some 1,some 1,none,some 1,some 1,some 1,none] mixed yc ?_;refine X0 mP ?_;refine XK.ga (fun _=>g_mp (.inl rfl) rfl) rfl rfl rfl ?_;refine X0 mV ?_;refine X0 (zR (i:=0) rfl rfl rfl ya zcP yj) ?_;refine X0 (ze rfl rfl ty_5) ?_;refine X0 (zmh rfl (ui_3) (us_5) rfl (by exact cvi_u8 _)) ?_;refine X0 mV ?_;refine X0 (zR (i:=1) rfl rfl rfl ya zcP yj) ?_;refine X0 (ze rfl rfl ty_5) ?_;refine XK.ga (fun _=>zmh rfl (ui_3) (us_5) rfl (by exact cvi_u8 _)) rfl rfl rfl ?_;refine xe ?_;refine X0 (oFp zdp) ?_;refine X0 (oFp zfD) ?_;refine XK.e (x:=.idk) (fun fr' hfr kk H=>by exact zaB rfl rfl rfl ((hfr 28 yc).trans rfl) rfl rfl ((hfr 21 yc).trans rfl) rfl rfl rfl ty_3 (zr H)) ?_;refine xe ?_;refine X0 (oFp zdp) ?_;refine X0 (oFp zek) ?_;refine XK.e (x:=.idk) (fun fr' hfr kk H=>by exact zaB rfl rfl rfl ((hfr 31 yc).trans rfl) rfl rfl ((hfr 25 yc).trans rfl) rfl rfl rfl ty_3 (zr H)) ?_;refine XK.nil' ?_;refine qb5 ?_;refine A0 (zlR rfl rfl rfl zcP yh) ?_;refine za2 (zjJ (b.drop 2) yA) rfl fn_76 rfl yd (fun hs1=>?_) (fun hs1=>?_)
 ·
  have hno:=no_split hs1;refine qaE ?_;refine Ct ?_;refine CQR ?_;refine xC ?_;refine qao ?_;refine qad ?_;exact zp rfl rfl (zx rfl rfl zbw ((zhc hno).symm)) (zad (za rfl (hno.symm)))
 refine A0 (oCl (zB ((zjJ (b.drop 2) yA).1 hs1)) rfl fn_76 yd) ?_;obtain⟨R,hR⟩:∃R,R=(zY (b.drop 2)).1:=⟨_,rfl⟩;have hRl:R.length≤255:=hR▸zuU hs1;refine zj (d:=34) (y:=R) rfl (by rw[hR]) ?_;refine A0 (zO rfl rfl zhf) ?_;refine qa0 ?_;refine zaS 4 6 7 rfl rfl rfl rfl rfl rfl ?_;refine Lp (ι:=Nat) 7 (fun i=>(((Fr.none.set 0 (.ptr 2 0)).set 34 (.val (sl (sl u8T)) R)).set 35 (.val i64T (R.length:Int))).set 36 (.val i64T (i:Int))) (fun i=>((((Hp.none.set 1 (.box 46 za1 zdN)).set 2 (.parts 79 [.val i64T (b0.toNat:Int),.val i64T (b1.toNat:Int),.own 6])).set 3 (.parts 77 [.ptr 2 0])).set 6 (.row 66 zcC ((R.take i).map zcQ))).set 5 (.objAt bD (.cells #[.bool false] 4 (0,0)))) (fun i=>i≤R.length∧∀r∈R.take i,zey r=true) (fun i=>R.length-i) (0) (⟨uf _,fun x hx=>by simp at hx⟩) ?_;intro i hi;refine qal ?_;refine Cf (p:=i<R.length) (fun ht37=>?_) (fun ht37=>?_)
 ·
  obtain⟨r,hr⟩:∃r,R[i]?=some r:=⟨_,ub ht37⟩;have hrm:r∈(zY (b.drop 2)).1:=by rw[←hR];exact ud hr
  have hrl:=row_short hs1 hrm;rw[List.length_drop] at hrl;refine CSQBQR ?_;refine A0 (zR (i:=i) rfl rfl rfl ya zc8 yj) ?_;refine A0 (ze rfl rfl zfl) ?_;refine qaR ?_;refine A0 mX ?_;refine za2 (zjJ r ya) rfl fn_76 rfl ybz (fun hs2=>?_) (fun hs2=>?_)
  ·
   have hno:=zqw hrm (pno_split hs2);refine qaE ?_;refine Ct ?_;refine CQR ?_;refine xC ?_;refine qao ?_;refine qad ?_;exact zp rfl rfl (zx rfl rfl zbw ((zhc hno).symm)) (zad (za rfl (hno.symm)))
  refine A0 (oCl (zB ((zjJ r ya).1 hs2)) rfl fn_76 ybz) ?_;refine qag ?_;refine A0 (zO rfl rfl zhf) ?_;refine A0 zcq ?_;refine za2 (zbB (decide ((0:Int)<((zY r).1.length:Int)))) rfl zfT rfl yd (fun hm2=>?_) (fun hm2=>?_)
  ·
   have hno:=zqw hrm (pno_nil hm2);refine qaE ?_;refine Ct ?_;refine CQR ?_;refine xC ?_;refine qao ?_;refine qad ?_;exact zp rfl rfl (zx rfl rfl zbw ((zhc hno).symm)) (zad (za rfl (hno.symm)))
  refine A0 (oCl ((zbB (decide ((0:Int)<((zY r).1.length:Int)))).1 hm2) rfl zfT yd) ?_;have hlp:1≤(zY r).1.length:=by have:=of_decide_eq_true hm2;omega
  obtain⟨x,hx⟩:∃x,(zY r).1[0]?=some x:=⟨_,ub (by have:=of_decide_eq_true hm2;omega)⟩;refine CNQR ?_;refine qaw ?_;refine A0 (zR (i:=0) rfl rfl rfl ya zc8 yj) ?_;refine A0 (ze rfl rfl zfl) ?_;refine A0 (oCl (ztC x) rfl fn_77 ybz) ?_;refine qaQ ?_;refine qct ?_;refine qaS ?_;refine qag ?_;refine za2 (zbB (zcB x)) rfl zfT rfl yd (fun hm3=>?_) (fun hm3=>?_)
  ·
   have hno:=zqw hrm (pno_head hx hm3);refine qaE ?_;refine Ct ?_;refine CQR ?_;refine xC ?_;refine qao ?_;refine qad ?_;exact zp rfl rfl (zx rfl rfl zbw ((zhc hno).symm)) (zad (za rfl (hno.symm)))
  refine A0 (oCl ((zbB (zcB x)).1 hm3) rfl zfT yd) ?_;refine CNQR ?_;refine qbU ?_;refine A0 (zu rfl zn_part bd_66 (.cons zc4 (Lens.fst _ _) zaF rfl .nil) rfl) ?_;refine zq zn_part rfl rfl rfl rfl ?_;refine zg rfl rfl rfl rfl rfl (Lens.self _) zov rfl ?_;refine CN ?_;refine zeH 8 (x:=(zmb x,())) split_part rfl ?_;refine zds 8 26 idT [.val zbl (zmb x)] rfl (by intro x hx;simp only[List.mem_cons,List.not_mem_nil,or_false] at hx;rcases hx with rfl<;>trivial) ?_;refine qb5 ?_;refine A0 (zlR rfl rfl rfl zc8 yh) ?_;obtain⟨L,hL⟩:∃L,L=(zY r).1.drop 1:=⟨_,rfl⟩;have hLl:L.length≤255:=by rw[hL,List.length_drop];have:=zuU hs2;omega
  refine zj (d:=58) (y:=L) rfl (by rw[hL];rfl) ?_;refine A0 (zO rfl rfl zhf) ?_;refine qa0 ?_;refine Lp (ι:=Nat) 10 (fun j=>(((((((Fr.none.set 0 (.ptr 2 0)).set 9 (.ptr 8 0)).set 34 (.val (sl (sl u8T)) R)).set 35 (.val i64T (R.length:Int))).set 36 (.val i64T (i:Int))).set 58 (.val (sl (sl u8T)) L)).set 59 (.val i64T (L.length:Int))).set 60 (.val i64T (j:Int))) (fun j=>((((((Hp.none.set 1 (.box 46 za1 zdN)).set 2 (.parts 79 [.val i64T (b0.toNat:Int),.val i64T (b1.toNat:Int),.own 6])).set 3 (.parts 77 [.ptr 2 0])).set 6 (.row 66 zcC ((R.take i).map zcQ))).set 5 (.objAt bD (.cells #[.bool false] 4 (0,0)))).set 8 (.parts 66 [.val zbl (zmb x),.own 9])).set 9 (.row 26 idT (L.take j))) (fun j=>j≤L.length∧∀y∈L.take j,y.length=32) (fun j=>L.length-j) (0) (⟨uf _,fun x hx=>by simp at hx⟩) ?_;intro j hj;refine qal ?_;refine Cf (p:=j<L.length) (fun ht61=>?_) (fun ht61=>?_)
  ·
   obtain⟨y,hy⟩:∃y,L[j]?=some y:=⟨_,ub ht61⟩;refine CSQBQR ?_;refine A0 (zR (i:=j) rfl rfl rfl ya zc8 yj) ?_;refine A0 (ze rfl rfl zfl) ?_;refine qaR ?_;refine A0 mX ?_;refine qb4 ?_;refine A0 zcw ?_;refine za2 (zbB (decide ((y.length:Int)=32))) rfl zfT rfl yd (fun hm4=>?_) (fun hm4=>?_)
   ·
    have hno:=zqw hrm (pno_id (hL▸ud hy) hm4);refine qaE ?_;refine Ct ?_;refine CQR ?_;refine xC ?_;refine qao ?_;refine qad ?_;exact zp rfl rfl (zx rfl rfl zbw ((zhc hno).symm)) (zad (za rfl (hno.symm)))
   refine A0 (oCl ((zbB (decide ((y.length:Int)=32))).1 hm4) rfl zfT yd) ?_;refine CN ?_;refine zC [some 1,some 1,some 1,some 1,some 1,some 1,none,some 1,none] mixed yc ?_;refine X0 (oFp zdq) ?_;refine X0 (z6 rfl rfl rfl rfl rfl zcy) ?_;refine X0 mX ?_;refine X0 (g_s2a (T:=u8T) (n:=32) 5 yn rfl rfl yq (by have:=of_decide_eq_true hm4;omega)) ?_;refine X0 (ze rfl rfl zaA) ?_;refine X0 (zL (T:=idT) (xs:=[_]) rfl zeM zfY yx rfl rfl) ?_;refine XK.e (fun fr' hfr kk H=>by exact zN rfl rfl rfl rfl ((hfr 69 yc).trans rfl) rfl ((hfr 73 yc).trans rfl) zfY (by simp[um];omega) (zr H)) ?_;refine X0 (oFp zdq) ?_;refine XK.e (x:=.idk) (fun fr' hfr kk H=>by exact zaB rfl rfl rfl ((hfr 75 yc).trans rfl) rfl rfl ((hfr 74 yc).trans rfl) rfl rfl rfl zcy (zr H)) ?_;refine qaI ?_;refine zaS 10 9 11 rfl rfl rfl rfl rfl rfl ?_;refine zz (n:=9) (y:=L.take (j+1)) rfl (by rw[un,hy];rfl) ?_;exact Nx (j+1) (⟨by omega,fun z hz=>by rw[un,hy] at hz;rcases List.mem_append.1 hz with h|h;exact hj.2 z h;simp at h;rw[h];have:=of_decide_eq_true hm4;omega⟩) ya
  refine CE ?_;have hLj:L.take j=L:=uc ya;have hpy:=part_yes hs2 hx hm3 (by rw[←hL,←hLj];exact hj.2);refine zz (n:=9) (y:=L) rfl (by rw[hLj]) ?_;refine ziM 8 9 [.val zbl (zmb x)] (z:=(⟨zmb x,L⟩:Part)) (R:=zcC) rfl rfl rfl join_part ?_;refine z8 (n:=8) (y:=(⟨zmb x,(zY r).1.drop 1⟩:Part)) rfl (by rw[hL]) ?_;refine zC [some 1000001,some 1,some 1,some 1,some 1,some 1,some 1,some 1,none,some 1,some 1,some 1,none] mixed yc ?_;refine XK.ga (fun _=>g_mp (.inl rfl) rfl) rfl rfl rfl ?_;refine X0 mP ?_;refine xe ?_;refine X0 (oFp zdp) ?_;refine X0 (oFp za4) ?_;refine X0 (z6 rfl rfl rfl rfl rfl zef) ?_;refine X0 (oLs rfl rfl rfl zov) ?_;refine qci ?_;refine XK.e (fun fr' hfr kk H=>by exact zN rfl rfl rfl rfl ((hfr 82 yc).trans rfl) rfl ((hfr 84 yc).trans rfl) zr1 (by simp[um];omega) (zr H)) ?_;refine xe ?_;refine X0 (oFp zdp) ?_;refine X0 (oFp za4) ?_;refine XK.e (x:=.idk) (fun fr' hfr kk H=>by exact zaB rfl rfl rfl ((hfr 88 yc).trans rfl) rfl rfl ((hfr 85 yc).trans rfl) rfl rfl rfl zef (zr H)) ?_;refine qaI ?_;refine zaS 10 6 11 rfl rfl rfl rfl rfl rfl ?_;refine zz (n:=6) (y:=(R.take (i+1)).map zcQ) rfl (by rw[un,hr,List.map_append,hpy.2];rfl) ?_;exact Nx (i+1) (⟨by omega,fun y hy=>by rw[un,hr] at hy;rcases List.mem_append.1 hy with h|h;exact hi.2 y h;simp at h;rw[h];exact hpy.1⟩) ya
 refine CE ?_;have hRi:R.take i=R:=uc ya;refine zz (n:=6) (y:=(zY (b.drop 2)).1.map zcQ) rfl (by rw[hRi,hR]) ?_;refine ziM 2 6 [.val i64T (b0.toNat:Int),.val i64T (b1.toNat:Int)] (z:=(⟨(b0.toNat:Int),(b1.toNat:Int),(zY (b.drop 2)).1.map zcQ⟩:Proof)) (R:=za1) rfl rfl rfl ziC ?_;refine z8 (n:=2) (y:=zjT b) rfl (readP_is hb0 hb1) ?_;refine CR ?_;refine A0 mP ?_;refine za2 (zjZ (zjT b)) rfl fn_73 rfl ybC (fun hs3=>?_) (fun hs3=>?_)
 ·
  have hno:=no_size hs3;refine qaE ?_;refine Ct ?_;refine CQR ?_;refine xC ?_;refine qao ?_;refine qad ?_;exact zp rfl rfl (zx rfl rfl zbw ((zhc hno).symm)) (zad (za rfl (hno.symm)))
 refine A0 (oCl ((zjZ (zjT b)).1 hs3) rfl fn_73 ybC) ?_;have hok:=yes_read hm1 hs1 (fun r hr=>hi.2 r (by rw[hRi,hR];exact hr)) hs3;refine CN ?_;refine zir rfl ?_;refine CN ?_;refine zir rfl ?_;refine CNQR ?_;refine zpO rfl rfl rfl rfl rfl ty_4 rfl ?_;refine CN ?_;refine zpP zf5 rfl rfl rfl ty_4 ?_;refine qbj ?_;refine Cg ?_;refine CSQR ?_;refine A0 yaz ?_;refine xb ?_;refine A0 (oFp zdp) ?_;refine A0 (oLs rfl rfl rfl zbw) ?_;refine qao ?_;refine qad ?_;exact zp rfl rfl (zx rfl rfl zbw ((znh hok).symm)) (zad (za rfl (hok.symm)))
theorem easy_pw:PW zgN:=by
  intro x hx;have hx:x=⟨ziT,[]⟩∨x=⟨zbv.h,[id0]⟩:=by simpa [zgN] using hx
  rcases hx with rfl|rfl
  · exact⟨by refine⟨?_,?_,?_,?_,?_⟩<;>kernel_rfl,fun y hy=>by cases hy⟩
  refine⟨by refine⟨?_,?_,?_,?_,?_⟩<;>kernel_rfl,fun y hy=>?_⟩;rw[List.mem_singleton.1 hy];kernel_rfl
theorem zkp:wOk zgN=true:=yq
theorem easy_plen:(zgm zgN).length=399:=by
  unfold zgm;rw[if_pos zkp,ztD easy_pw zkp];rfl
theorem zqU:zea (zgm zgN)=true∧zjT (zgm zgN)=zgN:=by
  unfold zgm;rw[if_pos zkp];exact zph easy_pw zkp
theorem zpJ {l:List Block} {t:Tip} {i:Nat} {b:Block} (h:Chain l t) (hb:l[i]?=some b):b.l.length≤32:=by
  by_cases hi:i=0
  · subst hi
    rw[(zhr h hb).2.2.1 rfl];decide
  obtain⟨t',h1,h2,h3⟩:=zq4 h ya hb;have e:b.l=zeb t':=(ziA.1 h2).2.2.1;obtain⟨a1,a2,a3,a4⟩:=zoa h1;rw[←e] at a2;exact a2
def BW (l:List Block):Prop:=∀x∈l,HW x.h∧∀y∈x.l,y.length=32
theorem fact_bw {l:List Block} {b:Bool} {ρ:Nat→Value} {B:Nat→Prop} {U N:Nat→Prop} {w:World} {v:Value} (h:(AV.val (slT b zH) l).rel ρ B U N w v):BW l:=by
  obtain⟨cs,⟨ad,cap,_,_,_,h3⟩,_⟩:=h;intro x hx;obtain⟨_,ds,_,_,hr,_⟩:=h3 (List.ne_nil_of_mem hx);obtain⟨c,d1,d2,_,hh,e1,e2,_,hl,_⟩:=ziz hr x hx;exact⟨hd_rel hh,is_rel hl⟩
section
variable {l:List Block} {m k:Int}
theorem zse {W:List Int} (h:BuildOk l m k) (hn:l.length≤50) (hbw:BW l) (hr:W.Pairwise (· < ·)) (hm:∀x∈W,0≤x∧x<l.length) :
    wOk ⟨m,k,W.map (zaQ l)⟩=true∧PW ⟨m,k,W.map (zaQ l)⟩∧W.length≤l.length∧(putL ⟨m,k,W.map (zaQ l)⟩).length≤63453:=by
  have hlen:W.length≤l.length:=by
    have:=zfZ (zpQ l.length) hr (fun x hx=>by
      have:=hm x hx
      exact List.mem_map.2 ⟨x.toNat,List.mem_range.2 ya,by omega⟩)
    simpa using this
  have hpart:∀x∈W.map (zaQ l),∃(i:Nat) (b:Block),l[i]?=some b∧x=⟨b.h,b.l⟩:=fun x hx=>by
    obtain⟨p,hp,rfl⟩:=List.mem_map.1 hx
    have:=hm p hp
    obtain⟨b,hb⟩:∃b,l[p.toNat]?=some b:=yo;refine⟨p.toNat,b,hb,?_⟩;unfold zaQ;rw[uq,hb];rfl
  have hc:=ze6 h.c;have hpw:PW ⟨m,k,W.map (zaQ l)⟩:=fun x hx=>by
    obtain⟨i,b,hb,rfl⟩:=hpart x hx;exact hbw b (ud hb)
  have hl:∀x∈W.map (zaQ l),x.l.length≤32:=fun x hx=>by
    obtain⟨i,b,hb,rfl⟩:=hpart x hx;exact zpJ hc hb
  have hw:wOk ⟨m,k,W.map (zaQ l)⟩=true:=by
    unfold wOk zhS;rw[uk,uk,uj,List.all_eq_true,List.all_eq_true];refine⟨⟨⟨h.m1,h.m2,h.k1,h.k2,by show(W.map (zaQ l)).length≤100;rw[List.length_map];omega⟩,fun x hx=>ui (hl x hx)⟩,fun x hx=>?_⟩;obtain⟨i,b,hb,rfl⟩:=hpart x hx;exact(zhr hc hb).2.1
  refine⟨hw,hpw,hlen,?_⟩;rw[ztD hpw hw];have h3:=sum_le (fun x:Part=>181+34*x.l.length) 1269 (W.map (zaQ l)) (fun x hx=>by have:=hl x hx;omega);rw[List.length_map] at h3;have h4:W.length*1269≤50*1269:=Nat.mul_le_mul_right _ ya;show 3+((W.map (zaQ l)).map fun x=>181+34*x.l.length).sum≤63453;omega
theorem build_put (h:prE l m k=0) (hn:l.length≤50) (hbw:BW l):wOk (prOf l m k)=true∧PW (prOf l m k)∧(putL (prOf l m k)).length≤63453:=by
  have hb:=zht h
  have:=zse hb hn hbw (ze0 hb) (fun x hx=>zcl ⟨hb.k1,hb.kl⟩ hx)
  rw[zvY h];exact⟨this.1,this.2.1,this.2.2.2⟩
end
theorem pput_yes {p:Proof} (h:wOk p=true):zgm p=putL p:=by unfold zgm;rw[if_pos h]
theorem zu2 {p:Proof} (hp:PW p) (h:wOk p=true):zea (zgm p)=true∧zoD (zgm p)=p:=by
  obtain⟨h1,h2⟩:=zph hp h;rw[pput_yes h,znh h1];exact⟨h1,h2⟩
theorem pput_bd {p:Proof} (hp:PW p):(zgm p).length≤126903:=by
  unfold zgm
  split
  · rename_i h;exact put_bd hp h
  simp
set_option maxRecDepth 20000
section
variable {l:List Block} {m k q:Int}
def wayP (l:List Block) (m k q:Int):List Part:=(zc7 l m k q).map (zaQ l)
theorem wi_ok (h:wiE l m k q=0):prE l m k=0∧0≤q∧q<(l.length:Int)-k:=by
  unfold wiE at h;by_cases c:prE l m k=0
  · rw[if_neg (fun g=>g c)] at h
    by_cases d:q<0∨(l.length:Int)-k≤q
    · rw[if_pos d] at h;cases h
    exact⟨c,by omega,by omega⟩
  rw[if_pos c] at h;exact absurd h c
theorem wi_is (h:wiE l m k q=0):wiOf l m k q=⟨m,k,wayP l m k q⟩:=by unfold wiOf;rw[if_pos h];rfl
theorem way_put (h:wiE l m k q=0) (hn:l.length≤50) (hbw:BW l):wOk (wiOf l m k q)=true∧PW (wiOf l m k q)∧(wayP l m k q).length≤l.length:=by
  obtain⟨h1,h2,h3⟩:=wi_ok h;have hb:=zht h1
  have:=zse hb hn hbw (zmM hb (q:=q)) (fun x hx=>zmj hb h2 h3 hx)
  rw[wi_is h];exact⟨this.1,this.2.1,by unfold wayP;rw[List.length_map];exact this.2.2.1⟩
end
set_option maxRecDepth 20000
theorem zsq {v:Nat→Int} {n:Int} {a:Nat} (hn:0<n) (ha:a=0∨n≤v a):∀i,a<i→(∀c,a<c→c<i→v c<n)→zbV v n i=a
  | 0,h,_=>by omega
  | i+1,h,hc=>by
    rw[zbV];by_cases e:i=a
    · subst e
      by_cases z:i=0
      · subst z;rw[if_neg ya];rfl
      rw[if_pos ⟨by omega,by omega,hn⟩]
    have h1:=hc i ya ya;rw[if_neg ya];exact zsq hn ha i ya (fun c h2 h3=>hc c h2 ya)
theorem zvi {l:List Block} {c:Nat}:zbr l c=(zk l).getD c 0:=by
  unfold zbr zk;rw[uq,List.getElem?_map]
def zls (v:List Int) (a b:Int):Prop:=∀c:Nat,a<c→(c:Int)<b→v.getD c 0<v.getD a.toNat 0
theorem zue {l:List Block} {t:Tip} (h:Chain l t) {a b:Nat} {x y:Block} (hab:a<b) (hx:l[a]?=some x) (hy:l[b]?=some y) (hl:zls (zk l) a b):zgH y.l y.h.prev (zag x.h)=true:=by
  obtain⟨g,hg⟩:∃g,l[0]?=some g:=⟨_,ub (by have:=(ul.1 hy).1;omega)⟩;unfold zgH;by_cases e:a=b-1
  · subst e
    rw[(zb5 h ya hy hx hg).2.1];simp
  rw[Bool.or_eq_true];right;have hv:=(zj9 (zlj h)).2.2.2;have hbl:=(ul.1 hy).1;have hlen:=zca l;have hlv:∀c,c<l.length→0≤(zk l).getD c 0∧(zk l).getD c 0≤31:=fun c hc=>by
    rw[uq,ub ya];exact hv _ (List.getElem_mem ya)
  have h1:=hl (a+1) ya ya;have h2:=(hlv (a+1) ya).1;have h3:=(hlv a ya).2;rw[show(a:Int).toNat=a from rfl] at h1;obtain⟨n,hn⟩:∃n:Nat,(zk l).getD a 0=n:=⟨((zk l).getD a 0).toNat,by omega⟩;have hla:zbV (zbr l) n b=a:=zsq ya (.inr (by rw[zvi,hn];exact Int.le_refl _)) b hab (fun c hc hcb=>by
    rw[zvi]
    have:=hl c ya ya
    rw[show(a:Int).toNat=a from rfl,hn] at this;exact this)
  obtain⟨k0,k1⟩:=zlZ h ya hy;obtain⟨k2,k3⟩:=k1 n ya;have hid:idAt l a=zag x.h:=by unfold idAt;rw[hx];rfl
  by_cases c:n<y.l.length
  · have:=(k2 c).1
    rw[hla,hid] at this;exact List.any_eq_true.2 ⟨_,ud this,ui rfl⟩
  have:=k3 ya
  rw[hla] at this;subst this;rw[hid] at k0;exact List.any_eq_true.2 ⟨_,ud k0,ui rfl⟩
structure WayOk (l:List Block) (k:Int) (W:List Int):Prop where
  rise:W.Pairwise (· < ·)
  inn:∀x∈W,0≤x∧x<l.length
  zero:(0:Int)∈W
  last:∀x:Int,(l.length:Int)-k-1≤x→x<l.length→x∈W
  lead:∀a∈W,∀b∈W,a<b→(∀c∈W,¬(a<c∧c<b))→zls (zk l) a b
section
variable {l:List Block} {m k:Int} {W:List Int}
theorem way_first (h:WayOk l k W):W[0]?=some 0:=by
  obtain⟨j,hj⟩:=List.getElem?_of_mem h.zero;by_cases e:j=0
  · subst e;exact hj
  have hjl:=(ul.1 hj).1;obtain⟨x,hx⟩:∃x,W[0]?=some x:=yo;have h1:=(zc9 h.rise hx hj).2 ya;have h2:=(h.inn x (ud hx)).1;omega
theorem zp1 (h:WayOk l k W) {i:Nat} {a b:Int} (ha:W[i]?=some a) (hb:W[i+1]?=some b):∀c∈W,¬(a<c∧c<b):=by
  rintro c hc ⟨h1,h2⟩
  obtain⟨j,hj⟩:=List.getElem?_of_mem hc;have g1:=(zc9 h.rise ha hj).1 h1;have g2:=(zc9 h.rise hj hb).1 h2;omega
theorem way_end (h:WayOk l k W) (hk:1≤k) (hkl:k<l.length) {i:Nat} {a b:Int} (ha:W[i]?=some a) (hb:W[i+1]?=some b) (hi:(W.length:Int)-k≤((i+1:Nat):Int)):b=a+1:=by
  have hbm:=h.inn b (ud hb);have hbl:(l.length:Int)-k≤b:=Int.not_lt.1 fun c=>by
    have hd:(W.drop (i+1+1)).Pairwise (· < ·):=h.rise.sublist (List.drop_sublist _ _)
    have:=zfZ hd (zlP l k) (fun x hx=>by
      obtain⟨j,hj,rfl⟩:=List.mem_map.1 hx;rw[List.mem_range] at hj;obtain⟨s,hs⟩:=List.getElem?_of_mem (h.last ((l.length:Int)-k+j) ya ya);have hlt:=(zc9 h.rise hb hs).1 ya;refine ud (i:=s-(i+1+1)) ?_;rw[List.getElem?_drop,show i+1+1+(s-(i+1+1))=s by omega];exact hs)
    rw[List.length_map,List.length_range,List.length_drop] at this;have hbl2:=(ul.1 hb).1;omega
  have hm:=h.last (b-1) ya ya;have h1:=(zc9 h.rise ha hb).2 ya;have h2:=zp1 h ha hb (b-1) hm;omega
theorem zrv (hb:BuildOk l m k) (h:WayOk l k W):zdD ⟨m,k,W.map (zaQ l)⟩=0:=by
  have hc:=ze6 hb.c;have h48:=(zch hc).2.2.1;have hk1:=hb.k1;have hkl:=hb.kl;have hlen:W.length≤l.length:=by
    have:=zfZ (zpQ l.length) h.rise (fun x hx=>by
      have:=h.inn x hx
      exact List.mem_map.2 ⟨x.toNat,List.mem_range.2 ya,by omega⟩)
    simpa using this
  have hkw:k+1≤W.length:=by
    have hr:((List.range (k.toNat+1)).map fun j:Nat=>(l.length:Int)-k-1+(j:Int)).Pairwise (· < ·):=by
      rw[List.pairwise_map];exact(List.pairwise_lt_range ..).imp fun h=>by omega
    have:=zfZ h.rise hr (fun x hx=>by
      obtain⟨j,hj,rfl⟩:=List.mem_map.1 hx;rw[List.mem_range] at hj;exact h.last _ ya ya)
    rw[List.length_map,List.length_range] at this;omega
  have hpl:(W.map (zaQ l)).length=W.length:=List.length_map ..;have hat:∀i p,W[i]?=some p→∃b:Block,l[p.toNat]?=some b∧b.h.height=p∧yAt ⟨m,k,W.map (zaQ l)⟩ i=⟨b.h,b.l⟩:=fun i p hp=>by
    have hm:=h.inn p (ud hp);obtain⟨b,hbk⟩:∃b,l[p.toNat]?=some b:=yo;refine⟨b,hbk,?_,?_⟩
    · have:=(zhr hc hbk).1;omega
    unfold yAt zaQ;simp only[uq];rw[List.getElem?_map,hp];simp only[Option.map_some,Option.getD_some];rw[hbk];rfl
  obtain⟨g,hg,hg0,hgy⟩:=hat 0 0 (way_first h);have hgl:l[0]?=some g:=hg;rw[zsT];refine⟨hb.m1,hb.m2,hb.k1,hb.k2,by show k<((W.map (zaQ l)).length:Int);rw[hpl];omega,by show(W.map (zaQ l)).length≤100;rw[hpl];omega,?_,fun i h1 h2=>?_⟩
  · rw[hgy]
    obtain⟨t',h1,_⟩:=zgQ hc (i:=1) (ug _) ya;have e:l.take 1=[g]:=by rw[show(1:Nat)=0+1 from rfl,un,hgl];rfl
    rw[e] at h1;obtain⟨h3,h4,_⟩:=zim h1;have h5:g.h=zf4 g.h.bits:=congrArg (·.h) h4;have h6:g.l=[]:=congrArg (·.l) h4;refine⟨h3,by show g.l.length=0;rw[h6];rfl,?_⟩;show g.h=(zar g.h.bits).b.h;rw[zei h3];exact h5
  have h2:i<W.length:=by have h2:i<(W.map (zaQ l)).length:=h2;rwa [hpl] at h2
  obtain⟨b,hbi⟩:∃b,W[i]?=some b:=⟨_,ub h2⟩;obtain⟨a,hai⟩:∃a,W[i-1]?=some a:=yo;obtain⟨y,hy1,hy2,hy3⟩:=hat i b hbi;obtain⟨x,hx1,hx2,hx3⟩:=hat (i-1) a hai;have hab:=(zc9 h.rise hai hbi).2 ya;have ham:=h.inn a (ud hai);have hbm:=h.inn b (ud hbi);have hbi':W[i-1+1]?=some b:=by rw[show i-1+1=i by omega];exact hbi
  obtain⟨px,hpx⟩:∃px,l[b.toNat-1]?=some px:=yo;obtain⟨s1,s2,_,_,_,s6,s7,s8⟩:=zb5 hc ya hy1 hpx hgl;have hbits:x.h.bits=g.h.bits:=by
    by_cases z:a.toNat=0
    · rw[z,hgl] at hx1;injection hx1 with hx1;rw[hx1]
    obtain⟨pz,hpz⟩:∃px,l[a.toNat-1]?=some px:=yo;exact(zb5 hc ya hx1 hpz hgl).2.2.2.2.2.1
  have hlk:=zlZ hc ya hy1;have hl0:idAt l 0=zag g.h:=by unfold idAt;rw[hgl];rfl
  have hll:=zpJ hc hy1;refine⟨?_,?_,?_⟩
  · rw[hy3,hx3,zpi]
    refine⟨by show x.h.height<y.h.height;omega,by show y.h.bits=x.h.bits;rw[s6,hbits],fun hq=>?_⟩;have hq:((W.map (zaQ l)).length:Int)-k≤(i:Int):=hq;rw[hpl] at hq;have he:=way_end h hk1 hkl hai hbi' ya;refine⟨?_,?_⟩
    · show y.h.height=IntKind.i64.wrap (x.h.height+1)
      rw[zaz ya];omega
    show y.h.prev=zag x.h;rw[s2];rw[show b.toNat-1=a.toNat by omega,hx1] at hpx;injection hpx with hpx;rw[hpx]
  · rw[hy3,hgy,hx3,linkF_zero]
    refine⟨?_,hll,?_,?_,s7.symm⟩
    · have:=(ul.1 hlk.1).1
      show 1≤y.l.length;omega
    · show y.l.getD 0 zId=zag g.h
      rw[uq,hlk.1,hl0];rfl
    have hld:=h.lead a (ud hai) b (ud hbi) hab (zp1 h hai hbi');have ea:((a.toNat:Nat):Int)=a:=ya;have eb:((b.toNat:Nat):Int)=b:=ya;exact zue hc ya hx1 hy1 (by rw[ea,eb];exact hld)
  rw[hy3,workF_zero];exact s8
end
theorem zsQ (v:List Int) (m k:Int):∀(i:Nat) (x:Int),x∈(zaG v m k i).2↔∃j,j<i∧x∈upOf v (zaG v m k j).1 ((v.length:Int)-k) (31-(j:Int))
  | 0,x=>⟨fun h=>(by cases h),fun h=>(by obtain⟨j,h,_⟩:=h;omega)⟩
  | i+1,x=>by
    have e:(zaG v m k (i+1)).2=(upOf v (zaG v m k i).1 ((v.length:Int)-k) (31-(i:Int))).foldl zcU (zaG v m k i).2:=rfl;rw[e,zfB,zsQ v m k i x]
    constructor
    · rintro (⟨j,h1,h2⟩|h)
      · exact⟨j,by omega,h2⟩
      exact⟨i,by omega,h⟩
    rintro ⟨j,h1,h2⟩
    by_cases c:j=i
    · subst c;exact .inr h2
    exact .inl ⟨j,by omega,h2⟩
theorem zsR {v:List Int} {m k:Int} (hk:k<v.length) (hm:1≤m):∀i:Nat,(zaG v m k i).1≤(v.length:Int)-k-1
  | 0=>by show(0:Int)≤_;omega
  | i+1=>by
    obtain⟨L,hL⟩:∃L,L=upOf v (zaG v m k i).1 ((v.length:Int)-k) (31-(i:Int)):=⟨_,rfl⟩;by_cases c:m<L.length
    · obtain⟨z,hz⟩:∃z,L[L.length-m.toNat]?=some z:=yo
      rw[←zgr hL hz c];have hzm:=ud hz;rw[hL] at hzm;obtain⟨j,rfl,_,h5,_⟩:=zpo.1 hzm;omega
    rw[←zhq hL c];exact zsR hk hm i
theorem zkX {v:List Int} {m k:Int} (h:mayP v m k=true) {x:Int}:x∈(zai v m k).1↔∃j,j<32∧x∈upOf v (zaG v m k j).1 ((v.length:Int)-k) (31-(j:Int)):=by
  unfold zai;rw[if_pos h];exact zmm.trans (zsQ v m k 32 x)
theorem ztG {v:List Int} {m k:Int} (h:mayP v m k=true) {a:Int} {c:Nat} (ha:a∈(zai v m k).1) (hac:a<c) (hck:(c:Int)<(v.length:Int)-k) (hc:(c:Int)∉(zai v m k).1):v.getD c 0<v.getD a.toNat 0:=by
  obtain⟨j,h1,h2⟩:=(zkX h).1 ha;obtain⟨a',rfl,h3,_,_,h4⟩:=zpo.1 h2;have h5:v.getD c 0<31-(j:Int):=Int.not_le.1 fun g=>hc ((zkX h).2 ⟨j,h1,zpo.2 ⟨c,rfl,by omega,hck,by have:=zf2 h;omega,g⟩⟩)
  rw[show((a':Nat):Int).toNat=a' from rfl];omega
theorem prefix_end {v:List Int} {m k:Int} (h:mayP v m k=true) (hm:1≤m) (hk:1≤k) (hkl:k<v.length):(v.length:Int)-k-1∈(zai v m k).1:=by
  have hl:=zf2 h;have hc:=zsR (m:=m) hkl hm 31;have hv:=(zj9 (zgG h).1).2.2.2;obtain⟨e,he⟩:∃e:Nat,(v.length:Int)-k-1=e:=⟨((v.length:Int)-k-1).toNat,by omega⟩;refine(zkX h).2 ⟨31,by decide,zpo.2 ⟨e,he,by omega,by omega,by omega,?_⟩⟩;rw[uq,ub ya]
  have:=(hv _ (List.getElem_mem (l:=v) (n:=e) ya)).1
  show(31:Int)-((31:Nat):Int)≤_;simpa using this
section
variable {l:List Block} {m k q:Int}
theorem zjY (h:BuildOk l m k) {x:Int}:x∈zy l m k↔x∈(zai (zk l) m k).1∨(l.length:Int)-k≤x∧x<l.length:=by
  unfold zy;rw[List.mem_append];refine or_congr Iff.rfl ⟨fun hx=>?_,fun hx=>?_⟩
  · obtain⟨j,hj,rfl⟩:=List.mem_map.1 hx
    rw[List.mem_range] at hj
    have:=h.k1
    omega
  exact List.mem_map.2 ⟨(x-((l.length:Int)-k)).toNat,List.mem_range.2 (by have:=h.k1;omega),by omega⟩
theorem zpk (h:BuildOk l m k):WayOk l k (zy l m k):=by
  have hm:=zsZ h;have hlen:=zca l;have hk1:=h.k1;have hkl:=h.kl;refine⟨ze0 h,fun x hx=>zcl ⟨h.k1,h.kl⟩ hx,ud (zlL h),fun x h1 h2=>(zjY h).2 ?_,fun a ha b hb hab hn=>?_⟩
  · by_cases c:x=(l.length:Int)-k-1
    · left
      have:=prefix_end hm h.m1 h.k1 (by rw[hlen];exact h.kl)
      rw[hlen] at this;rw[c];exact this
    right;omega
  intro c hac hcb;have hcn:∀x,x∈zy l m k→x≠(c:Int):=fun x hx e=>hn x hx ya
  have hbm:=zcl ⟨h.k1,h.kl⟩ hb;by_cases hck:(c:Int)<(l.length:Int)-k
  · rcases (zjY h).1 ha with hp|hp
    · exact ztG hm hp hac (by rw[hlen];exact hck) (fun g=>hcn c ((zjY h).2 (.inl g)) rfl)
    omega
  exact absurd rfl (hcn c ((zjY h).2 (.inr ⟨by omega,by omega⟩)))
end
theorem zs5 (v:List Int) (n:Int):∀j,(∀c,zbi v n j<c→c≤j→0<n∧v.getD c 0<n)∧(zbi v n j=0∨¬(0<n∧v.getD (zbi v n j) 0<n))
  | 0=>⟨fun c h1 h2=>by have:zbi v n 0=0:=rfl;omega,.inl rfl⟩
  | j+1=>by
    by_cases h:0<n∧v.getD (j+1) 0<n
    · have e:zbi v n (j+1)=zbi v n j:=by show(if _ then _ else _)=_;rw[if_pos h]
      obtain⟨h1,h2⟩:=zs5 v n j;rw[e];refine⟨fun c g1 g2=>?_,h2⟩;by_cases z:c=j+1
      · rw[z];exact h
      exact h1 c g1 ya
    have e:zbi v n (j+1)=j+1:=by show(if _ then _ else _)=_;rw[if_neg h]
    rw[e];exact⟨fun c g1 g2=>by omega,.inr h⟩
theorem back_leads {v:List Int} {n:Int} (h0:v.getD 0 0=31) (hn:n≤31) (at_:Nat) (h1:1≤at_):zls v (zbi v n (at_-1):Nat) (at_:Nat):=by
  intro c hc1 hc2;obtain⟨h2,h3⟩:=zs5 v n (at_-1);have hc:=h2 c ya ya;rw[show((zbi v n (at_-1):Nat):Int).toNat=zbi v n (at_-1) from rfl];rcases h3 with h3|h3
  · rw[h3,h0];omega
  have:n≤v.getD (zbi v n (at_-1)) 0:=Int.not_lt.1 fun g=>h3 ⟨hc.1,g⟩
  omega
def Steps (v:List Int):List Int→Prop
  | y::x::r=>x<y∧zls v x y∧Steps v (x::r)
  | _=>True
theorem zkN {v:List Int} (h0:v.getD 0 0=31) (low:Nat):∀s at_ n:Nat,at_+n≤s→n≤31→Steps v ((at_:Int)::zfO v low at_ n)
  | 0,at_,n,h,_=>by rw[zg4 v ya];exact trivial
  | s+1,at_,n,h,hn=>by
    by_cases c:low<at_
    · by_cases d:zbi v n (at_-1)<low
      · cases n with
        | zero=>rw[zfO,dif_pos c,dif_pos d];exact trivial
        | succ n=>rw[zhI c d];exact zkN h0 low s at_ n ya ya
      rw[zhH c d];have hb:=zhu v n (at_-1);exact⟨by omega,back_leads h0 ya at_ ya,zkN h0 low s (zbi v n (at_-1)) n ya hn⟩
    rw[zg4 v c];exact trivial
theorem zp3 (v:List Int) (low:Nat):∀s at_ n:Nat,at_+n≤s→low≤at_→(low:Int)∈(at_:Int)::zfO v low at_ n
  | 0,at_,n,h,hlo=>by rw[show at_=low by omega];exact List.mem_cons_self ..
  | s+1,at_,n,h,hlo=>by
    by_cases c:low<at_
    · by_cases d:zbi v n (at_-1)<low
      · cases n with
        | zero=>rw[show((0:Nat):Int)=0 from rfl,zs3] at d;omega
        | succ n=>rw[zhI c d];exact zp3 v low s at_ n ya hlo
      rw[zhH c d];have hb:=zhu v n (at_-1);exact List.mem_cons_of_mem _ (zp3 v low s (zbi v n (at_-1)) n ya ya)
    rw[show at_=low by omega];exact List.mem_cons_self ..
theorem zp7 {v:List Int}:∀{D:List Int} {y:Int},Steps v (y::D)→∀x∈D,x<y
  | [],_,_,x,hx=>by cases hx
  | z::D,y,h,x,hx=>by
    rcases List.mem_cons.1 hx with e|hx
    · rw[e];exact h.1
    have:=zp7 h.2.2 x hx
    have:=h.1
    omega
theorem zo0 {v:List Int}:∀{D:List Int},Steps v D→∀{a b:Int},a∈D→b∈D→a<b→(∀c∈D,¬(a<c∧c<b))→zls v a b
  | [],_,a,b,ha,_,_,_=>by cases ha
  | [y],_,a,b,ha,hb,hab,_=>by rw[List.mem_singleton] at ha hb;omega
  | y::x::r,h,a,b,ha,hb,hab,hn=>by
    have hlt:=zp7 h;have hlt2:=zp7 h.2.2;rcases List.mem_cons.1 hb with e|hb
    · subst e
      rcases List.mem_cons.1 ha with e|ha
      · omega
      rcases List.mem_cons.1 ha with e|ha
      · rw[e];exact h.2.1
      exact absurd ⟨hlt2 a ha,h.1⟩ (hn x yB)
    rcases List.mem_cons.1 ha with e|ha
    · have:=hlt b hb;omega
    exact zo0 h.2.2 ha hb hab (fun c hc=>hn c (List.mem_cons_of_mem _ hc))
theorem zkj {v:List Int} {high low x:Int} (h:zaq v high low=true):x∈zay v high low↔x∈high::zfO v low.toNat high.toNat 31:=by
  unfold zay;rw[if_pos h,List.mem_reverse]
theorem zpu {v:List Int} {high low:Int} (h:zaq v high low=true):low∈zay v high low:=by
  obtain⟨_,_,_,h4,h5,h6⟩:=zdT h;rw[zkj h]
  have:=zp3 v low.toNat _ high.toNat 31 (ug _) ya
  rwa [show((low.toNat:Nat):Int)=low by omega,show((high.toNat:Nat):Int)=high by omega] at this
theorem znN {v:List Int} {high low a b:Int} (h:zaq v high low=true) (ha:a∈zay v high low) (hb:b∈zay v high low) (hab:a<b) (hn:∀c∈zay v high low,¬(a<c∧c<b)):zls v a b:=by
  obtain⟨_,_,h3,h4,h5,h6⟩:=zdT h;have h0:v.getD 0 0=31:=by rw[uq,h3];rfl
  have hs:=zkN h0 low.toNat _ high.toNat 31 (ug _) (ug _);rw[show((high.toNat:Nat):Int)=high by omega] at hs;exact zo0 hs ((zkj h).1 ha) ((zkj h).1 hb) hab (fun c hc=>hn c ((zkj h).2 hc))
section
variable {l:List Block} {m k q:Int}
theorem with_way (h:BuildOk l m k) (h0:0≤q) (h1:q<(l.length:Int)-k):WayOk l k (zc7 l m k q):=by
  have hp:=zpk h;refine⟨zmM h,fun x hx=>zmj h h0 h1 hx,zuz hp.zero,fun x g1 g2=>zuz (hp.last x g1 g2),?_⟩;by_cases c:isIn (zy l m k) q=true
  · have e:zc7 l m k q=zy l m k:=by unfold zc7 wayL;rw[if_pos c]
    rw[e];exact hp.lead
  obtain⟨x,y,hi,hx,hy,hx0,hxq,hqy,hyl⟩:=zg3 h h0 h1 c;have hk:=h.k1;have hlen:=zca l;have hmv:=zlj (ze6 h.c);have f1:zaq (zk l) y q=true:=ybW;have f2:zaq (zk l) q x=true:=ybW;have hU:∀z,z∈zc7 l m k q↔z∈zy l m k∨z∈zay (zk l) y q∨z∈zay (zk l) q x:=fun z=>by
    unfold zc7 wayL;rw[if_neg c,uq,uq,hx,hy];exact zhL.trans (or_congr Iff.rfl zhL)
  have hxP:=ud hx;have hyP:=ud hy;have hgap:=zp1 hp hx (by rw[show placeIn (zy l m k) q-1+1=placeIn (zy l m k) q by omega];exact hy);have m1:∀z∈zay (zk l) y q,q≤z∧z≤y:=fun z hz=>ziE hz
  have m2:∀z∈zay (zk l) q x,x≤z∧z≤q:=fun z hz=>ziE hz
  have q1:=zpu f1;have q2:=znO f2;have x2:=zpu f2;have y1:=znO f1;intro a ha b hb hab hn;have nx:=hn x ((hU x).2 (.inl hxP));have ny:=hn y ((hU y).2 (.inl hyP));have nq:=hn q ((hU q).2 (.inr (.inl q1)));by_cases c1:b≤x
  · have haP : a ∈ zy l m k := by
      rcases (hU a).1 ha with g|g|g
      · exact g
      · have:=m1 a g;omega
      have:=m2 a g;omega
    have hbP:b∈zy l m k:=by
      rcases (hU b).1 hb with g|g|g
      · exact g
      · have:=m1 b g;omega
      have:=m2 b g;rw[show b=x by omega];exact hxP
    exact hp.lead a haP b hbP hab (fun z hz=>hn z ((hU z).2 (.inl hz)))
  by_cases c2:y≤a
  · have haP : a ∈ zy l m k := by
      rcases (hU a).1 ha with g|g|g
      · exact g
      · have:=m1 a g;rw[show a=y by omega];exact hyP
      have:=m2 a g;omega
    have hbP:b∈zy l m k:=by
      rcases (hU b).1 hb with g|g|g
      · exact g
      · have:=m1 b g;omega
      have:=m2 b g;omega
    exact hp.lead a haP b hbP hab (fun z hz=>hn z ((hU z).2 (.inl hz)))
  by_cases c3:b≤q
  · have haF : a ∈ zay (zk l) q x := by
      rcases (hU a).1 ha with g|g|g
      · have:=hgap a g
        rw[show a=x by omega];exact x2
      · have:=m1 a g;omega
      exact g
    have hbF:b∈zay (zk l) q x:=by
      rcases (hU b).1 hb with g|g|g
      · have:=hgap b g;omega
      · have:=m1 b g;rw[show b=q by omega];exact q2
      exact g
    exact znN f2 haF hbF hab (fun z hz=>hn z ((hU z).2 (.inr (.inr hz))))
  have haF : a ∈ zay (zk l) y q := by
    rcases (hU a).1 ha with g|g|g
    · have:=hgap a g;omega
    · exact g
    have:=m2 a g;rw[show a=q by omega];exact q1
  have hbF:b∈zay (zk l) y q:=by
    rcases (hU b).1 hb with g|g|g
    · have:=hgap b g
      rw[show b=y by omega];exact y1
    · exact g
    have:=m2 b g;omega
  exact znN f1 haF hbF hab (fun z hz=>hn z ((hU z).2 (.inr (.inl hz))))
theorem zud (h:prE l m k=0):zdD (prOf l m k)=0:=by
  rw[zvY h];exact zrv (zht h) (zpk (zht h))
theorem wi_holds (h:wiE l m k q=0):zdD (wiOf l m k q)=0:=by
  obtain⟨h1,h2,h3⟩:=wi_ok h;rw[wi_is h];exact zrv (zht h1) (with_way (zht h1) h2 h3)
end
set_option maxRecDepth 20000
def wholeT (l:List Total):Total:=if h:l.length<2 then l.headD zuw else zfv (wholeT (l.take (halfN l.length))) (wholeT (l.drop (halfN l.length)))
termination_by l.length
decreasing_by
  all_goals
    have h1:=zeq l.length;have h2:=zfx (n:=l.length) ya
    first|(rw[um];omega)|(rw[List.length_drop];omega)
theorem zjF {x:Total}:wholeT [x]=x:=by rw[wholeT,dif_pos (show [x].length<2 from Nat.lt_succ_self 1)];rfl
theorem half_two {n:Nat} (h:2≤n):∃a,halfN n=2^a∧2^a<n∧n≤2^(a+1):=by
  refine⟨zaj (n-1)-1,rfl,zfx h,?_⟩;have h1:=zlm (n:=n-1) ya;have h2:=(zvZ (n-1)).1;rw[show zaj (n-1)-1+1=zaj (n-1) by omega];omega
theorem ztI {a b n:Nat} (h1:2^a<n) (h2:n≤2^(a+1)) (h3:2^b<n) (h4:n≤2^(b+1)):a=b:=by
  have e1:a<b+1:=(Nat.pow_lt_pow_iff_right (by decide:1<2)).1 (Nat.lt_of_lt_of_le h1 h4);have e2:b<a+1:=(Nat.pow_lt_pow_iff_right (by decide:1<2)).1 (Nat.lt_of_lt_of_le h3 h2);omega
theorem half_is {n a:Nat} (h1:2^a<n) (h2:n≤2^(a+1)):halfN n=2^a:=by
  have hp:=Nat.two_pow_pos a;obtain⟨b,e,h3,h4⟩:=half_two (n:=n) ya;rw[e,ztI h1 h2 h3 h4]
theorem zmO {l m:List Total} {a:Nat} (hl:l.length=2^a) (h1:1≤m.length) (h2:m.length≤2^a):wholeT (l++m)=zfv (wholeT l) (wholeT m):=by
  have hp:=Nat.two_pow_pos a;have e:halfN (l++m).length=l.length:=by
    rw[hl];exact half_is (by rw[ue];omega) (by rw[ue,Nat.pow_succ];omega)
  rw[wholeT,dif_neg (by rw[ue];omega),e,List.take_left' rfl,List.drop_left' rfl]
theorem zmN {l:List Total} (h:2≤l.length):wholeT l=zfv (wholeT (l.take (halfN l.length))) (wholeT (l.drop (halfN l.length))):=by
  conv=>lhs;rw[wholeT]
  rw[dif_neg ya]
def wsum:List Total→Nat
  | []=>0
  | x::l=>nW x.w+wsum l
theorem zpW:∀{l m:List Total},wsum (l++m)=wsum l+wsum m
  | [],m=>by simp[wsum]
  | x::l,m=>by rw[List.cons_append,wsum,wsum,zpW];omega
theorem zg1 (l:List Total) (k:Nat):wsum l=wsum (l.take k)+wsum (l.drop k):=by rw[←zpW,List.take_append_drop]
def Leafs (l:List Total):Prop:=∀x∈l,x.n=1∧x.w.length=4
theorem Leafs.take {l:List Total} {k:Nat} (h:Leafs l):Leafs (l.take k):=fun x hx=>h x (List.mem_of_mem_take hx)
theorem Leafs.drop {l:List Total} {k:Nat} (h:Leafs l):Leafs (l.drop k):=fun x hx=>h x (List.mem_of_mem_drop hx)
theorem zi7:∀(n:Nat) (l:List Total),l.length=n→1≤n→n≤1000000000000→Leafs l→(wholeT l).n=n∧(wholeT l).w.length=4∧nW (wholeT l).w=wsum l%W256:=by
  intro n
  induction n using Nat.strongRecOn with
  | ind n ih =>
    intro l hn h1 h2 hl;by_cases c:n<2
    · obtain⟨x, rfl⟩ : ∃ x, l = [x] := by
        match l,hn with
        | [x],_=>exact⟨x,rfl⟩
        | [],e=>simp at e;omega
        | _::_::_,e=>simp at e;omega
      rw[zjF];obtain⟨e1,e2⟩:=hl x yB;refine⟨by rw[e1];omega,e2,?_⟩;rw[wsum,wsum,Nat.add_zero,Nat.mod_eq_of_lt (nW_lt e2)]
    have hp:=zeq l.length;have hlt:=zfx (n:=l.length) ya;obtain⟨a1,a2,a3⟩:=ih (halfN l.length) ya (l.take (halfN l.length)) ybd ya ya hl.take;obtain⟨b1,b2,b3⟩:=ih (l.length-halfN l.length) ya (l.drop (halfN l.length)) (by rw[List.length_drop]) ya ya hl.drop;rw[zmN ya];refine⟨?_,ze9 a2 b2,?_⟩
    · show IntKind.i64.wrap (_+_)=_
      rw[a1,b1,zaz ya];omega
    show nW (addW _ _)=_;rw[zpm a2 b2,a3,b3,←Nat.add_mod,←zg1]
inductive PK:List Total→List Total→Prop
  | nil:PK [] []
  | cons {r l s:List Total} {a:Nat} (h:PK r l) (hs:s.length=2^a) (hn:(wholeT s).n=((2^a:Nat):Int)) (hr:∀y,r.head?=some y→((2^a:Nat):Int)<y.n):PK (wholeT s::r) (l++s)
theorem pk_root:∀{r l:List Total},PK r l→∀s:List Total,1≤s.length→(∀y,r.head?=some y→(s.length:Int)≤y.n)→zbQ r (wholeT s)=wholeT (l++s):=by
  intro r l h
  induction h with
  | nil=>intro s _ _;rfl
  | cons h hs hn hr ih =>
    rename_i r l t a;intro s h1 h2;have h3:=h2 _ rfl;rw[hn] at h3;rw[zbQ,←zmO hs h1 ya,ih (t++s) (by rw[ue];omega),List.append_assoc];intro y hy;have h4:=hr y hy;cases h with
    | nil=>cases hy
    | cons h' hs' hn' hr' =>
      rename_i r' l' t' b;injection hy with hy;subst hy;rw[hn'] at h4 ⊢;have h5:2^a<2^b:=ya;have h6:a+1≤b:=(Nat.pow_lt_pow_iff_right (by decide:1<2)).1 h5;have h7:2^(a+1)≤2^b:=Nat.pow_le_pow_right yn h6;rw[ue,hs];rw[Nat.pow_succ] at h7;omega
theorem pk_push:∀{r l:List Total},PK r l→∀(s:List Total) (a:Nat),s.length=2^a→(wholeT s).n=((2^a:Nat):Int)→l.length+s.length≤1000000000000→(∀y,r.head?=some y→((2^a:Nat):Int)≤y.n)→PK (zgF r (wholeT s)) (l++s):=by
  intro r l h
  induction h with
  | nil=>intro s a hs hn _ _;exact .cons .nil hs hn (fun y hy=>by cases hy)
  | cons h hs hn hr ih =>
    rename_i r l t b;intro s a hs' hn' hlen h2;have h3:=h2 _ rfl;rw[hn] at h3;rw[zgF];by_cases e:(wholeT t).n=(wholeT s).n
    · rw[if_pos e]
      have eab:2^b=2^a:=by rw[hn,hn'] at e;omega
      rw[ue] at hlen;rw[←zmO hs (by rw[hs',←eab];exact Nat.two_pow_pos b) ya,List.append_assoc];refine ih (t++s) (b+1) (by rw[ue,Nat.pow_succ];omega) ?_ (by rw[ue];omega) ?_
      · rw[zmO hs (by rw[hs',←eab];exact Nat.two_pow_pos b) ya]
        show IntKind.i64.wrap (_+_)=_;rw[hn,hn',←eab,zaz ya,Nat.pow_succ];omega
      intro y hy;have h4:=hr y hy;cases h with
      | nil=>cases hy
      | cons h' hs'' hn'' hr' =>
        rename_i r' l' t' c;injection hy with hy;subst hy;rw[hn''] at h4 ⊢;have h5:2^b<2^c:=ya;have h6:b+1≤c:=(Nat.pow_lt_pow_iff_right (by decide:1<2)).1 h5;have h7:2^(b+1)≤2^c:=Nat.pow_le_pow_right yn h6;omega
    rw[if_neg e];refine .cons (.cons h hs hn hr) hs' hn' fun y hy=>?_
    injection hy with hy;subst hy;rw[hn,hn'] at e;rw[hn];omega
theorem pk_fold:∀{L p l:List Total},PK p.reverse l→Leafs L→l.length+L.length≤1000000000000→PK (L.foldl zas p).reverse (l++L)
  | [],p,l,h,_,_=>by rw[List.append_nil];exact h
  | x::L,p,l,h,hl,hlen=>by
    rw[List.foldl_cons];rw[List.length_cons] at hlen;have h1:=(hl x yB).1;have h2:=pk_push h [x] 0 rfl (by rw[zjF,h1];rfl) (by rw[List.length_singleton];omega) (fun y hy=>by
      cases h':p.reverse with
      | nil=>rw[h'] at hy;cases hy
      | cons z r =>
        rw[h'] at h hy;injection hy with hy;subst hy;cases h with
        | cons h'' hs hn hr =>
          rename_i l' t a;rw[hn]
          have:=Nat.two_pow_pos a
          omega)
    rw[zjF] at h2;have h3:(zas p x).reverse=zgF p.reverse x:=by unfold zas;rw[List.reverse_reverse]
    rw[←h3] at h2
    have:=pk_fold (L:=L) h2 (fun y hy=>hl y yaM) (by rw[ue,List.length_singleton];omega)
    rw[List.append_assoc] at this;exact this
theorem root_whole {L:List Total} (h:Leafs L) (hne:1≤L.length) (hlen:L.length≤1000000000000):za0 (L.foldl zas [])=wholeT L:=by
  have hp:=pk_fold (p:=[]) PK.nil h (by simpa using hlen);rw[List.nil_append] at hp;unfold za0;obtain⟨q,hq⟩:∃q,q=(L.foldl zas []).reverse:=⟨_,rfl⟩;rw[←hq] at hp ⊢;cases hp with
  | nil=>simp at hne
  | cons h' hs hn hr =>
    rename_i r l s a;refine pk_root h' s (by rw[hs];exact Nat.two_pow_pos a) fun y hy=>?_
    have:=hr y hy
    omega
def spans (f m i:Nat):List (Nat×Nat×Bool) :=
  if h:m<2 then [] else
  if i<f+halfN m then spans f (halfN m) i++[(f+halfN m,m-halfN m,true)] else spans (f+halfN m) (m-halfN m) i++[(f,halfN m,false)]
termination_by m
decreasing_by
  all_goals
    have h1:=zeq m;have h2:=zfx (n:=m) ya;omega
def seg (l:List Total) (f m:Nat):List Total:=(l.drop f).take m
def zmc (l:List Total) (sp:List (Nat×Nat×Bool)):List Total:=sp.map fun s=>wholeT (seg l s.1 s.2.1)
def chkF:List (Nat×Nat×Bool)→List Total→Total→Wide→Option (Total×Wide)
  | s::sp,x::p,cur,ah=>if zfU cur.w x.w=false∨x.n≠(s.2.1:Int) then none else if s.2.2=true then chkF sp p (zfv cur x) ah else chkF sp p (zfv x cur) (addW ah x.w)
  | _,_,cur,ah=>some (cur,ah)
theorem zmD:∀{sp sq:List (Nat×Nat×Bool)} {p q:List Total} {cur:Total} {ah:Wide},sp.length=p.length→chkF (sp++sq) (p++q) cur ah=(chkF sp p cur ah).bind fun c=>chkF sq q c.1 c.2
  | [],sq,[],q,cur,ah,_=>rfl
  | s::sp,sq,x::p,q,cur,ah,h=>by
    rw[List.cons_append,List.cons_append,chkF,chkF]
    split
    · rfl
    split
    · exact zmD (by simpa using h)
    exact zmD (by simpa using h)
theorem zna {l:List Total} {f m:Nat} (h:f+m≤l.length):(seg l f m).length=m:=by unfold seg;rw[um,List.length_drop];omega
theorem zuR {l:List Total} {f m k:Nat} (h:k≤m):(seg l f m).take k=seg l f k:=by unfold seg;rw[List.take_take,Nat.min_eq_left h]
theorem zuS {l:List Total} {f m k:Nat}:(seg l f m).drop k=seg l (f+k) (m-k):=by unfold seg;rw[List.drop_take,List.drop_drop]
theorem Leafs.seg {l:List Total} {f m:Nat} (h:Leafs l):Leafs (seg l f m):=h.drop.take
theorem zpV {l:List Total} {f m k:Nat} (h:k≤m):wsum (seg l f m)=wsum (seg l f k)+wsum (seg l (f+k) (m-k)):=by rw[zg1 (seg l f m) k,zuR h,zuS]
theorem seg_le {l:List Total} {f m:Nat}:wsum (seg l f m)≤wsum l:=by
  have h1:=zg1 l f;have h2:=zg1 (l.drop f) m;unfold seg;omega
theorem way_up {l:List Total} {i:Nat} (hl:Leafs l) (hlen:l.length≤1000000000000) (hw:wsum l<W256) {x:Total} (hx:l[i]?=some x):∀(m f:Nat),1≤m→f+m≤l.length→f≤i→i<f+m→
    ∃w,chkF (spans f m i) (zmc l (spans f m i)) x zav=some (wholeT (seg l f m),w)∧w.length=4∧nW w=wsum (seg l f (i-f)):=by
  intro m
  induction m using Nat.strongRecOn with
  | ind m ih =>
    intro f h1 h2 h3 h4;by_cases c:m<2
    · have hm:m=1:=by omega
      have hfi:f=i:=ya;subst hm;subst hfi;rw[spans,dif_pos yn];refine⟨zav,?_,rfl,?_⟩
      · have e : seg l f 1 = [x] := by
          unfold seg;obtain⟨hk,rfl⟩:=ul.1 hx;rw[List.drop_eq_getElem_cons hk];rfl
        rw[e,zjF];rfl
      rw[Nat.sub_self];unfold seg;rw[List.take_zero,wsum];exact zk0
    have hp:=zeq m;have hlt:=zfx (n:=m) ya;have hsl:=zna (l:=l) h2;have hcut:=zmN (l:=seg l f m) ya;rw[hsl,zuR ya,zuS] at hcut;obtain⟨a1,a2,a3⟩:=zi7 (halfN m) (seg l f (halfN m)) (zna ya) ya ya hl.seg;obtain⟨b1,b2,b3⟩:=zi7 (m-halfN m) (seg l (f+halfN m) (m-halfN m)) (zna ya) ya ya hl.seg;have hle:=seg_le (l:=l) (f:=f) (m:=m);have hws:=zpV (l:=l) (f:=f) (m:=m) (k:=halfN m) ya;rw[Nat.mod_eq_of_lt ya] at a3 b3;have hok:zfU (wholeT (seg l f (halfN m))).w (wholeT (seg l (f+halfN m) (m-halfN m))).w=true:=(znr a2 b2).2.2 ya;have hok':zfU (wholeT (seg l (f+halfN m) (m-halfN m))).w (wholeT (seg l f (halfN m))).w=true:=(znr b2 a2).2.2 ya;rw[spans,dif_neg c];by_cases d:i<f+halfN m
    · rw[if_pos d]
      obtain⟨w,g1,g2,g3⟩:=ih (halfN m) ya f ya ya h3 d;refine⟨w,?_,g2,g3⟩;unfold zmc at g1 ⊢;rw[List.map_append,zmD (by rw[List.length_map]),g1];show chkF _ _ (wholeT (seg l f (halfN m))) w=_;simp only[List.map_cons,List.map_nil,chkF];rw[if_neg (by rw[hok,b1];simp),if_pos trivial,hcut]
    rw[if_neg d];obtain⟨w,g1,g2,g3⟩:=ih (m-halfN m) ya (f+halfN m) ya ya ya ya;refine⟨addW w (wholeT (seg l f (halfN m))).w,?_,ze9 g2 a2,?_⟩
    · unfold zmc at g1 ⊢
      rw[List.map_append,zmD (by rw[List.length_map]),g1];show chkF _ _ (wholeT (seg l (f+halfN m) (m-halfN m))) w=_;simp only[List.map_cons,List.map_nil,chkF];rw[if_neg (by rw[hok',a1];simp),if_neg yB,hcut]
    have h5:=zpV (l:=l) (f:=f+halfN m) (m:=m-halfN m) (k:=i-(f+halfN m)) ya;have h6:=zpV (l:=l) (f:=f) (m:=i-f) (k:=halfN m) ya;rw[show i-f-halfN m=i-(f+halfN m) by omega] at h6;rw[zpm g2 a2,g3,a3,h6,Nat.mod_eq_of_lt ya];omega
theorem ofW_n (x:UInt64):nW (ofW x)=x.toNat:=by
  show nW [x,0,0,0]=_;unfold nW;simp
theorem snotW_n {t:Wide} (ht:t.length=4):nW [~~~ t.getD 0 default,~~~ t.getD 1 default,~~~ t.getD 2 default,~~~ t.getD 3 default]=W256-1-nW t:=by
  obtain⟨a0,a1,a2,a3,rfl⟩:=zl4 ht;have e:∀x:UInt64,(~~~ x).toNat=18446744073709551615-x.toNat:=fun x=>by rw[UInt64.toNat_not];rfl
  have h0:a0.toNat<18446744073709551616:=a0.toNat_lt;have h1:a1.toNat<18446744073709551616:=a1.toNat_lt;have h2:a2.toNat<18446744073709551616:=a2.toNat_lt;have h3:a3.toNat<18446744073709551616:=a3.toNat_lt;unfold nW W256;simp only[List.getD_cons_zero,List.getD_cons_succ,e];omega
theorem ztn {t:Wide} (ht:t.length=4) (h:32768≤nW t):(zpY t).length=4∧1≤nW (zpY t)∧nW (zpY t)≤2^241:=by
  have l1:(ofW 1).length=4:=rfl;have h1:nW (ofW 1)=1:=rfl;unfold zpY;by_cases c:zfU t (ofW 1)=true
  · rw[if_pos c]
    obtain⟨n1,n2⟩:=znr ht l1;have hlt:=n2.1 c;rw[h1] at n1 hlt;rw[Nat.mod_eq_of_lt hlt] at n1;have nl:=ze9 ht l1;have hz:addW t (ofW 1)≠zav:=fun e=>by rw[e,zk0] at n1;omega
    obtain⟨e1,e2,e3,_⟩:=nW_div (a:=[~~~ t.getD 0 default,~~~ t.getD 1 default,~~~ t.getD 2 default,~~~ t.getD 3 default]) rfl nl hz;rw[snotW_n ht,n1] at e3;have hd:(W256-1-nW t)/(nW t+1)≤(2^256-1)/32768:=by
      refine Nat.le_trans (Nat.div_le_div_right (c:=nW t+1) (show W256-1-nW t≤2^256-1 by have:W256=2^256:=rfl;omega)) ?_;exact Nat.div_le_div_left ya yn
    have hk:(2^256-1)/32768=2^241-1:=yn;rw[hk] at hd;obtain⟨D,hD⟩:∃D,D=(W256-1-nW t)/(nW t+1):=⟨_,rfl⟩;rw[←hD] at hd e3;have hW:2^241<W256:=yn;refine⟨ze9 e1 l1,?_,?_⟩<;>rw[zpm e1 l1,e3,h1,Nat.mod_eq_of_lt ya]<;>omega
  rw[if_neg c];exact⟨rfl,by rw[h1];exact ug _,by rw[h1];decide⟩
theorem tgt_low {bits:UInt32} (h:za6 bits=true):(tgtW bits).length=4∧32768≤nW (tgtW bits):=by
  unfold tgtW;rw[if_pos h];unfold za6 at h;obtain⟨h1,h2,h3,h4⟩:=of_decide_eq_true h;refine⟨upW_len rfl,?_⟩;obtain⟨k,hk⟩:∃k:Nat,8*(tgtE bits-3)=(k:Int):=⟨(8*(tgtE bits-3)).toNat,by omega⟩;rw[hk,nW_up rfl ya,ofW_n];have hle:2^k≤2^232:=Nat.pow_le_pow_right yn ya;have hp:=Nat.two_pow_pos k;have hm:(tgtM bits).toNat*2^k≤8388607*2^232:=Nat.mul_le_mul ya hle;rw[Nat.mod_eq_of_lt (Nat.lt_of_le_of_lt hm yn)]
  have:=Nat.mul_le_mul (ug (tgtM bits).toNat) hp
  omega
theorem zfw {h:Head} (ho:za6 h.bits=true):(zcb h).length=4∧1≤nW (zcb h)∧nW (zcb h)≤2^241:=by
  unfold zcb;rw[if_pos ho];exact ztn (tgt_low ho).1 (tgt_low ho).2
theorem zlk {l:List Block} {t:Tip} (h:Chain l t):∀b∈l,za6 b.h.bits=true:=by
  have hg:∀g,l[0]?=some g→za6 g.h.bits=true:=fun g hg=>by
    cases hc:za6 g.h.bits with
    | true=>rfl
    | false =>
      cases l with
      | nil=>cases hg
      | cons x r =>
        injection hg with hg;subst hg;unfold Chain zM at h;simp only[] at h;rw[if_neg (by rw[hc];simp)] at h;injection h with _ h;exact absurd h yn
  intro b hb;obtain⟨i,hi⟩:=List.mem_iff_getElem?.1 hb;obtain⟨hlt,_⟩:=ul.1 hi;cases i with
  | zero=>exact hg b hi
  | succ i =>
    obtain⟨g,hg0⟩:∃g,l[0]?=some g:=yo;obtain⟨a,ha⟩:∃a,l[i]?=some a:=yo;rw[(zb5 h (i:=i+1) ya hi (by simpa using ha) hg0).2.2.2.2.2.1];exact hg g hg0
theorem zjw {l:List Block} {t:Tip} (h:Chain l t):Leafs (zQ l):=fun x hx=>by
  obtain⟨b,hb,rfl⟩:=List.mem_map.1 hx;exact⟨rfl,(zfw (zlk h b hb)).1⟩
theorem zoV {M:Nat}:∀{l:List Total},(∀x∈l,nW x.w≤M)→wsum l≤l.length*M
  | [],_=>by simp[wsum]
  | x::l,h=>by
    have h1:=zoV (M:=M) (l:=l) fun y hy=>h y yaM
    have h2:=h x yB;rw[wsum,List.length_cons,Nat.add_mul,Nat.one_mul];omega
theorem zuy {x:Total}:∀{l:List Total},x∈l→nW x.w≤wsum l
  | y::l,h=>by
    rw[wsum];rcases List.mem_cons.1 h with rfl|h
    · omega
    have:=zuy (l:=l) h;omega
theorem zli {l:List Block} {t:Tip} (h:Chain l t):wsum (zQ l)<W256:=by
  have h1:=zoV (M:=2^241) (l:=zQ l) fun x hx=>by
    obtain⟨b,hb,rfl⟩:=List.mem_map.1 hx;exact(zfw (zlk h b hb)).2.2
  have h2:=(zch h).2.2.1;have h3:(zQ l).length=l.length:=by unfold zQ;rw[List.length_map]
  rw[h3] at h1;have h4:l.length*2^241≤48*2^241:=Nat.mul_le_mul_right _ h2;have h5:48*2^241<W256:=yn;omega
theorem zhs {l:List Block} {t:Tip} {n:Nat} (h:Chain l t) (hn:l.length=n+2):t.b.h.height=(n+1:Nat)∧t.b.h.past=(wholeT (zQ (l.take (n+1)))).h∧t.b.h.work=(wholeT (zQ (l.take (n+1)))).w∧(wholeT (zQ (l.take (n+1)))).n=(n+1:Nat)∧
    t.b.h.work.length=4∧nW t.b.h.work=wsum (zQ (l.take (n+1)))∧1≤nW t.b.h.work∧zat t.b.h=true∧l[n+1]?=some t.b:=by
  have hlast:l[n+1]?=some t.b:=by
    have:=(zch h).1
    rw[List.getLast?_eq_getElem?,hn] at this;exact this
  obtain⟨g,hg0⟩:∃g,l[0]?=some g:=yo;obtain⟨a,ha⟩:∃a,l[n]?=some a:=yo;obtain⟨c1,c2,c3,c4,c5,c6,c7,c8⟩:=zb5 h (i:=n+1) ya hlast (by simpa using ha) hg0;rw[←zcE] at c3 c4;have hL:Leafs (zQ (l.take (n+1))):=by rw[zcE];exact(zjw h).take
  have hlen:(zQ (l.take (n+1))).length=n+1:=by unfold zQ;rw[List.length_map,um];omega
  have h48:=(zch h).2.2.1;have hr:=root_whole hL ya ya;rw[hr] at c3 c4;obtain⟨w1,w2,w3⟩:=zi7 (n+1) _ hlen ya ya hL;have hlt:=zli h;have hcut:=zg1 (zQ l) (n+1);rw[←zcE] at hcut;have hmod:wsum (zQ (l.take (n+1)))%W256=wsum (zQ (l.take (n+1))):=Nat.mod_eq_of_lt ya;refine⟨c1,c3,c4,w1,by rw[c4];exact w2,by rw[c4,w3,hmod],?_,c8,hlast⟩;rw[c4,w3,hmod];have hm:zbA a.h∈zQ (l.take (n+1)):=by
    refine List.mem_map.2 ⟨a,ud (i:=n) ?_,rfl⟩;rw[List.getElem?_take,if_pos ya];exact ha
  have h1:=zuy hm;have h2:=(zfw (zlk h a (ud ha))).2.1;have h3:(zbA a.h).w=zcb a.h:=rfl;rw[h3] at h1;omega
def znn (seed:Ab.Id) (below:Wide) (i:Nat):Wide:=remW (ziS (zfr ([7]++seed++[zbH (i:Int)]))) below
def zb8 (seed:Ab.Id) (below:Wide) (n:Int):List Wide:=if 1≤n∧n≤20∧below≠zav then (List.range n.toNat).map (znn seed below) else []
theorem of32W_len (b:Ab.Id):(ziS b).length=4:=by
  have h:∀k,(zsg b k).length=4:=fun k=>by
    induction k with
    | zero=>rfl
    | succ k ih=>unfold zsg;rw[zdU];unfold of32S;rw[List.length_set];exact ih
  exact h 32
theorem pickN_lt {seed:Ab.Id} {below:Wide} {i:Nat} (hb:below.length=4) (hz:below≠zav):(znn seed below i).length=4∧nW (znn seed below i)<nW below:=by
  obtain⟨_,d2,_,d4⟩:=nW_div (a:=ziS (zfr ([7]++seed++[zbH (i:Int)]))) (of32W_len _) hb hz;exact⟨d2,by unfold znn;rw[d4];exact Nat.mod_lt _ (nW_pos hb hz)⟩
theorem zsd {seed:Ab.Id} {below:Wide} {n:Int} (h:1≤n∧n≤20∧below≠zav):((zb8 seed below n).length:Int)=n:=by unfold zb8;rw[if_pos h,List.length_map,List.length_range];omega
theorem picks_le {seed:Ab.Id} {below:Wide} {n:Int}:(zb8 seed below n).length≤20:=by
  unfold zb8
  split
  · rw[List.length_map,List.length_range];omega
  simp
theorem picks_at {seed:Ab.Id} {below:Wide} {n:Int} {i:Nat} {w:Wide} (h:(zb8 seed below n)[i]?=some w):w=znn seed below i∧below≠zav∧(i:Int)<n:=by
  unfold zb8 at h
  split at h
  · rename_i c
    rw[List.getElem?_map] at h;obtain⟨hi,_⟩:∃hi:i<n.toNat,True:=by
      refine⟨?_,trivial⟩;refine Nat.lt_of_not_le fun hle=>?_
      rw[List.getElem?_eq_none (by rw[List.length_range];exact hle)] at h;cases h
    rw[List.getElem?_range hi] at h;injection h with h;exact⟨h.symm,c.2.2,by omega⟩
  cases h
def locF (w:Wide):List Total→Wide→Nat→Int
  | [],_,_=>-1
  | x::l,s,i=>if zfU s x.w=false then -1 else if 0<cmpW (addW s x.w) w then (i:Int) else locF w l (addW s x.w) (i+1)
def zoH (l:List Total) (w:Wide):Int:=locF w l zav 0
def Ws (l:List Total):Prop:=∀x∈l,x.w.length=4
theorem cmp_pos {a b:Wide} (ha:a.length=4) (hb:b.length=4):0<cmpW a b↔nW b<nW a:=by
  rw[cmpW_n ha hb]
  split
  · constructor<;>intro h<;>omega
  split<;>constructor<;>intro h<;>omega
theorem cmp_neg {a b:Wide} (ha:a.length=4) (hb:b.length=4):cmpW a b<0↔nW a<nW b:=by
  rw[cmpW_n ha hb]
  split
  · constructor<;>intro h<;>omega
  split<;>constructor<;>intro h<;>omega
theorem zsj {w:Wide} (hw:w.length=4):∀(l:List Total) (s:Wide) (i:Nat),Ws l→s.length=4→nW s≤nW w→(locF w l s i = -1∧(nW s+wsum l<W256→nW s+wsum l≤nW w))∨∃k,k<l.length∧locF w l s i=((i+k:Nat):Int)∧nW s+wsum (l.take k)≤nW w∧nW w<nW s+wsum (l.take (k+1))∧nW s+wsum (l.take (k+1))<W256
  | [],s,i,_,_,hs=>.inl ⟨rfl,fun _=>by rw[wsum];omega⟩
  | x::l,s,i,hl,h4,hs=>by
    have hx:=hl x yB;obtain⟨a1,a2⟩:=znr h4 hx;rw[locF];by_cases c:zfU s x.w=false
    · rw[if_pos c]
      refine .inl ⟨rfl,fun h=>?_⟩;rw[wsum] at h
      have:=a2.2 ya
      rw[c] at this;cases this
    rw[if_neg c];have c':zfU s x.w=true:=by cases e:zfU s x.w with|true=>rfl|false=>exact absurd e c
    have hlt:=a2.1 c';rw[Nat.mod_eq_of_lt hlt] at a1;have hal:=ze9 h4 hx;by_cases d:0<cmpW (addW s x.w) w
    · rw[if_pos d]
      have:=(cmp_pos hal hw).1 d
      refine .inr ⟨0,by simp,rfl,?_,?_,?_⟩
      · rw[List.take_zero,wsum];omega
      · rw[List.take_succ_cons,List.take_zero,wsum,wsum];omega
      rw[List.take_succ_cons,List.take_zero,wsum,wsum];omega
    rw[if_neg d];have h5:¬nW w<nW (addW s x.w):=fun h=>d ((cmp_pos hal hw).2 h)
    rcases zsj hw l (addW s x.w) (i+1) (fun y hy=>hl y yaM) hal ya with ⟨g1,g2⟩|⟨k,g1,g2,g3,g4,g5⟩
    · refine .inl ⟨g1,fun h=>?_⟩
      rw[wsum] at h ⊢
      have:=g2 ya
      omega
    refine .inr ⟨k+1,by simp;omega,by rw[g2];congr 1;omega,?_,?_,?_⟩
    · rw[List.take_succ_cons,wsum];omega
    · rw[List.take_succ_cons,wsum];omega
    rw[List.take_succ_cons,wsum];omega
theorem loc_spec {l:List Total} {w:Wide} (hw:w.length=4) (hl:Ws l):(zoH l w = -1∧(wsum l<W256→wsum l≤nW w))∨∃k,k<l.length∧zoH l w=(k:Int)∧wsum (l.take k)≤nW w∧nW w<wsum (l.take (k+1))∧wsum (l.take (k+1))<W256:=by
  have h:=zsj hw l zav 0 hl rfl (by rw[zk0];exact uf _);rw[zk0] at h;unfold zoH;simpa using h
end Go.Proofs.YticippfoekpkhaaGreat
