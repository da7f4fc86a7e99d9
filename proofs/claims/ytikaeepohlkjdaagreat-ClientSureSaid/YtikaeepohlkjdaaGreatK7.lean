/- Parts of the proof: the layer that reads Go values as data, and what the functions of the program tell. -/
import Derived.Test.YtikaeepohlkjdaaGreatK6
set_option linter.unusedVariables false
set_option linter.unusedSimpArgs false
set_option maxRecDepth 20000
namespace Go.Proofs.YtikaeepohlkjdaaGreat
open Go.Ab Go.RowKit
theorem ztJ {L:List Int} (hL:L.Pairwise (· < ·)) (y:Int):∀lo hi,lo≤hi→hi≤L.length→(∀j x,L[j]?=some x→j<lo→x<y)→(∀j x,L[j]?=some x→hi≤j→y≤x)→
    halves (fun x=>x-y) L lo hi≤L.length∧(∀j x,L[j]?=some x→j<halves (fun x=>x-y) L lo hi→x<y)∧(∀j x,L[j]?=some x→halves (fun x=>x-y) L lo hi≤j→y≤x):=by
  intro lo hi
  induction lo,hi using halves.induct (fun x=>x-y) L with
  | case1 lo hi hlt hx =>
    intro _ h2 _ _;rw[ub yc] at hx;cases hx
  | case2 lo hi hlt x hx hc ih =>
    intro h1 h2 h3 h4;rw[ziK hlt hx hc];refine ih yc h2 (fun j z hz hj=>?_) h4;by_cases e:j=(lo+hi)/2
    · subst e;rw[hx] at hz;injection hz with hz;omega
    have:=(zdM hL hz hx).2 yc;omega
  | case3 lo hi hlt x hx hc ih =>
    intro h1 h2 h3 h4;rw[ziL hlt hx hc];refine ih yc yc h3 (fun j z hz hj=>?_);by_cases e:j=(lo+hi)/2
    · subst e;rw[hx] at hz;injection hz with hz;omega
    have:=(zdM hL hx hz).2 yc;omega
  | case4 lo hi hlt =>
    intro h1 h2 h3 h4;have e:hi=lo:=yc;subst e;rw[zcr];exact⟨h2,h3,h4⟩
def placeIn (L:List Int) (q:Int):Nat:=halves (fun x=>x-q) L 0 L.length
def isIn (L:List Int) (q:Int):Bool:=zfy (fun x=>x-q) L (placeIn L q)
theorem bsPl_ok (L:List Int) (q:Int) (hl:L.length<4611686018427387904):Tells P 94 [.val (bsl i64T) L,.val i64T q] (.tup2 (.val i64T (placeIn L q:Nat)) (.val zm (isIn L q))):=bsInt_ok L q hl
theorem zmB {L:List Int} (hL:L.Pairwise (· < ·)) (q:Int):placeIn L q≤L.length∧(∀j x,L[j]?=some x→j<placeIn L q→x<q)∧(∀j x,L[j]?=some x→placeIn L q≤j→q≤x) :=
  ztJ hL q 0 L.length (uf _) (ug _) (fun j x _ h=>absurd h (Nat.not_lt_zero _)) (fun j x hx h=>by rw[List.getElem?_eq_none h] at hx;cases hx)
theorem zwQ {L:List Int} (hL:L.Pairwise (· < ·)) (q:Int):isIn L q=true↔q∈L:=by
  obtain⟨h1,h2,h3⟩:=zmB hL q;unfold isIn zfy
  constructor
  · intro h
    cases hx:L[placeIn L q]? with
    | none=>rw[hx] at h;cases h
    | some x =>
      rw[hx] at h;have h5:x-q=0:=of_decide_eq_true h;have e:x=q:=yc;rw[←e];exact ud hx
  intro h;obtain⟨j,hj⟩:=List.getElem?_of_mem h;have hnl:¬j<placeIn L q:=fun c=>by have:=h2 j q hj c;omega
  have hjl:=(ul.1 hj).1;obtain⟨x,hx⟩:∃x,L[placeIn L q]?=some x:=yv;have hqx:=h3 _ x hx (ug _)
  have:x=q:=by
    by_cases e:placeIn L q=j
    · rw[e,hj] at hx;injection hx with hx;exact hx.symm
    have:=(zdM hL hx hj).2 yc;omega
  rw[hx];exact ui (show x-q=0 by omega)
def wayL (v L:List Int) (q:Int):List Int:=if isIn L q=true then L else zjK L (zjK (zaC v (L.getD (placeIn L q) 0) q) (zaC v q (L.getD (placeIn L q-1) 0)))
def zb0 (l:List Block) (m k q:Int):List Int:=wayL (zo l) (zE l m k) q
def wiE (l:List Block) (m k q:Int):Int:=if ¬prE l m k=0 then prE l m k else if q<0∨(l.length:Int)-k≤q then 1 else 0
def wiOf (l:List Block) (m k q:Int):Proof:=if wiE l m k q=0 then ⟨m,k,(zb0 l m k q).map (zaN l)⟩ else zbL
theorem zsK {l:List Block} {m k q:Int} (h:¬wiE l m k q=0):wiOf l m k q=zbL:=by unfold wiOf;rw[ur h]
section
variable {l:List Block} {m k q:Int}
theorem zf8 (h:BuildOk l m k) (h0:0≤q) (h1:q<(l.length:Int)-k) (hn:¬isIn (zE l m k) q=true) :
    ∃x y,1≤placeIn (zE l m k) q∧(zE l m k)[placeIn (zE l m k) q-1]?=some x∧(zE l m k)[placeIn (zE l m k) q]?=some y∧0≤x∧x<q∧q<y∧y<l.length:=by
  have hr:=zfI h;obtain⟨p1,p2,p3⟩:=zmB hr q;rw[zwQ hr] at hn;have hf:=zmA h;have hl:=zu4 h;have hk:=h.k1;have hi:1≤placeIn (zE l m k) q:=Nat.pos_of_ne_zero fun e=>by
    have:=p3 0 0 hf yc
    exact hn (by rw[show q=0 by omega];exact ud hf)
  have hne:(zE l m k).length≠0:=fun e=>by rw[List.length_eq_zero_iff.1 e] at hf;cases hf
  have hi2:placeIn (zE l m k) q<(zE l m k).length:=Nat.lt_of_not_le fun c=>by
    have:=p2 _ _ hl yc
    omega
  obtain⟨x,hx⟩:∃x,(zE l m k)[placeIn (zE l m k) q-1]?=some x:=yv;obtain⟨y,hy⟩:∃y,(zE l m k)[placeIn (zE l m k) q]?=some y:=⟨_,ub hi2⟩;have hx1:=p2 _ x hx yc;have hy1:=p3 _ y hy (ug _);have hy2:y≠q:=fun e=>hn (by rw[←e];exact ud hy)
  have hxm:=zdn ⟨h.k1,h.kl⟩ (ud hx);have hym:=zdn ⟨h.k1,h.kl⟩ (ud hy);exact⟨x,y,hi,hx,hy,hxm.1,hx1,by omega,hym.2⟩
theorem zkf (L:List Int) (x:Int):x∈zR L↔x∈L:=by
  refine zkx (p:=fun L=>x∈zR L↔x∈L) Iff.rfl (fun L y ih=>?_) L;show x∈zR (L++[y])↔x∈L++[y];rw[zfm];unfold cstep
  split
  · rename_i c
    rw[ih,List.mem_append,List.mem_singleton];refine⟨.inl,fun h=>h.elim id fun e=>?_⟩;rw[e,←ih] at *;rw[zmK] at c;exact List.mem_of_getLast? c
  rw[List.mem_append,ih,List.mem_append]
theorem zf9 {a b:List Int} {x:Int}:x∈zjK a b↔x∈a∨x∈b:=by
  unfold zjK;rw[zkf,zne,List.mem_append]
theorem zpT (L:List Int) (h:L.Pairwise fun a b=>a≤b):(zR L).Pairwise (· < ·):=by
  revert h;refine zkx (p:=fun L=>(L.Pairwise fun a b=>a≤b)→(zR L).Pairwise (· < ·)) (fun _=>List.Pairwise.nil) (fun L y ih h=>?_) L;rw[List.pairwise_append] at h;have hi:=ih h.1;rw[zfm];unfold cstep
  split
  · exact hi
  rename_i c;rw[List.pairwise_append];refine⟨hi,List.pairwise_singleton ..,fun a ha b hb=>?_⟩;rw[List.mem_singleton] at hb;subst hb;have h1:=h.2.2 a ((zkf L a).1 ha) b (List.mem_singleton.2 rfl);have hne:zR L≠[]:=fun e=>by rw[e] at ha;cases ha
  obtain⟨z,hz⟩:∃z,(zR L).getLast?=some z:=⟨_,List.getLast?_eq_some_getLast hne⟩;have hzm:z∈L:=(zkf L z).1 (List.mem_of_getLast? hz);have h2:=h.2.2 z hzm b (List.mem_singleton.2 rfl);have hzb:z≠b:=fun e=>c (by rw[hz,e])
  have h3:a≤z:=by
    obtain⟨i,hi'⟩:=List.getElem?_of_mem ha;rw[List.getLast?_eq_getElem?] at hz;have hil:=(ul.1 hi').1;by_cases e:i=(zR L).length-1
    · rw[←e,hi'] at hz;injection hz with hz;omega
    have:=(zdM hi hi' hz).2 yc;omega
  omega
theorem zsR (a b:List Int):(zjK a b).Pairwise (· < ·):=zpT _ (zhA _)
theorem zrc (v:List Int) (low:Nat):∀s at_ n,at_+n≤s→low≤at_→∀x∈zgG v low at_ n,(low:Int)≤x∧x<at_
  | 0,at_,n,h,_,x,hx=>by rw[zhw v yc] at hx;cases hx
  | s+1,at_,n,h,hlo,x,hx=>by
    by_cases c:low<at_
    · by_cases d:zbB v n (at_-1)<low
      · cases n with
        | zero=>rw[zgG,dif_pos c,dif_pos d] at hx;cases hx
        | succ n=>rw[zio c d] at hx;exact zrc v low s at_ n yc hlo x hx
      rw[zin c d] at hx;have hb:=zh0 v n (at_-1);rcases List.mem_cons.1 hx with e|hx
      · rw[e];omega
      have:=zrc v low s (zbB v n (at_-1)) n yc yc x hx;omega
    rw[zhw v c] at hx;cases hx
theorem zjj {v:List Int} {high low x:Int} (h:x∈zaC v high low):low≤x∧x≤high:=by
  unfold zaC at h
  split at h
  · rename_i c
    obtain⟨_,h2,_,h4,h5,h6⟩:=zez c;rw[List.mem_reverse] at h;rcases List.mem_cons.1 h with e|h
    · rw[e];omega
    have:=zrc v low.toNat _ high.toNat 31 (ug _) yc x h;omega
  cases h
theorem zj7 {v:List Int} {high low:Int} (h:zao v high low=true):high∈zaC v high low:=by
  unfold zaC;rw[ut h,List.mem_reverse];exact List.mem_cons_self ..
theorem way_len (L:List Int) (v:List Int) (q:Int):(wayL v L q).length≤L.length+402:=by
  unfold wayL
  split
  · omega
  have h1:=znG L (zjK (zaC v (L.getD (placeIn L q) 0) q) (zaC v q (L.getD (placeIn L q-1) 0)));have h2:=znG (zaC v (L.getD (placeIn L q) 0) q) (zaC v q (L.getD (placeIn L q-1) 0));have h3:=zfY v (L.getD (placeIn L q) 0) q;have h4:=zfY v q (L.getD (placeIn L q-1) 0);omega
theorem zkp (h:BuildOk l m k) (h0:0≤q) (h1:q<(l.length:Int)-k) {x:Int} (hx:x∈zb0 l m k q):0≤x∧x<l.length:=by
  unfold zb0 wayL at hx
  split at hx
  · exact zdn ⟨h.k1,h.kl⟩ hx
  rename_i c;obtain⟨a,b,hi,ha,hb,h2,h3,h4,h5⟩:=zf8 h h0 h1 c;rw[uq,uq,ha,hb,zf9,zf9] at hx;rcases hx with hx|hx|hx
  · exact zdn ⟨h.k1,h.kl⟩ hx
  · have:q≤x∧x≤b:=zjj hx;omega
  have:a≤x∧x≤q:=zjj hx;omega
theorem znA (h:BuildOk l m k):(zb0 l m k q).Pairwise (· < ·):=by
  unfold zb0 wayL
  split
  · exact zfI h
  exact zsR ..
theorem zv4 {x:Int} (hx:x∈zE l m k):x∈zb0 l m k q:=by
  unfold zb0 wayL
  split
  · exact hx
  exact zf9.2 (.inl hx)
theorem with_it (h:BuildOk l m k) (h0:0≤q) (h1:q<(l.length:Int)-k):q∈zb0 l m k q:=by
  unfold zb0 wayL
  split
  · rename_i c
    exact(zwQ (zfI h) q).1 c
  rename_i c;obtain⟨a,b,hi,ha,hb,h2,h3,h4,h5⟩:=zf8 h h0 h1 c;rw[uq,uq,ha,hb];refine zf9.2 (.inr (zf9.2 (.inr (zj7 ?_))));unfold zao;rw[zju (zdr h.c),ui];rfl;have hk:=h.k1;show 0≤a∧a≤q∧q<((zo l).length:Int);rw[zcb];omega
end
def zu0:GoT (List Block×Int×Int×List Int×List Int):=zbv (bsl zL) (zbv i64T (zbv i64T (zbv (sl i64T) (sl i64T))))
theorem zvh {l:List Block} {m k:Int} {v p:List Int}:zlC zu0 (l,m,k,v,p) [.val (bsl zL) l,.val i64T m,.val i64T k,.val (sl i64T) v] i64T p:=zgi (zgi (zgi (zgi zov)))
theorem zri {l:List Block} {m k:Int} {v p:List Int}:zdL zu0 (l,m,k,v,p) [.val (bsl zL) l,.val i64T m,.val i64T k,.val (sl i64T) v,.val (sl i64T) p]:=zaB zaz (zaB zaz (zaB zaz (zaB zaz zaz)))
theorem prWith_ok (l:List Block) (m k q:Int) (hl:zia l):Tells P 42 [.val (bsl zL) l,.val i64T m,.val i64T k,.val i64T q] (.tup2 (.val zac (wiOf l m k q)) (.val i64T (wiE l m k q))):=by
 have hll:=hl.1;refine zc Tryz.func42 rfl rfl rfl (fun ext w hext=>?_);refine ze (d:=0) rfl zk (fun hsl0=>?_);refine ze (d:=1) rfl zt (fun hin1=>?_);refine ze (d:=2) rfl zt (fun hin2=>?_);refine ze (d:=3) rfl zt (fun hin3=>?_);refine CQR ?_;refine qby ?_;refine qag ?_;refine qao ?_;refine zU rfl rfl rfl rfl Tryz.func93 fn_93 rfl rfl (fun ia1 iok1=>?_);refine qaq ?_;refine qaj ?_;refine A0 (oCl (zlk l hl) rfl fn_21 yf) ?_;refine qa5 ?_;refine qag ?_;refine qbk ?_;refine zn (p:=¬(zH l).2=0) rfl yH (fun ht18=>?_) (fun ht18=>?_)
 ·
  refine qa4 ?_;refine A0 aL ?_;refine qad ?_;refine zc0 rfl ?_;refine A0 yw ?_;refine qaa ?_;refine qa0 ?_;refine zgz rfl (by simp;exact ht18) ?_;refine CQR ?_;refine xE ?_;refine qbG ?_;exact zq rfl rfl (zl rfl rfl zaR (by rw[zsK (by unfold wiE prE;rw[ut ht18,ut ht18];exact ht18)])) (zT (za rfl (by unfold wiE prE;rw[ut ht18,ut ht18])))
 refine qbM ?_;refine A0 zb2 ?_;refine qax ?_;refine Sp (d:=22) (p:=m<1) (fun g22=>?_) (fun g22=>?_)
 ·
  refine qaX ?_;refine A2 ?_;refine qal ?_;refine A2 ?_;refine qav ?_;refine qaw ?_;refine Ct ?_;refine qbp ?_;refine zc0 rfl ?_;refine A0 yw ?_;refine qaa ?_;refine qa0 ?_;refine Ct ?_;refine CQR ?_;refine xE ?_;refine qbG ?_;exact zq rfl rfl (zl rfl rfl zaR yF) (zT (za rfl ((show wiE l m k q=1 by unfold wiE;rw[ut yE];unfold prE;rw[ur yc,ut yc]).symm)))
 refine qck ?_;refine qal ?_;refine Sp (d:=26) (p:=20<m) (fun g26=>?_) (fun g26=>?_)
 ·
  refine qaX ?_;refine qav ?_;refine qaw ?_;refine Ct ?_;refine qbp ?_;refine zc0 rfl ?_;refine A0 yw ?_;refine qaa ?_;refine qa0 ?_;refine Ct ?_;refine CQR ?_;refine xE ?_;refine qbG ?_;exact zq rfl rfl (zl rfl rfl zaR yF) (zT (za rfl ((show wiE l m k q=1 by unfold wiE;rw[ut yE];unfold prE;rw[ur yc,ut yc]).symm)))
 refine A1 mV ?_;refine A1 zb2 ?_;refine qal ?_;refine Sp (d:=30) (p:=k<1) (fun g30=>?_) (fun g30=>?_)
 ·
  refine A2 ?_;refine qav ?_;refine qaw ?_;refine Ct ?_;refine qbp ?_;refine zc0 rfl ?_;refine A0 yw ?_;refine qaa ?_;refine qa0 ?_;refine Ct ?_;refine CQR ?_;refine xE ?_;refine qbG ?_;exact zq rfl rfl (zl rfl rfl zaR yF) (zT (za rfl ((show wiE l m k q=1 by unfold wiE;rw[ut yE];unfold prE;rw[ur yc,ut yc]).symm)))
 refine qck ?_;refine qal ?_;refine Sp (d:=34) (p:=20<k) (fun g34=>?_) (fun g34=>?_)
 ·
  refine qb7 ?_;refine qaw ?_;refine Ct ?_;refine qbp ?_;refine zc0 rfl ?_;refine A0 yw ?_;refine qaa ?_;refine qa0 ?_;refine Ct ?_;refine CQR ?_;refine xE ?_;refine qbG ?_;exact zq rfl rfl (zl rfl rfl zaR yF) (zT (za rfl ((show wiE l m k q=1 by unfold wiE;rw[ut yE];unfold prE;rw[ur yc,ut yc]).symm)))
 refine A1 mV ?_;refine A1 (zW rfl rfl zeP) ?_;refine A1 mV ?_;refine A1 zih ?_;refine qaw ?_;refine Cf (p:=l.length≤k) (fun ht39=>?_) (fun ht39=>?_)
 ·
  refine qbp ?_;refine zc0 rfl ?_;refine A0 yw ?_;refine qaa ?_;refine qa0 ?_;refine Ct ?_;refine CQR ?_;refine xE ?_;refine qbG ?_;exact zq rfl rfl (zl rfl rfl zaR yF) (zT (za rfl ((show wiE l m k q=1 by unfold wiE;rw[ut yE];unfold prE;rw[ur yc,ut yc]).symm)))
 have hpl:=zhG (zo l) m k;refine CSQR ?_;refine qao ?_;refine qao ?_;refine A0 (oCl (zu (ztv l yc)) rfl fn_160 yf) ?_;refine A0 (zC rfl zsC bd_170 (.cons zr5 (Lens.fst _ _) znJ rfl (.cons zlb ((Lens.snd _ _).comp (Lens.fst _ _)) ty_3 rfl (.cons zla ((Lens.snd _ _).comp ((Lens.snd _ _).comp (Lens.fst _ _))) ty_3 rfl (.cons zjo ((Lens.snd _ _).comp ((Lens.snd _ _).comp ((Lens.snd _ _).comp (Lens.fst _ _)))) zen rfl .nil)))) rfl) ?_;refine xb ?_;refine A0 aP ?_;refine CN ?_;refine zdd 2 (x:=(l,m,k,zo l,())) zmq rfl ?_;refine zd8 2 3 i64T [.val (bsl zL) l,.val i64T m,.val i64T k,.val (sl i64T) (zo l)] rfl ya0 ?_;refine CQR ?_;refine A0 mP ?_;refine qaN ?_;refine A0 (oFp zjo) ?_;refine qbu ?_;refine qao ?_;refine zls (ztl (zo l) m k) rfl fn_161 yT zk8 rfl rfl rfl ?_;refine A0 yw ?_;refine qaa ?_;refine qbH ?_;refine CNQQR ?_;refine qao ?_;refine CNB ?_;refine zA (n:=4) (y:=(zam (zo l) m k).1++(List.range 0).map fun j:Nat=>(l.length:Int)-k+(j:Int)) rfl yy ?_;refine Lp (ι:=Nat) 5 (fun i=>((((Fr.none.set 0 (.val (bsl zL) l)).set 2 (.val i64T k)).set 10 (.ptr 2 0)).set 60 (.val i64T k)).set 61 (.val i64T (i:Int))) (fun i=>((Hp.none.set 0 (.box 27 zac zbL)).set 2 (.parts 170 ([.val (bsl zL) l,.val i64T m,.val i64T k,.val (sl i64T) (zo l)]++[.own 4]))).set 4 (.row 3 i64T ((zam (zo l) m k).1++(List.range i).map fun j:Nat=>(l.length:Int)-k+(j:Int)))) (fun i=>(i:Int)≤k) (fun i=>k.toNat-i) (0) yx ?_;intro i hi;refine qak ?_;refine Cf (p:=(i:Int)<k) (fun ht62=>?_) (fun ht62=>?_)
 ·
  refine qaE ?_;refine qc5 ?_;refine A0 mP ?_;refine qcI ?_;refine qax ?_;refine xC ?_;refine qcb ?_;refine qbb ?_;refine qaC ?_;refine qbH ?_;refine qbh ?_;refine zaQ 5 4 6 rfl rfl rfl rfl rfl rfl ?_;refine zA (n:=4) (y:=(zam (zo l) m k).1++(List.range (i+1)).map fun j:Nat=>(l.length:Int)-k+(j:Int)) rfl (by rw[List.range_succ,List.map_append];simp) ?_;exact Nx (i+1) yc yc
 refine CE ?_;refine CQ ?_;obtain⟨PL,hPL⟩:∃PL,PL=zE l m k:=⟨_,rfl⟩;refine zA (n:=4) (y:=PL) rfl (by rw[hPL];unfold zE;rw[show k.toNat=i by omega]) ?_;have hpm:∀x∈PL,0≤x∧x<l.length:=fun x hx=>zdn yc (hPL▸hx)
 have hpn:PL.length≤220:=hPL▸zkI yc;refine CR ?_;refine A0 mP ?_;refine A0 aP ?_;refine qad ?_;refine zc0 rfl ?_;refine A0 yw ?_;refine qaa ?_;refine A0 aP ?_;refine A0 aX ?_;refine CNQQR ?_;refine A0 mX ?_;refine qbk ?_;refine Cg ?_;refine qcl ?_;refine CQ ?_;have hpe:prE l m k=0:=by unfold prE;rw[ur yc,ur yc]
 have hbo:=zfQ hpe;refine CR ?_;refine qax ?_;refine A0 zb2 ?_;refine Sp (d:=30) (p:=q<0) (fun g30=>?_) (fun g30=>?_)
 ·
  refine qax ?_;refine qac ?_;refine qac ?_;refine qaw ?_;refine Ct ?_;refine CQR ?_;refine xE ?_;refine qcx ?_;exact zq rfl rfl (zl rfl rfl zaR ybf) (zT (za rfl ((show wiE l m k q=1 by unfold wiE;rw[ur (fun h=>h hpe),ut yc]).symm)))
 refine qax ?_;refine qca ?_;refine A1 (zW rfl rfl zeP) ?_;refine A1 mV ?_;refine A1 zbb ?_;refine A1 zfd ?_;refine qaw ?_;refine Cf (p:=(l.length:Int)-k≤q) (fun ht38=>?_) (fun ht38=>?_)
 ·
  refine CQR ?_;refine xE ?_;refine qcx ?_;exact zq rfl rfl (zl rfl rfl zaR ybf) (zT (za rfl ((show wiE l m k q=1 by unfold wiE;rw[ur (fun h=>h hpe),ut yc]).symm)))
 refine qcl ?_;refine zh3 2 4 [.val (bsl zL) l,.val i64T m,.val i64T k,.val (sl i64T) (zo l)] (z:=(l,m,k,zo l,PL)) (R:=zu0) rfl rfl rfl zvh ?_;refine zdd 2 (x:=(l,m,k,zo l,PL)) zri rfl ?_;refine CR ?_;refine qcI ?_;refine qax ?_;refine A0 (oCl (bsPl_ok PL q yc) rfl fn_94 yl) ?_;refine qbi ?_;refine A0 aV ?_;refine qaj ?_;refine qaL ?_;refine zn (p:=¬isIn PL q=true) rfl yy (fun ht50=>?_) (fun ht50=>?_)
 ·
  refine CQ ?_;have hyl2:placeIn (zE l m k) q<(zE l m k).length:=Nat.lt_of_not_le fun c=>by obtain⟨_,_,_,_,h,_⟩:=zf8 hbo yc yc (hPL▸ht50);rw[List.getElem?_eq_none c] at h;cases h
  rw[←hPL] at hyl2;obtain⟨x,y,hi1,hx,hy,hx0,hxq,hqy,hyl⟩:=zf8 hbo yc yc (hPL▸ht50);rw[←hPL] at hi1 hx hy;refine CD mixed ?_;refine qbF ?_;refine G0 (oFp zjo) ?_;refine xg ?_;refine qbF ?_;refine G0 (oFp zjn) ?_;refine xg ?_;refine G0 mV ?_;refine G0 (zK (i:=placeIn PL q) rfl rfl rfl yc zbR yh) ?_;refine G0 (zg rfl rfl ty_3) ?_;refine G0 mV ?_;refine G0 (oCl (zcn (ztS (zo l) y q)) rfl fn_95 ⟨yo,yd,yo,trivial⟩) ?_;refine qbO ?_;refine qaV ?_;refine qbF ?_;refine G0 (oFp zjo) ?_;refine xg ?_;refine G0 mV ?_;refine qbF ?_;refine G0 (oFp zjn) ?_;refine xg ?_;refine G0 mV ?_;refine G0 (zj5 rfl rfl rfl (show _=(((placeIn PL q-1:Nat):Int):Int) from(zax yc).trans yc)) ?_;refine G0 (zK (i:=placeIn PL q-1) rfl rfl rfl yc zbR yh) ?_;refine G0 (zg rfl rfl ty_3) ?_;refine G0 (oCl (zcn (ztS (zo l) q x)) rfl fn_95 ⟨yo,yo,yd,trivial⟩) ?_;refine qbO ?_;refine zx [some 1,some 1,some 1,some 1,some 1,some 1,some 1,some 1,some 1,some 1,some 1,none] mixed ye ?_;refine X0 mP ?_;refine X0 mP ?_;refine xh ?_;refine X0 (oFp zjn) ?_;refine X0 (zy rfl rfl rfl rfl rfl zen) ?_;refine qcz ?_;refine X0 (oCl (zu (both_ok (zaC (zo l) y q) (zaC (zo l) q x) (by have h1:=zfY (zo l) y q;have h2:=zfY (zo l) q x;omega))) rfl fn_96 yl) ?_;refine X0 (oCl (zu (both_ok PL (zjK (zaC (zo l) y q) (zaC (zo l) q x)) (by have h1:=zfY (zo l) y q;have h2:=zfY (zo l) q x;have h3:=znG (zaC (zo l) y q) (zaC (zo l) q x);omega))) rfl fn_96 yl) ?_;refine xh ?_;refine X0 (oFp zjn) ?_;refine XK.e (x:=.idk) (fun fr' hfr kk H=>by exact zZ rfl rfl rfl ((hfr 94 ye).trans rfl) rfl rfl ((hfr 92 ye).trans rfl) rfl rfl rfl zen (zr H)) ?_;refine xf ?_;refine CQ ?_;obtain⟨WL,hWL⟩:∃WL,WL=zb0 l m k q:=⟨_,rfl⟩;have hwe:wiE l m k q=0:=by unfold wiE;rw[ur (fun h=>h hpe),ur yc]
  have hwm:∀x∈WL,0≤x∧x<l.length:=fun x hx=>zkp hbo yc yc (hWL▸hx)
  have hwn:WL.length≤622:=yca
  first|refine zjz 2 [.val (bsl zL) l,.val i64T m,.val i64T k,.val (sl i64T) (zo l),.val (sl i64T) WL] rfl ya7 ?_|refine zjz 2 [.val (bsl zL) l,.val i64T m,.val i64T k,.val (sl i64T) (zo l),.val (sl i64T) WL] rfl (by congr 5;rw[hWL];unfold zb0 wayL;rw[←hPL,ut (ua ht50)]) ?_
  refine CR ?_;refine A0 mP ?_;refine zU rfl rfl rfl rfl Tryz.func97 fn_97 rfl rfl (fun ia3 iok3=>?_);refine CQR ?_;refine qby ?_;refine CNQ ?_;refine xF ?_;refine XK.ga (fun _=>g_mp (.inl rfl) rfl) rfl rfl rfl ?_;refine XK.ga (fun _=>g_nc rfl rfl) rfl rfl rfl ?_;refine XK.ga (fun _=>zcI rfl rfl zlb rfl) rfl rfl rfl ?_;refine XK.gf (t:=8) rfl rfl (fun _ he=>zy rfl rfl he rfl rfl ty_3) ⟨rfl,trivial⟩ rfl rfl rfl ?_;refine XK.ga (fun _=>g_mp (.inl rfl) rfl) rfl rfl rfl ?_;refine XK.ga (fun _=>g_nc rfl rfl) rfl rfl rfl ?_;refine XK.ga (fun _=>zcI rfl rfl zla rfl) rfl rfl rfl ?_;refine XK.gf (t:=12) rfl rfl (fun _ he=>zy rfl rfl he rfl rfl ty_3) ⟨rfl,trivial⟩ rfl rfl rfl ?_;refine XK.ga (fun _=>zC rfl zjb zfR (.cons zd6 (Lens.fst _ _) ty_3 rfl (.cons zdG ((Lens.snd _ _).comp (Lens.fst _ _)) ty_3 rfl .nil)) rfl) rfl rfl rfl ?_;refine XK.e (fun fr' hfr kk H=>by exact zs zjb rfl rfl rfl rfl (zr H)) ?_;refine XK.e (x:=.idk) (fun fr' hfr kk H=>by exact zf rfl rfl rfl ((hfr 3 ye).trans rfl) rfl (Lens.self _) zaR ((hfr 14 ye).trans rfl) (zr H)) ?_;refine XK.nilp ⟨yB,yB,trivial⟩ ?_;refine zdd 6 (x:=(m,k,())) zhy rfl ?_;refine zd8 6 72 zbl [.val i64T m,.val i64T k] rfl yW ?_;refine CQQR ?_;refine qcI ?_;refine qbt ?_;refine qa2 ?_;refine Lp (ι:=Nat) 8 (fun i=>(((((Fr.none.set 0 (.ptr 2 0)).set 2 (.ptr 5 0)).set 3 (.ptr 6 0)).set 18 (.val (sl i64T) WL)).set 19 (.val i64T (WL.length:Int))).set 20 (.val i64T (i:Int))) (fun i=>((((Hp.none.set 0 (.box 27 zac zbL)).set 2 (.parts 170 ([.val (bsl zL) l,.val i64T m,.val i64T k,.val (sl i64T) (zo l)]++[.val (sl i64T) WL]))).set 5 (.box 27 zac zbL)).set 6 (.parts 27 [.val i64T m,.val i64T k,.own 7])).set 7 (.row 72 zbl ((WL.take i).map (zaN l)))) (fun i=>i≤WL.length) (fun i=>WL.length-i) (0) (uf _) ?_;intro i hi2;refine qak ?_;refine Cf (p:=i<WL.length) (fun ht21=>?_) (fun ht21=>?_)
  ·
   obtain⟨x,hx⟩:∃x,WL[i]?=some x:=⟨_,ub ht21⟩;have hxb:=hwm x (ud hx);obtain⟨b,hb⟩:∃b,l[x.toNat]?=some b:=yv;refine CSQBQR ?_;refine xD ?_;refine qbL ?_;refine qaA ?_;refine xI ?_;refine qbz ?_;refine qbe ?_;refine X0 mX ?_;refine xJ ?_;refine X0 (oFr zbe zaw) ?_;refine X0 (zg rfl rfl zaM) ?_;refine qbe ?_;refine X0 mX ?_;refine xJ ?_;refine X0 (oFr zcQ zbN) ?_;refine X0 (zg rfl rfl za5) ?_;refine X0 (oCl (zu (zg3 b.l ybm)) rfl zpS ybN) ?_;refine xK ?_;refine qc1 ?_;refine XK.e (fun fr' hfr kk H=>by exact zF rfl rfl rfl rfl ((hfr 25 ye).trans rfl) rfl ((hfr 44 ye).trans rfl) zn5 yx (zr H)) ?_;refine X0 (oFp zat) ?_;refine XK.e (x:=.idk) (fun fr' hfr kk H=>by exact zZ rfl rfl rfl ((hfr 46 ye).trans rfl) rfl rfl ((hfr 45 ye).trans rfl) rfl rfl rfl zcm (zr H)) ?_;refine qaJ ?_;refine zaQ 8 7 9 rfl rfl rfl rfl rfl rfl ?_;refine zA (n:=7) (y:=(WL.take (i+1)).map (zaN l)) rfl ybs ?_;exact Nx (i+1) yc yc
  refine CE ?_;refine CQ ?_;refine zA (n:=7) (y:=WL.map (zaN l)) rfl yN ?_;refine zh3 6 7 [.val i64T m,.val i64T k] (z:=(⟨m,k,WL.map (zaN l)⟩:Proof)) (R:=zac) rfl rfl rfl zhh ?_;refine CR ?_;refine qaQ ?_;refine qam ?_;refine CN ?_;refine zlt rfl rfl rfl zaR ?_;refine qcx ?_;exact zq rfl rfl (zl rfl rfl zaR (by unfold wiOf;rw[ut hwe,hWL])) (zT (za rfl (hwe.symm)))
 refine qcl ?_;obtain⟨WL,hWL⟩:∃WL,WL=zb0 l m k q:=⟨_,rfl⟩;have hwe:wiE l m k q=0:=by unfold wiE;rw[ur (fun h=>h hpe),ur yc]
 have hwm:∀x∈WL,0≤x∧x<l.length:=fun x hx=>zkp hbo yc yc (hWL▸hx)
 have hwn:WL.length≤622:=yca
 first|refine zjz 2 [.val (bsl zL) l,.val i64T m,.val i64T k,.val (sl i64T) (zo l),.val (sl i64T) WL] rfl ya7 ?_|refine zjz 2 [.val (bsl zL) l,.val i64T m,.val i64T k,.val (sl i64T) (zo l),.val (sl i64T) WL] rfl (by congr 5;rw[hWL];unfold zb0 wayL;rw[←hPL,ut (ua ht50)]) ?_
 refine CR ?_;refine A0 mP ?_;refine zU rfl rfl rfl rfl Tryz.func97 fn_97 rfl rfl (fun ia5 iok5=>?_);refine CQR ?_;refine qby ?_;refine CNQ ?_;refine xF ?_;refine XK.ga (fun _=>g_mp (.inl rfl) rfl) rfl rfl rfl ?_;refine XK.ga (fun _=>g_nc rfl rfl) rfl rfl rfl ?_;refine XK.ga (fun _=>zcI rfl rfl zlb rfl) rfl rfl rfl ?_;refine XK.gf (t:=8) rfl rfl (fun _ he=>zy rfl rfl he rfl rfl ty_3) ⟨rfl,trivial⟩ rfl rfl rfl ?_;refine XK.ga (fun _=>g_mp (.inl rfl) rfl) rfl rfl rfl ?_;refine XK.ga (fun _=>g_nc rfl rfl) rfl rfl rfl ?_;refine XK.ga (fun _=>zcI rfl rfl zla rfl) rfl rfl rfl ?_;refine XK.gf (t:=12) rfl rfl (fun _ he=>zy rfl rfl he rfl rfl ty_3) ⟨rfl,trivial⟩ rfl rfl rfl ?_;refine XK.ga (fun _=>zC rfl zjb zfR (.cons zd6 (Lens.fst _ _) ty_3 rfl (.cons zdG ((Lens.snd _ _).comp (Lens.fst _ _)) ty_3 rfl .nil)) rfl) rfl rfl rfl ?_;refine XK.e (fun fr' hfr kk H=>by exact zs zjb rfl rfl rfl rfl (zr H)) ?_;refine XK.e (x:=.idk) (fun fr' hfr kk H=>by exact zf rfl rfl rfl ((hfr 3 ye).trans rfl) rfl (Lens.self _) zaR ((hfr 14 ye).trans rfl) (zr H)) ?_;refine XK.nilp ⟨yB,yB,trivial⟩ ?_;refine zdd 6 (x:=(m,k,())) zhy rfl ?_;refine zd8 6 72 zbl [.val i64T m,.val i64T k] rfl yW ?_;refine CQQR ?_;refine qcI ?_;refine qbt ?_;refine qa2 ?_;refine Lp (ι:=Nat) 8 (fun i=>(((((Fr.none.set 0 (.ptr 2 0)).set 2 (.ptr 5 0)).set 3 (.ptr 6 0)).set 18 (.val (sl i64T) WL)).set 19 (.val i64T (WL.length:Int))).set 20 (.val i64T (i:Int))) (fun i=>((((Hp.none.set 0 (.box 27 zac zbL)).set 2 (.parts 170 ([.val (bsl zL) l,.val i64T m,.val i64T k,.val (sl i64T) (zo l)]++[.val (sl i64T) WL]))).set 5 (.box 27 zac zbL)).set 6 (.parts 27 [.val i64T m,.val i64T k,.own 7])).set 7 (.row 72 zbl ((WL.take i).map (zaN l)))) (fun i=>i≤WL.length) (fun i=>WL.length-i) (0) (uf _) ?_;intro i hi2;refine qak ?_;refine Cf (p:=i<WL.length) (fun ht21=>?_) (fun ht21=>?_)
 ·
  obtain⟨x,hx⟩:∃x,WL[i]?=some x:=⟨_,ub ht21⟩;have hxb:=hwm x (ud hx);obtain⟨b,hb⟩:∃b,l[x.toNat]?=some b:=yv;refine CSQBQR ?_;refine xD ?_;refine qbL ?_;refine qaA ?_;refine xI ?_;refine qbz ?_;refine qbe ?_;refine X0 mX ?_;refine xJ ?_;refine X0 (oFr zbe zaw) ?_;refine X0 (zg rfl rfl zaM) ?_;refine qbe ?_;refine X0 mX ?_;refine xJ ?_;refine X0 (oFr zcQ zbN) ?_;refine X0 (zg rfl rfl za5) ?_;refine X0 (oCl (zu (zg3 b.l ybm)) rfl zpS ybN) ?_;refine xK ?_;refine qc1 ?_;refine XK.e (fun fr' hfr kk H=>by exact zF rfl rfl rfl rfl ((hfr 25 ye).trans rfl) rfl ((hfr 44 ye).trans rfl) zn5 yx (zr H)) ?_;refine X0 (oFp zat) ?_;refine XK.e (x:=.idk) (fun fr' hfr kk H=>by exact zZ rfl rfl rfl ((hfr 46 ye).trans rfl) rfl rfl ((hfr 45 ye).trans rfl) rfl rfl rfl zcm (zr H)) ?_;refine qaJ ?_;refine zaQ 8 7 9 rfl rfl rfl rfl rfl rfl ?_;refine zA (n:=7) (y:=(WL.take (i+1)).map (zaN l)) rfl ybs ?_;exact Nx (i+1) yc yc
 refine CE ?_;refine CQ ?_;refine zA (n:=7) (y:=WL.map (zaN l)) rfl yN ?_;refine zh3 6 7 [.val i64T m,.val i64T k] (z:=(⟨m,k,WL.map (zaN l)⟩:Proof)) (R:=zac) rfl rfl rfl zhh ?_;refine CR ?_;refine qaQ ?_;refine qam ?_;refine CN ?_;refine zlt rfl rfl rfl zaR ?_;refine qcx ?_;exact zq rfl rfl (zl rfl rfl zaR (by unfold wiOf;rw[ut hwe,hWL])) (zT (za rfl (hwe.symm)))
set_option maxRecDepth 20000
theorem equalFPart (l m:List Part):Tells P 58 [.val (bsl zbl) l,.val (bsl zbl) m,.fn2 P zbl zbl zm (fun x y=>decide (x=y))] (.val zm (decide (l=m))):=by
 refine zc Tryz.func58 rfl rfl rfl (fun ext w hext=>?_);refine ze (d:=0) rfl zk (fun hsl0=>?_);refine ze (d:=1) rfl zk (fun hsl1=>?_);refine qcw ?_;refine xL ?_;refine qax ?_;refine xL ?_;refine qbk ?_;refine Cf (p:=¬l.length=m.length) (fun ht14=>?_) (fun ht14=>?_)
 ·
  refine qas ?_;exact zb rfl rfl (za rfl (uh (fun e=>ht14 (by rw[e]))).symm)
 refine qbM ?_;refine xL ?_;refine qa2 ?_;refine Lp (ι:=Nat) 0 (fun (k:Nat)=>((((((Fr.none).set 0 (.val (bsl zbl) l)).set 1 (.val (bsl zbl) m)).set 2 (.fn2 P zbl zbl zm (fun x y=>decide (x=y)))).set 15 (.val (bsl zbl) l)).set 16 (.val i64T (l.length:Int))).set 17 (.val i64T (k:Int))) (fun (k:Nat)=>Hp.none) (fun (k:Nat)=>k≤l.length∧l.take k=m.take k) (fun (k:Nat)=>l.length-k) (0) (⟨uf _,by simp⟩) ?_;intro k hinv;refine qak ?_;refine Cf (p:=k<l.length) (fun ht18=>?_) (fun ht18=>?_)
 ·
  obtain⟨x,hx⟩:∃x,l[k]?=some x:=⟨_,ub ht18⟩;obtain⟨y,hy⟩:∃y,m[k]?=some y:=yv;refine qaE ?_;refine qbP ?_;refine zs zpx rfl rfl rfl rfl ?_;refine A0 aV ?_;refine xd ?_;refine CNQR ?_;refine qao ?_;refine qbP ?_;refine qa1 ?_;refine CNQR ?_;refine A0 mH ?_;refine A0 (oLs rfl rfl rfl zga) ?_;refine A0 (oLs rfl rfl rfl zga) ?_;refine A0 (znp rfl rfl yo yo) ?_;refine qaL ?_;refine zn (p:=¬x=y) rfl yy (fun ht30=>?_) (fun ht30=>?_)
  ·
   refine qas ?_;exact zb rfl rfl (za rfl (uh (zhH hx hy ht30)).symm)
  refine qaZ ?_;exact Nx (k+1) (⟨by omega,zdc hx hy hinv.2 (by simpa using ht30)⟩) yc
 refine qcn ?_;exact zb rfl rfl (za rfl (ui yO).symm)
theorem zmu (x y:Part):Tells P 56 [.val zbl x,.val zbl y] (.val zm (decide (x=y))):=by
 refine zc Tryz.func56 rfl rfl rfl (fun ext w hext=>?_);refine qay ?_;refine qaz ?_;refine A0 (oFp zbk) ?_;refine A0 (oLb zaU zaM) ?_;refine A0 (oFp zbk) ?_;refine A0 (oLb zaU zaM) ?_;refine A0 (ziP rfl rfl rfl (zjQ)) ?_;refine qax ?_;refine zaP (d:=10) (p:=x.h=y.h) rfl yy (fun g10=>?_) (fun g10=>?_)
 ·
  refine A1 (oFp zbA) ?_;refine A1 (oLb za4 za5) ?_;refine A1 (oFp zbA) ?_;refine A1 (oLb za4 za5) ?_;refine A1 (oCl (zoT x.l y.l) rfl fn_57 yl) ?_;refine qaI ?_;exact zb rfl rfl (za rfl ((by rw[uo];exact⟨fun h=>by cases x;cases y;simp_all,fun h=>by rw[h]⟩)))
 refine qb7 ?_;refine A2 ?_;refine qaI ?_;exact zb rfl rfl (za rfl ((by symm;apply uh;intro h;exact g10 (by rw[h]))))
theorem sameP_ok (a b:Proof):Tells P 18 [.val zac a,.val zac b] (.val zm (decide (a=b))):=by
 refine zc Tryz.func18 rfl rfl rfl (fun ext w hext=>?_);refine qay ?_;refine qaz ?_;refine A0 aC ?_;refine CNQR ?_;refine A0 (oFp zd6) ?_;refine A0 (oLb zdg ty_3) ?_;refine A0 (oFp zd6) ?_;refine A0 (oLb zdg ty_3) ?_;refine A0 zbZ ?_;refine qax ?_;refine zaP (d:=11) (p:=a.m=b.m) rfl yH (fun g11=>?_) (fun g11=>?_)
 ·
  refine A1 (oFp zdG) ?_;refine A1 (oLb zcJ ty_3) ?_;refine A1 (oFp zdG) ?_;refine A1 (oLb zcJ ty_3) ?_;refine A1 zbZ ?_;refine qal ?_;refine zaP (d:=18) (p:=a.k=b.k) rfl yH (fun g18=>?_) (fun g18=>?_)
  ·
   refine A1 (oFp zat) ?_;refine A1 (oLb zau zcm) ?_;refine A1 (oFp zat) ?_;refine A1 (oLb zau zcm) ?_;refine A1 mC ?_;refine A1 (oCl (equalFPart a.p b.p) rfl fn_58 ⟨yo,yo,(by first|exact zdJ (Cs:=[]) rfl fn_56 yD trivial rfl (fun x=>zmu x y)|exact zdI (Cs:=[]) rfl fn_56 yD trivial rfl (fun x y=>zmu x y)|exact zdK rfl),trivial⟩) ?_;refine qaI ?_;exact zb rfl rfl (za rfl (yag))
  refine qac ?_;refine qac ?_;refine qaI ?_;exact zb rfl rfl (za rfl ((by symm;apply uh;intro h;exact g18 (by rw[h]))))
 refine qb7 ?_;refine A2 ?_;refine qbd ?_;refine qac ?_;refine qaI ?_;exact zb rfl rfl (za rfl ((by symm;apply uh;intro h;exact g11 (by rw[h]))))
def valU (l:List UInt8):UInt64:=l.foldl (fun n c=>zm1 n 8|||zae (IntL.toI u8T c)) 0
def zgZ (b:List UInt8) (p size:Int):Bool:=decide (0≤size∧size≤8∧0≤p∧p≤b.length∧size≤(b.length:Int)-p)
def getU (b:List UInt8) (p size:Int):UInt64:=if zgZ b p size=true then valU ((b.drop p.toNat).take size.toNat) else 0
def cutE (b:List UInt8) (p:Int):Bool:=zgZ b p 2&&decide (((getU b p 2).toNat:Int)≤(b.length:Int)-p-2)
def cutX (b:List UInt8) (p:Int):List UInt8:=if cutE b p=true then (b.drop (p.toNat+2)).take (getU b p 2).toNat else []
def zlf (b:List UInt8) (p:Int):Int:=if cutE b p=true then p+2+(getU b p 2).toNat else 0
def zi2 (x:List UInt8):List UInt8:=zB (zae (x.length:Int)) 2++x
def zeI (x:List UInt8):Bool:=decide (x.length≤65535)
def zj0 (l:List (List UInt8)):List UInt8:=zcl (l.length:Int)::(l.map zi2).flatten
def zeb (l:List (List UInt8)):Bool:=decide (l.length≤255)&&l.all zeI
def cutN:List UInt8→Option (List UInt8×List UInt8)
  | a::c::r=>if 256*a.toNat+c.toNat≤r.length then some (r.take (256*a.toNat+c.toNat),r.drop (256*a.toNat+c.toNat)) else none
  | _=>none
def pieces:Nat→List UInt8→List (List UInt8)×List UInt8
  | 0,r=>([],r)
  | n+1,r=>match cutN r with
    | none=>([],r)
    | some (x,z)=>(x::(pieces n z).1,(pieces n z).2)
def zab (b:List UInt8):List (List UInt8)×Bool :=
  match b with
  | []=>([],false)
  | n::r=>if (pieces n.toNat r).1.length=n.toNat∧(pieces n.toNat r).2=[] then ((pieces n.toNat r).1,true) else ([],false)
theorem or_low {a c:Nat} (hc:c<256):a*256|||c=a*256+c:=by
  have:=Nat.two_pow_add_eq_or_of_lt (i:=8) (b:=c) hc a
  rw[show(2:Nat)^8=256 from rfl,Nat.mul_comm] at this;exact this.symm
theorem val_step (n:UInt64) (c:UInt8):(zm1 n 8|||zae (IntL.toI u8T c)).toNat=(256*n.toNat+c.toNat)%18446744073709551616:=by
  have hc:c.toNat<256:=c.toNat_lt;have hn:n.toNat<18446744073709551616:=n.toNat_lt;have e1:(zae (IntL.toI u8T c)).toNat=c.toNat:=zeS (n:=(c.toNat:Int)) yc yc;have e2:(zm1 n 8).toNat=n.toNat*256%18446744073709551616:=by
    unfold zm1;rw[UInt64.toNat_ofNat'];rfl
  rw[UInt64.toNat_or,e1,e2];have e3:n.toNat*256%18446744073709551616=(n.toNat%72057594037927936)*256:=yc;rw[e3,or_low hc];omega
def valN (l:List UInt8):Nat:=l.foldl (fun n c=>256*n+c.toNat) 0
theorem ziq (l:List UInt8) (c:UInt8):valN (l++[c])=256*valN l+c.toNat:=by unfold valN;rw[List.foldl_append];rfl
theorem zsP (l:List UInt8) (c:UInt8):valU (l++[c])=zm1 (valU l) 8|||zae (IntL.toI u8T c):=by unfold valU;rw[List.foldl_append];rfl
theorem zrj {α:Type} {P:List α→Prop} (h0:P []) (h1:∀l x,P l→P (l++[x])) (l:List α):P l:=by
  have:∀n:Nat,∀l:List α,l.length=n→P l:=by
    intro n
    induction n with
    | zero=>intro l hl;rw[List.length_eq_zero_iff.1 hl];exact h0
    | succ n ih =>
      intro l hl;have hne:l≠[]:=by intro e;rw[e] at hl;cases hl
      rw[←List.dropLast_concat_getLast hne];exact h1 _ _ (ih _ (by rw[List.length_dropLast];omega))
  exact this _ l rfl
theorem zrf (l:List UInt8):valN l<256^l.length:=by
  refine zrj (P:=fun l=>valN l<256^l.length) yp (fun l c ih=>?_) l;have hc:c.toNat<256:=c.toNat_lt;rw[ziq,ue,List.length_singleton,Nat.pow_succ];omega
theorem zmn:∀l:List UInt8,l.length≤8→(valU l).toNat=valN l:=by
  refine zrj (P:=fun l=>l.length≤8→(valU l).toNat=valN l) (fun _=>rfl) (fun l c ih hl=>?_);rw[ue,List.length_singleton] at hl;rw[zsP,ziq,val_step,ih yc];have h1:=zrf (l++[c]);rw[ziq] at h1;have h2:256^(l++[c]).length≤256^8:=Nat.pow_le_pow_right yp yx;have h3:(256:Nat)^8=18446744073709551616:=rfl;exact Nat.mod_eq_of_lt yc
theorem zkQ (n:UInt64) (s:Nat) (hs:s<8):zB n (s+1)=zB (za6 n 8) s++[zcl (IntL.toI u64T n)]:=by
  unfold zB;rw[List.range_succ,List.map_append];congr 1
  · apply List.map_congr_left
    intro j hj;rw[List.mem_range] at hj;congr 2;apply UInt64.toNat_inj.1;rw[zgg _ yc,zgg _ yc,zgg _ yc,Nat.div_div_eq_div_mul,←Nat.pow_add];congr 2;omega
  show [zcl (IntL.toI u64T (za6 n (8*(s+1-1-s))))]=_;rw[show s+1-1-s=0 by omega,←shr_zero]
theorem zi1:∀l:List UInt8,l.length≤8→zB (valU l) l.length=l:=by
  refine zrj (P:=fun l=>l.length≤8→zB (valU l) l.length=l) (fun _=>rfl) (fun l c ih hl=>?_);rw[ue,List.length_singleton] at hl ⊢;have hc:c.toNat<256:=c.toNat_lt;have hv:=zmn (l++[c]) yx;have hw:=zmn l yc;rw[ziq] at hv;rw[zkQ _ _ yc];have e1:za6 (valU (l++[c])) 8=valU l:=by
    apply UInt64.toNat_inj.1;rw[zgg _ yp,hv,hw];omega
  have e2:zcl (IntL.toI u64T (valU (l++[c])))=c:=by
    apply UInt8.toNat_inj.1;unfold zcl;show(UInt8.ofNat ((((valU (l++[c])).toNat:Nat):Int)%256).toNat).toNat=_;rw[UInt8.toNat_ofNat_of_lt' ybp,hv];omega
  rw[e1,e2,ih yc]
theorem znE (n:UInt64):∀s:Nat,s≤8→valN (zB n s)=n.toNat%256^s
  | 0,_=>by show 0=_;simp[Nat.mod_one]
  | s+1,hs=>by
    have ih:=znE (za6 n 8) s yc;rw[zkQ _ _ yc,ziq,ih,zgg _ yp];have e:(zcl (IntL.toI u64T n)).toNat=n.toNat%256:=by
      unfold zcl;show(UInt8.ofNat (((n.toNat:Nat):Int)%256).toNat).toNat=_;rw[UInt8.toNat_ofNat_of_lt' ybp];omega
    have e8:(2:Nat)^8=256:=rfl;have ep:256^(s+1)=256*256^s:=by rw[Nat.pow_succ,Nat.mul_comm]
    rw[e,e8,ep,Nat.mod_mul];omega
theorem two_bytes {n:Nat} (h:n≤65535):∃a c:UInt8,zB (zae (n:Int)) 2=[a,c]∧256*a.toNat+c.toNat=n:=by
  have hl:=zJ (zae (n:Int)) 2;have hv:=znE (zae (n:Int)) 2 yp;rw[zeS yc yc] at hv
  match hb:zB (zae (n:Int)) 2 with
  | [a,c] =>
    rw[hb] at hv;refine⟨a,c,rfl,?_⟩;have e:valN [a,c]=256*(256*0+a.toNat)+c.toNat:=rfl;rw[e] at hv
    have:(256:Nat)^2=65536:=rfl
    omega
  | []=>rw[hb] at hl;cases hl
  | [_]=>rw[hb] at hl;cases hl
  | _::_::_::_=>rw[hb] at hl;simp at hl
theorem bytes_two (a c:UInt8):zB (zae ((256*a.toNat+c.toNat:Nat):Int)) 2=[a,c]:=by
  have ha:a.toNat<256:=a.toNat_lt;have hc:c.toNat<256:=c.toNat_lt;have e:zae ((256*a.toNat+c.toNat:Nat):Int)=valU [a,c]:=by
    apply UInt64.toNat_inj.1;rw[zeS yc yc,zmn [a,c] yy];show _=256*(256*0+a.toNat)+c.toNat
    omega
  rw[e];exact zi1 [a,c] yy
theorem cut_blob {x r:List UInt8} (h:zeI x=true):cutN (zi2 x++r)=some (x,r):=by
  have hx:=of_decide_eq_true h;obtain⟨a,c,e1,e2⟩:=two_bytes hx;unfold zi2;rw[e1];have e3:[a,c]++x++r=a::c::(x++r):=rfl;rw[e3,cutN,e2,ut yy,List.take_left,List.drop_left]
theorem cut_back {b x z:List UInt8} (h:cutN b=some (x,z)):b=zi2 x++z∧zeI x=true:=by
  match b,h with
  | a::c::r,h =>
    have ha:a.toNat<256:=a.toNat_lt;have hc:c.toNat<256:=c.toNat_lt;rw[cutN] at h;by_cases q:256*a.toNat+c.toNat≤r.length
    · rw[ut q] at h
      simp only[Option.some.injEq,Prod.mk.injEq] at h;obtain⟨rfl,rfl⟩:=h;have hl:(r.take (256*a.toNat+c.toNat)).length=256*a.toNat+c.toNat:=ybH;refine⟨?_,ui (by rw[hl];omega)⟩;unfold zi2;rw[hl,bytes_two];show a::c::r=a::c::(r.take _++r.drop _);rw[List.take_append_drop]
    rw[ur q] at h;cases h
  | [],h=>cases h
  | [_],h=>cases h
theorem zoc (r:List UInt8):∀l:List (List UInt8),l.all zeI=true→pieces l.length ((l.map zi2).flatten++r)=(l,r)
  | [],_=>rfl
  | x::l,h=>by
    rw[List.all_cons,uk] at h;rw[List.map_cons,List.flatten_cons,List.append_assoc,List.length_cons,pieces,cut_blob h.1];simp only[];rw[zoc r l h.2]
theorem zod:∀(n:Nat) (r:List UInt8),(pieces n r).1.length≤n∧r=((pieces n r).1.map zi2).flatten++(pieces n r).2∧(pieces n r).1.all zeI=true
  | 0,r=>⟨ug _,rfl,rfl⟩
  | n+1,r=>by
    rw[pieces]
    match hc:cutN r with
    | none=>exact⟨uf _,rfl,rfl⟩
    | some (x,z) =>
      obtain⟨h1,h2⟩:=cut_back hc;obtain⟨i1,i2,i3⟩:=zod n z;refine⟨Nat.succ_le_succ i1,?_,?_⟩
      · show r=((x::(pieces n z).1).map zi2).flatten++(pieces n z).2
        rw[List.map_cons,List.flatten_cons,List.append_assoc,←i2];exact h1
      show(x::(pieces n z).1).all zeI=true;rw[List.all_cons,h2,i3];rfl
theorem u8_len {n:Nat} (h:n≤255):(zcl (n:Int)).toNat=n:=by
  unfold zcl;rw[UInt8.toNat_ofNat_of_lt' ybp];omega
theorem zp3 {l:List (List UInt8)} (h:zeb l=true):zab (zj0 l)=(l,true):=by
  unfold zeb at h;rw[uk,uj] at h;unfold zj0 zab;have hp:=zoc [] l h.2;rw[List.append_nil] at hp;simp only[];rw[u8_len h.1,hp,ut ⟨rfl,rfl⟩]
theorem zqe {b:List UInt8} (h:(zab b).2=true):zj0 (zab b).1=b∧zeb (zab b).1=true:=by
  match b,h with
  | n::r,h =>
    have hn:n.toNat<256:=n.toNat_lt;unfold zab at h ⊢;simp only[] at h ⊢;by_cases q:(pieces n.toNat r).1.length=n.toNat∧(pieces n.toNat r).2=[]
    · rw[ut q]
      obtain⟨i1,i2,i3⟩:=zod n.toNat r;rw[q.2,List.append_nil] at i2;refine⟨?_,?_⟩
      · show zcl ((pieces n.toNat r).1.length:Int)::((pieces n.toNat r).1.map zi2).flatten=n::r
        rw[←i2,q.1];congr 1;apply UInt8.toNat_inj.1;rw[u8_len yc]
      unfold zeb;rw[i3,ui (show(pieces n.toNat r).1.length≤255 by omega)];rfl
    rw[ur q] at h;cases h
  | [],h=>cases h
theorem zsh (x:List UInt8):(zi2 x).length=2+x.length:=by unfold zi2;rw[ue,zJ]
theorem zng:∀l:List (List UInt8),(zj0 l).length=1+(l.map fun x=>2+x.length).sum
  | []=>rfl
  | x::l=>by
    have ih:=zng l;unfold zj0 at ih ⊢;rw[List.length_cons,List.map_cons,List.flatten_cons,ue,zsh,List.map_cons,List.sum_cons];rw[List.length_cons] at ih;omega
def zdv (b:List UInt8):Head:=⟨((valU (b.take 4)).toNat:Int),(b.drop 4).take 32,(b.drop 36).take 32,(b.drop 68).take 32,(b.drop 100).take 32,zlX ((b.drop 132).take 32),UInt32.ofNat (valU ((b.drop 164).take 4)).toNat,valU ((b.drop 168).take 8)⟩
def zc6 (b:List UInt8):Bool:=decide (b.length=176)&&decide ((valU (b.take 4)).toNat≤1048576)
def zm3 (b:List UInt8):Head:=if zc6 b=true then zdv b else zko
def ziu (p:Proof):Bool:=decide (1≤p.m∧p.m≤20∧1≤p.k∧p.k≤20∧p.p.length≤100)&&p.p.all fun x=>decide (x.l.length≤32)
def wOk (p:Proof):Bool:=ziu p&&p.p.all fun x=>hOk x.h
def zcp (x:Part):List UInt8:=zj0 (zav x.h::x.l)
def putL (p:Proof):List UInt8:=zcl p.m::zcl p.k::zj0 (p.p.map zcp)
def zfc (r:List UInt8):Bool:=(zab r).2&&match (zab r).1 with
  | []=>false
  | h::l=>zc6 h&&l.all fun x=>decide (x.length=32)
def zdm (r:List UInt8):Part:=match (zab r).1 with
  | []=>⟨zko,[]⟩
  | h::l=>⟨zdv h,l⟩
def zkF (b:List UInt8):Proof:=⟨((b.getD 0 0).toNat:Int),((b.getD 1 0).toNat:Int),(zab (b.drop 2)).1.map zdm⟩
def zcG (b:List UInt8):Bool:=decide (2<b.length)&&(zab (b.drop 2)).2&&(zab (b.drop 2)).1.all zfc&&ziu (zkF b)
theorem u8_nat {n:Int} (h0:0≤n) (h1:n≤255):(zcl n).toNat=n.toNat:=by
  obtain⟨m,rfl⟩:∃m:Nat,n=m:=⟨n.toNat,by omega⟩;rw[u8_len yc];rfl
theorem of32_four (x0 x1 x2 x3 x4 x5 x6 x7 x8 x9 x10 x11 x12 x13 x14 x15 x16 x17 x18 x19 x20 x21 x22 x23 x24 x25 x26 x27 x28 x29 x30 x31:UInt8):zlX [x0,x1,x2,x3,x4,x5,x6,x7,x8,x9,x10,x11,x12,x13,x14,x15,x16,x17,x18,x19,x20,x21,x22,x23,x24,x25,x26,x27,x28,x29,x30,x31]=[valU [x24,x25,x26,x27,x28,x29,x30,x31],valU [x16,x17,x18,x19,x20,x21,x22,x23],valU [x8,x9,x10,x11,x12,x13,x14,x15],valU [x0,x1,x2,x3,x4,x5,x6,x7]]:=yr
theorem list32 {b:List UInt8} (h:b.length=32):∃x0 x1 x2 x3 x4 x5 x6 x7 x8 x9 x10 x11 x12 x13 x14 x15 x16 x17 x18 x19 x20 x21 x22 x23 x24 x25 x26 x27 x28 x29 x30 x31,b=[x0,x1,x2,x3,x4,x5,x6,x7,x8,x9,x10,x11,x12,x13,x14,x15,x16,x17,x18,x19,x20,x21,x22,x23,x24,x25,x26,x27,x28,x29,x30,x31]:=by
  match b,h with
  | [x0,x1,x2,x3,x4,x5,x6,x7,x8,x9,x10,x11,x12,x13,x14,x15,x16,x17,x18,x19,x20,x21,x22,x23,x24,x25,x26,x27,x28,x29,x30,x31],_=>exact⟨x0,x1,x2,x3,x4,x5,x6,x7,x8,x9,x10,x11,x12,x13,x14,x15,x16,x17,x18,x19,x20,x21,x22,x23,x24,x25,x26,x27,x28,x29,x30,x31,rfl⟩
theorem bytes_of32 {b:List UInt8} (h:b.length=32):zgx (zlX b)=b:=by
  obtain⟨x0,x1,x2,x3,x4,x5,x6,x7,x8,x9,x10,x11,x12,x13,x14,x15,x16,x17,x18,x19,x20,x21,x22,x23,x24,x25,x26,x27,x28,x29,x30,x31,rfl⟩:=list32 h;rw[of32_four,zkk];have e1:=zi1 [x0,x1,x2,x3,x4,x5,x6,x7] (ug _);have e2:=zi1 [x8,x9,x10,x11,x12,x13,x14,x15] (ug _);have e3:=zi1 [x16,x17,x18,x19,x20,x21,x22,x23] (ug _);have e4:=zi1 [x24,x25,x26,x27,x28,x29,x30,x31] (ug _);have e1:zB (valU [x0,x1,x2,x3,x4,x5,x6,x7]) 8=[x0,x1,x2,x3,x4,x5,x6,x7]:=e1;have e2:zB (valU [x8,x9,x10,x11,x12,x13,x14,x15]) 8=[x8,x9,x10,x11,x12,x13,x14,x15]:=e2;have e3:zB (valU [x16,x17,x18,x19,x20,x21,x22,x23]) 8=[x16,x17,x18,x19,x20,x21,x22,x23]:=e3;have e4:zB (valU [x24,x25,x26,x27,x28,x29,x30,x31]) 8=[x24,x25,x26,x27,x28,x29,x30,x31]:=e4;rw[e1,e2,e3,e4];rfl
theorem of32_bytes {a:Wide} (ha:a.length=4):zlX (zgx a)=a:=by
  have hl:(zgx a).length=32:=zct a;exact zqT of32_len ha (bytes_of32 hl)
theorem zhM {h:Head} (hh:HW h) (ho:hOk h=true):(zav h).length=176:=by
  obtain⟨h1,h2,h3,h4,h5⟩:=hh;unfold zav;rw[ut ho];simp[zbU,h1,h2,h3,h4,zct,zJ]
theorem head_parts {h:Head} (hh:HW h):(zbU h).take 4=zB (zae (IntL.toI i64T h.height)) 4∧((zbU h).drop 4).take 32=h.prev∧((zbU h).drop 36).take 32=h.links∧((zbU h).drop 68).take 32=h.txs∧((zbU h).drop 100).take 32=h.past∧
    ((zbU h).drop 132).take 32=zgx h.work∧((zbU h).drop 164).take 4=zB (zae (IntL.toI u32T h.bits)) 4∧((zbU h).drop 168).take 8=zB h.nonce 8:=by
  obtain⟨h1,h2,h3,h4,h5⟩:=hh;have l0:=zJ (zae (IntL.toI i64T h.height)) 4;have l6:=zJ (zae (IntL.toI u32T h.bits)) 4;have l7:=zJ h.nonce 8;have l5:=zct h.work;unfold zbU;simp only[List.flatten_cons,List.flatten_nil,List.append_nil];generalize zB (zae (IntL.toI i64T h.height)) 4=A at *;generalize zB (zae (IntL.toI u32T h.bits)) 4=F at *;generalize zB h.nonce 8=G at *;generalize zgx h.work=E at *;have d1:(A++(h.prev++(h.links++(h.txs++(h.past++(E++(F++G))))))).drop 4=h.prev++(h.links++(h.txs++(h.past++(E++(F++G))))):=List.drop_left' l0;have d2:(A++(h.prev++(h.links++(h.txs++(h.past++(E++(F++G))))))).drop 36=h.links++(h.txs++(h.past++(E++(F++G)))):=by rw[show 36=4+32 from rfl,←List.drop_drop,d1];exact List.drop_left' h1
  have d3:(A++(h.prev++(h.links++(h.txs++(h.past++(E++(F++G))))))).drop 68=h.txs++(h.past++(E++(F++G))):=by rw[show 68=36+32 from rfl,←List.drop_drop,d2];exact List.drop_left' h2
  have d4:(A++(h.prev++(h.links++(h.txs++(h.past++(E++(F++G))))))).drop 100=h.past++(E++(F++G)):=by rw[show 100=68+32 from rfl,←List.drop_drop,d3];exact List.drop_left' h3
  have d5:(A++(h.prev++(h.links++(h.txs++(h.past++(E++(F++G))))))).drop 132=E++(F++G):=by rw[show 132=100+32 from rfl,←List.drop_drop,d4];exact List.drop_left' h4
  have d6:(A++(h.prev++(h.links++(h.txs++(h.past++(E++(F++G))))))).drop 164=F++G:=by rw[show 164=132+32 from rfl,←List.drop_drop,d5];exact List.drop_left' l5
  have d7:(A++(h.prev++(h.links++(h.txs++(h.past++(E++(F++G))))))).drop 168=G:=by rw[show 168=164+4 from rfl,←List.drop_drop,d6];exact List.drop_left' l6
  rw[d1,d2,d3,d4,d5,d6,d7];exact⟨List.take_left' l0,List.take_left' h1,List.take_left' h2,List.take_left' h3,List.take_left' h4,List.take_left' l5,List.take_left' l6,uc (Nat.le_of_eq l7)⟩
theorem zuH (n:UInt64) {s:Nat} (hs:s≤8):(valU (zB n s)).toNat=n.toNat%256^s:=by rw[zmn _ (by rw[zJ];exact hs),znE n s hs]
theorem zsO (n:UInt64):valU (zB n 8)=n:=by
  apply UInt64.toNat_inj.1;have hn:n.toNat<18446744073709551616:=n.toNat_lt;rw[zuH n (ug _),show(256:Nat)^8=18446744073709551616 from rfl,Nat.mod_eq_of_lt hn]
theorem read_put {h:Head} (hh:HW h) (ho:hOk h=true):zc6 (zbU h)=true∧zdv (zbU h)=h:=by
  obtain⟨p1,p2,p3,p4,p5,p6,p7,p8⟩:=head_parts hh;have ho2:=zvn.1 ho;have hlen:(zbU h).length=176:=by
    have:=zhM hh ho
    unfold zav at this
    rwa [ut ho] at this
  have hv:(valU ((zbU h).take 4)).toNat=h.height.toNat:=by
    rw[p1,zuH _ yp,show(256:Nat)^4=4294967296 from rfl];have e:(zae (IntL.toI i64T h.height)).toNat=h.height.toNat:=zeS (n:=h.height) ho2.1 yc;rw[e];omega
  refine⟨?_,?_⟩
  · unfold zc6
    rw[ui hlen,ui (by rw[hv];omega)];rfl
  unfold zdv;rw[hv,p2,p3,p4,p5,p6,p7,p8,of32_bytes hh.2.2.2.2,zsO,zuH _ yp];have eb:(zae (IntL.toI u32T h.bits)).toNat=h.bits.toNat:=by
    have:h.bits.toNat<4294967296:=h.bits.toNat_lt
    exact zeS (n:=(h.bits.toNat:Int)) yc yc
  have eb2:UInt32.ofNat (h.bits.toNat%256^4)=h.bits:=by
    apply UInt32.toNat_inj.1
    have:h.bits.toNat<4294967296:=h.bits.toNat_lt
    rw[show(256:Nat)^4=4294967296 from rfl,Nat.mod_eq_of_lt this,UInt32.toNat_ofNat_of_lt' this]
  have eh:((h.height.toNat:Nat):Int)=h.height:=yc;rw[eb,eb2,eh]
theorem rd_ok {b:List UInt8} (hv:(valU (b.take 4)).toNat≤1048576):0≤(zdv b).height∧(zdv b).height≤1048576:=by
  have e:(zdv b).height=((valU (b.take 4)).toNat:Int):=by simp only[zdv]
  rw[e];omega
theorem row_ok {x:Part} (hh:HW x.h) (ho:hOk x.h=true) (hi:∀y∈x.l,y.length=32) (hl:x.l.length≤32):zeb (zav x.h::x.l)=true:=by
  unfold zeb;rw[uk,uj,List.all_cons,uk,List.all_eq_true];refine⟨by simp;omega,ui (by rw[zhM hh ho];omega),fun y hy=>ui (by rw[hi y hy];omega)⟩
theorem sum_32:∀l:List (List UInt8),(∀y∈l,y.length=32)→(l.map fun x=>2+x.length).sum=34*l.length
  | [],_=>rfl
  | x::l,h=>by
    rw[List.map_cons,List.sum_cons,sum_32 l (fun y hy=>h y (List.mem_cons_of_mem _ hy)),h x (List.mem_cons_self ..),List.length_cons];omega
theorem zof {x:Part} (hh:HW x.h) (ho:hOk x.h=true) (hi:∀y∈x.l,y.length=32):(zcp x).length=179+34*x.l.length:=by
  unfold zcp;rw[zng,List.map_cons,List.sum_cons,zhM hh ho,sum_32 _ hi];omega
def PW (p:Proof):Prop:=∀x∈p.p,HW x.h∧∀y∈x.l,y.length=32
theorem zbJ {p:Proof} (h:ziu p=true):(1≤p.m∧p.m≤20∧1≤p.k∧p.k≤20∧p.p.length≤100)∧∀x∈p.p,x.l.length≤32:=by
  unfold ziu at h;rw[uk,uj,List.all_eq_true] at h;exact⟨h.1,fun x hx=>of_decide_eq_true (h.2 x hx)⟩
theorem zjd {p:Proof} (h:wOk p=true):ziu p=true∧∀x∈p.p,hOk x.h=true:=by
  unfold wOk at h;rw[uk,List.all_eq_true] at h;exact h
theorem zrz {p:Proof} (hw:PW p) (h:wOk p=true):zeb (p.p.map zcp)=true:=by
  obtain⟨h1,h2⟩:=zjd h;obtain⟨h3,h4⟩:=zbJ h1;unfold zeb;rw[uk,uj,List.all_eq_true];refine⟨by simp;omega,fun r hr=>?_⟩;obtain⟨x,hx,rfl⟩:=List.mem_map.1 hr
  have:=h4 x hx
  exact ui (by rw[zof (hw x hx).1 (h2 x hx) (hw x hx).2];omega)
theorem zto {x:Part} (hh:HW x.h) (ho:hOk x.h=true) (hi:∀y∈x.l,y.length=32) (hl:x.l.length≤32):zfc (zcp x)=true∧zdm (zcp x)=x:=by
  have hs:=zp3 (row_ok hh ho hi hl);have eb:zav x.h=zbU x.h:=by unfold zav;rw[ut ho]
  obtain⟨r1,r2⟩:=read_put hh ho;unfold zfc zdm zcp;rw[hs];simp only[];rw[eb,r1,r2];refine⟨?_,rfl⟩;rw[Bool.true_and,Bool.true_and,List.all_eq_true];exact fun y hy=>ui (hi y hy)
theorem put_get {p:Proof} (h0:0≤p.m∧p.m≤255∧0≤p.k∧p.k≤255):(((putL p).getD 0 0).toNat:Int)=p.m∧(((putL p).getD 1 0).toNat:Int)=p.k:=by
  have e0:(putL p).getD 0 0=zcl p.m:=rfl;have e1:(putL p).getD 1 0=zcl p.k:=rfl;rw[e0,e1,u8_nat h0.1 h0.2.1,u8_nat h0.2.2.1 h0.2.2.2];omega
theorem zqk {p:Proof} (hw:PW p) (h:wOk p=true):zcG (putL p)=true∧zkF (putL p)=p:=by
  obtain⟨h1,h2⟩:=zjd h;obtain⟨h3,h4⟩:=zbJ h1;have hs:=zp3 (zrz hw h);have hd:(putL p).drop 2=zj0 (p.p.map zcp):=rfl;have hm:(p.p.map zcp).map zdm=p.p:=by
    rw[List.map_map]
    conv=>rhs;rw[←List.map_id p.p]
    exact List.map_congr_left fun x hx=>(zto (hw x hx).1 (h2 x hx) (hw x hx).2 (h4 x hx)).2
  obtain⟨g1,g2⟩:=put_get (p:=p) yc;have hr:zkF (putL p)=p:=by
    unfold zkF;rw[hd,hs,g1,g2];show(⟨p.m,p.k,(p.p.map zcp).map zdm⟩:Proof)=p;rw[hm]
  refine⟨?_,hr⟩;unfold zcG;rw[hr,h1,hd,hs,ui (show 2<(putL p).length by unfold putL zj0;simp)];simp only[Bool.true_and,Bool.and_true];rw[List.all_eq_true];intro r hr;obtain⟨x,hx,rfl⟩:=List.mem_map.1 hr;exact(zto (hw x hx).1 (h2 x hx) (hw x hx).2 (h4 x hx)).1
theorem zuY {p:Proof} (hw:PW p) (h:wOk p=true):(putL p).length=3+(p.p.map fun x=>181+34*x.l.length).sum:=by
  obtain⟨h1,h2⟩:=zjd h;unfold putL;rw[List.length_cons,List.length_cons,zng,List.map_map]
  have:p.p.map ((fun x:List UInt8=>2+x.length) ∘ zcp)=p.p.map fun x=>181+34*x.l.length:=List.map_congr_left fun x hx=>by
    show 2+(zcp x).length=_;rw[zof (hw x hx).1 (h2 x hx) (hw x hx).2];omega
  rw[this];omega
theorem zew {b:List UInt8} {p size:Int} (h:size<0∨8<size∨p<0∨(b.length:Int)<p∨(b.length:Int)-p<size):zgZ b p size=false:=by
  unfold zgZ;apply uh;omega
theorem getOk_yes {b:List UInt8} {p size:Int} (h1:¬size<0) (h2:¬8<size) (h3:¬p<0) (h4:¬(b.length:Int)<p) (h5:¬(b.length:Int)-p<size):zgZ b p size=true:=by
  unfold zgZ;apply ui;omega
theorem zoz {b:List UInt8} {p size:Int} (h:zgZ b p size=false):getU b p size=0:=by unfold getU;rw[h];rfl
theorem zno {b:List UInt8} {p size:Int} (h:zgZ b p size=true):getU b p size=valU ((b.drop p.toNat).take size.toNat):=by unfold getU;rw[ut h]
theorem get2_le {b:List UInt8} {p:Int} (h:zgZ b p 2=true):(getU b p 2).toNat≤65535:=by
  rw[zno h,show(2:Int).toNat=2 from rfl];have hl:((b.drop p.toNat).take 2).length≤2:=ybH;have h2:=zmn ((b.drop p.toNat).take 2) yc;have h3:=zrf ((b.drop p.toNat).take 2);have h4:256^((b.drop p.toNat).take 2).length≤256^2:=Nat.pow_le_pow_right yp hl;have h5:(256:Nat)^2=65536:=rfl;omega
theorem zxs {b:List UInt8} {p:Int} (h:cutE b p=false):cutX b p=[]∧zlf b p=0:=by
  unfold cutX zlf;rw[h];exact⟨rfl,rfl⟩
theorem zo0 {b:List UInt8} {p:Int} (h:cutE b p=true):cutX b p=(b.drop (p.toNat+2)).take (getU b p 2).toNat∧zlf b p=p+2+(getU b p 2).toNat:=by
  unfold cutX zlf;rw[h];exact⟨rfl,rfl⟩
def blobR (x:List UInt8):List UInt8:=if zeI x=true then zi2 x else []
def zuU (l:List (List UInt8)):List UInt8:=if zeb l=true then zj0 l else []
theorem rows_no {l:List (List UInt8)} (h:255<l.length):zeb l=false:=by unfold zeb;rw[uh yc];rfl
theorem zwi {l:List (List UInt8)} {k:Nat} {x:List UInt8} (hx:l[k]?=some x) (h:¬zeI x=true):zeb l=false:=by
  unfold zeb;rw[Bool.and_eq_false_iff];right;rw[List.all_eq_false];exact⟨x,ud hx,h⟩
theorem zwj {l:List (List UInt8)} {k:Nat} (h:¬255<l.length) (hb:∀x∈l.take k,zeI x=true) (hk:l.length≤k):zeb l=true:=by
  rw[uc hk] at hb;unfold zeb;rw[ui yc,Bool.true_and,List.all_eq_true];exact hb
def zpB (l:List (List UInt8)) (k:Nat):List UInt8:=zcl (IntL.toI i64T (l.length:Int))::((l.take k).map zi2).flatten
theorem rowsN_step {l:List (List UInt8)} {k:Nat} {x:List UInt8} (h:l[k]?=some x):zpB l (k+1)=zpB l k++zi2 x:=by
  unfold zpB;rw[un,h];simp
theorem rowsN_all {l:List (List UInt8)} {k:Nat} (h:l.length≤k):zpB l k=zj0 l:=by
  unfold zpB zj0;rw[uc h];rfl
theorem rowsN_len {l:List (List UInt8)} {k:Nat} (h:∀x∈l.take k,zeI x=true):(zpB l k).length≤1+k*65537:=by
  unfold zpB;rw[List.length_cons]
  have:∀(m:List (List UInt8)),(∀x∈m,zeI x=true)→(m.map zi2).flatten.length≤m.length*65537:=by
    intro m
    induction m with
    | nil=>intro _;simp
    | cons x m ih =>
      intro hm;have h1:=ih (fun y hy=>hm y (List.mem_cons_of_mem _ hy));have h2:=of_decide_eq_true (hm x (List.mem_cons_self ..));rw[List.map_cons,List.flatten_cons,ue,zsh,List.length_cons];omega
  have h1:=this (l.take k) h;have h2:(l.take k).length≤k:=ybH;have h3:(l.take k).length*65537≤k*65537:=Nat.mul_le_mul_right _ h2;omega
theorem cloneU8 (l:List UInt8) (hl:l.length*1≤140737488355328∧l.length≤9223372036854775807):Tells P 323 [.val (bsl u8T) l] (.fresh 5 u8T l):=by
 refine zc Tryz.func323 rfl rfl rfl (fun ext w hext=>?_);refine ze (d:=0) rfl zk (fun hsl0=>?_);refine qaq ?_;refine qbg ?_;refine zfS rfl rfl rfl rfl rfl zc8 (fun c4 hc4=>?_);refine CN ?_;refine zn (p:=c4=true) rfl yy (fun ht4=>?_) (fun ht4=>?_)
 ·
  obtain rfl:=hc4 ht4;refine qaq ?_;refine CN ?_;exact zb rfl rfl (zp rfl)
 refine CSQR ?_;refine zce (T:=u8T) (xs:=[]) rfl rfl rfl rfl zd3 zc4 trivial rfl rfl ?_;refine qax ?_;refine zF rfl rfl rfl rfl rfl rfl rfl zc4 yaz ?_;refine qbm ?_;exact zb rfl rfl (zh rfl rfl yy)
theorem zul (b:List UInt8) (p size:Int):Tells P 233 [.val (bsl u8T) b,.val i64T p,.val i64T size] (.tup2 (.val u64T (getU b p size)) (.val zm (zgZ b p size))):=by
 refine zc Tryz.func233 rfl rfl rfl (fun ext w hext=>?_);refine ze (d:=0) rfl zk (fun hsl0=>?_);refine ze (d:=1) rfl zt (fun hin1=>?_);refine ze (d:=2) rfl zt (fun hin2=>?_);refine CQR ?_;refine A0 aV ?_;refine qaj ?_;refine A0 zb2 ?_;refine Sp (d:=12) (p:=size<0) (fun g12=>?_) (fun g12=>?_)
 ·
  refine qax ?_;refine qaX ?_;refine qav ?_;refine qbd ?_;refine qac ?_;refine qaw ?_;refine Ct ?_;refine CQR ?_;refine qbA ?_;exact zV rfl rfl (za rfl ((zoz (zew (.inl g12))).symm)) (za rfl ((zew (.inl g12)).symm))
 refine qax ?_;refine qck ?_;refine Sp (d:=15) (p:=8<size) (fun g15=>?_) (fun g15=>?_)
 ·
  refine qal ?_;refine A2 ?_;refine qav ?_;refine qbd ?_;refine qac ?_;refine qaw ?_;refine Ct ?_;refine CQR ?_;refine qbA ?_;exact zV rfl rfl (za rfl ((zoz (zew (.inr (.inl g15)))).symm)) (za rfl ((zew (.inr (.inl g15))).symm))
 refine qal ?_;refine A1 mV ?_;refine A1 zb2 ?_;refine Sp (d:=19) (p:=p<0) (fun g19=>?_) (fun g19=>?_)
 ·
  refine qbd ?_;refine A2 ?_;refine qbd ?_;refine qac ?_;refine qaw ?_;refine Ct ?_;refine CQR ?_;refine qbA ?_;exact zV rfl rfl (za rfl ((zoz (zew (.inr (.inr (.inl g19))))).symm)) (za rfl ((zew (.inr (.inr (.inl g19)))).symm))
 refine qal ?_;refine qca ?_;refine A1 (zW rfl rfl zc8) ?_;refine A1 zc1 ?_;refine Sp (d:=25) (p:=(b.length:Int)<p) (fun g25=>?_) (fun g25=>?_)
 ·
  refine qbd ?_;refine qac ?_;refine qaw ?_;refine Ct ?_;refine CQR ?_;refine qbA ?_;exact zV rfl rfl (za rfl ((zoz (zew (.inr (.inr (.inr (.inl g25)))))).symm)) (za rfl ((zew (.inr (.inr (.inr (.inl g25))))).symm))
 refine qal ?_;refine qca ?_;refine A1 (zW rfl rfl zc8) ?_;refine A1 mV ?_;refine A1 zbb ?_;refine A1 zc1 ?_;refine qaw ?_;refine Cf (p:=(b.length:Int)-p<size) (fun ht34=>?_) (fun ht34=>?_)
 ·
  refine CQR ?_;refine qbA ?_;exact zV rfl rfl (za rfl ((zoz (zew (.inr (.inr (.inr (.inr ht34)))))).symm)) (za rfl ((zew (.inr (.inr (.inr (.inr ht34))))).symm))
 have hok:=getOk_yes g12 g15 g19 g25 ht34;obtain⟨M,hM⟩:∃M,M=(b.drop p.toNat).take size.toNat:=⟨_,rfl⟩;have hml:M.length=size.toNat:=by rw[hM,um,List.length_drop];omega
 refine CSQR ?_;refine qaj ?_;refine qao ?_;refine qbb ?_;refine A0 (g_sl_lh rfl rfl rfl rfl zd3 yg) ?_;refine zj (d:=40) (y:=M) rfl (by rw[hM,List.drop_take];congr 1;omega) ?_;refine xn ?_;refine qa2 ?_;refine Lp (ι:=Nat) 0 (fun (k:Nat)=>((((Fr.none).set 8 (.val u64T (valU (M.take k)))).set 40 (.val (bsl u8T) M)).set 41 (.val i64T (M.length:Int))).set 42 (.val i64T (k:Int))) (fun (k:Nat)=>Hp.none) (fun (k:Nat)=>k≤M.length) (fun (k:Nat)=>M.length-k) (0) (uf _) ?_;intro k hinv;refine qak ?_;refine Cf (p:=k<M.length) (fun ht43=>?_) (fun ht43=>?_)
 ·
  obtain⟨x,hx⟩:∃x,M[k]?=some x:=⟨_,ub ht43⟩;refine CSQBQR ?_;refine A0 (zK (i:=k) rfl rfl rfl yc zd3 yh) ?_;refine A0 (zg rfl rfl ty_5) ?_;refine A0 aX ?_;refine CNR ?_;refine qax ?_;refine A0 (zl3 rfl rfl rfl ym rfl) ?_;refine A0 mX ?_;refine A0 (zjP rfl (znH) (us_5) rfl) ?_;refine A0 (ztM rfl rfl rfl) ?_;refine A0 aV ?_;refine qbh ?_;refine zj (d:=8) (y:=valU (M.take (k+1))) rfl (by rw[un,hx];show _=valU (M.take k++[x]);rw[zsP];rfl) ?_;exact Nx (k+1) yc yc
 refine CE ?_;refine qa4 ?_;refine qbA ?_;exact zV rfl rfl (za rfl (by rw[zno hok,uc yc,hM])) (za rfl (hok.symm))
theorem binBlob_ok (x:List UInt8):Tells P 269 [.val (bsl u8T) x] (.tup2 (.fresh 5 u8T (blobR x)) (.val zm (zeI x))):=by
 refine zc Tryz.func269 rfl rfl rfl (fun ext w hext=>?_);refine ze (d:=0) rfl zk (fun hsl0=>?_);refine qaq ?_;refine qaj ?_;refine xn ?_;refine qcC ?_;refine Cf (p:=65535<x.length) (fun ht6=>?_) (fun ht6=>?_)
 ·
  refine qbp ?_;exact zV rfl rfl (by rw[show blobR x=[] by unfold blobR zeI;rw[ur (by rw[uj];omega)]];exact zp rfl) (za rfl (by unfold zeI;symm;apply uh;omega))
 have hbo:zeI x=true:=ui yc;have hn:=zJ (zae (IntL.toI i64T (x.length:Int))) 2;refine qcG ?_;refine xn ?_;refine A0 (zjP rfl (znH) (us_3) rfl) ?_;refine A0 (oCl (zu (zlp _ 2 yp)) rfl zxa yl) ?_;refine zmg (S:=bsl u8T) (d:=10) rfl ?_;refine qax ?_;refine A0 (zX (T:=(bsl u8T)) (xs:=[_,_]) rfl zeN zep y4 rfl rfl) ?_;refine zaD (zgs [zB (zae (IntL.toI i64T (x.length:Int))) 2,x] (by simp[hn];omega)) rfl zoI yf rfl rfl rfl ?_;refine qch ?_;exact zV rfl rfl (zh rfl rfl (by unfold blobR;rw[ut hbo];unfold zi2;simp[IntL.toI])) (za rfl (hbo.symm))
theorem binCut_ok (b:List UInt8) (p:Int) (hb:b.length≤1000000000):Tells P 274 [.val (bsl u8T) b,.val i64T p] (.tup3 (.fresh 5 u8T (cutX b p)) (.val i64T (zlf b p)) (.val zm (cutE b p))):=by
 have hu:=get2_le (b:=b) (p:=p);refine zc Tryz.func274 rfl rfl rfl (fun ext w hext=>?_);refine ze (d:=0) rfl zk (fun hsl0=>?_);refine ze (d:=1) rfl zt (fun hin1=>?_);refine qaq ?_;refine A0 aV ?_;refine qag ?_;refine qax ?_;refine A0 (oCl (zul b p 2) rfl fn_233 yT) ?_;refine qbi ?_;refine A0 aV ?_;refine qaj ?_;refine A0 oN ?_;refine zaP (d:=18) (p:=zgZ b p 2=false) rfl (by cases zgZ b p 2<;>rfl) (fun g18=>?_) (fun g18=>?_)
 ·
  have hcn:cutE b p=false:=by unfold cutE;rw[g18];rfl
  refine qax ?_;refine qac ?_;refine qb7 ?_;refine qco ?_;refine Ct ?_;refine qaq ?_;refine qbA ?_;exact zdH rfl rfl (by rw[(zxs hcn).1];exact zp rfl) (za rfl (by rw[(zxs hcn).2])) (za rfl hcn.symm)
 have hg:zgZ b p 2=true:=by simpa using g18
 have hu2:=hu hg;have hgs:0≤p∧p≤b.length∧2≤(b.length:Int)-p:=by have h:=hg;unfold zgZ at h;rw[uj] at h;omega
 have hti:IntL.toI u64T (getU b p 2)=((getU b p 2).toNat:Int):=rfl;refine qax ?_;refine A1 mV ?_;refine A1 (zm8 rfl (ui_3) (zmV) rfl yaO) ?_;refine A1 mV ?_;refine A1 (zW rfl rfl zc8) ?_;refine A1 mV ?_;refine A1 zbb ?_;refine A1 zbb ?_;refine A1 zc1 ?_;refine qaw ?_;refine Cf (p:=(b.length:Int)-p-2<((getU b p 2).toNat:Int)) (fun ht28=>?_) (fun ht28=>?_)
 ·
  have hcn:cutE b p=false:=by unfold cutE;rw[hg,Bool.true_and,decide_eq_false_iff_not];omega
  refine qaq ?_;refine qbA ?_;exact zdH rfl rfl (by rw[(zxs hcn).1];exact zp rfl) (za rfl (by rw[(zxs hcn).2])) (za rfl hcn.symm)
 have hce:cutE b p=true:=by unfold cutE;rw[hg,Bool.true_and,uj];omega
 refine CSQR ?_;refine qbb ?_;refine qbb ?_;refine qax ?_;refine A0 (zm8 rfl (ui_3) (zmV) rfl yaO) ?_;refine A0 zdp ?_;refine A0 aV ?_;refine qag ?_;refine qao ?_;refine qax ?_;refine A0 (zwZ rfl rfl rfl rfl rfl zd3 yg) ?_;refine zj (d:=40) (y:=cutX b p) rfl (by rw[(zo0 hce).1,List.drop_take];congr 1<;>first|omega|(congr 1;omega)) ?_;have hcl:(cutX b p).length≤b.length:=by rw[(zo0 hce).1,um,List.length_drop];omega
 refine zaD (cloneU8 (cutX b p) yU) rfl fn_323 yf rfl rfl rfl ?_;refine qax ?_;refine A0 aO ?_;refine qbA ?_;exact zdH rfl rfl (zh rfl rfl yy) (za rfl (by rw[(zo0 hce).2,hti])) (za rfl hce.symm)
theorem binRows_ok (l:List (List UInt8)):Tells P 219 [.val (bsl (bsl u8T)) l] (.tup2 (.fresh 5 u8T (zuU l)) (.val zm (zeb l))):=by
 refine zc Tryz.func219 rfl rfl rfl (fun ext w hext=>?_);refine ze (d:=0) rfl zk (fun hsl0=>?_);refine qaq ?_;refine qaj ?_;refine A0 (zW rfl rfl zhI) ?_;refine qcC ?_;refine Cf (p:=255<l.length) (fun ht11=>?_) (fun ht11=>?_)
 ·
  refine qbp ?_;exact zV rfl rfl (by rw[show zuU l=[] by unfold zuU;rw[ur (by rw[rows_no ht11];decide)]];exact zp rfl) (za rfl ((rows_no ht11).symm))
 refine qcG ?_;refine A0 (zW rfl rfl zhI) ?_;refine A0 (zii rfl (ui_5) (us_3) rfl) ?_;refine qbB ?_;refine A0 aO ?_;refine qbg ?_;refine A0 (zW rfl rfl zhI) ?_;refine qa2 ?_;refine zA (n:=0) (y:=zpB l 0) rfl (by rfl) ?_;refine Lp (ι:=Nat) 1 (fun k=>((((Fr.none.set 0 (.val (bsl (bsl u8T)) l)).set 4 (.own 0)).set 16 (.val (bsl (bsl u8T)) l)).set 17 (.val i64T (l.length:Int))).set 18 (.val i64T (k:Int))) (fun k=>Hp.none.set 0 (.row 5 u8T (zpB l k))) (fun k=>k≤l.length∧∀x∈l.take k,zeI x=true) (fun k=>l.length-k) (0) (⟨uf _,fun x hx=>by simp at hx⟩) ?_;intro k hinv;refine qak ?_;refine Cf (p:=k<l.length) (fun ht19=>?_) (fun ht19=>?_)
 ·
  obtain⟨x,hx⟩:∃x,l[k]?=some x:=⟨_,ub ht19⟩;have hnl:=rowsN_len hinv.2;refine CSQBQR ?_;refine A0 (zK (i:=k) rfl rfl rfl yc zeN yh) ?_;refine A0 (zg rfl rfl zbi) ?_;refine qce ?_;refine A0 (oCl (zcn (binBlob_ok x)) rfl fn_269 ybN) ?_;refine qbi ?_;refine A0 aV ?_;refine qaj ?_;refine qaL ?_;refine zn (p:=¬zeI x=true) rfl (by cases zeI x<;>rfl) (fun ht28=>?_) (fun ht28=>?_)
  ·
   refine qbp ?_;exact zV rfl rfl (by rw[show zuU l=[] by unfold zuU;rw[ur (by rw[zwi hx ht28];decide)]];exact zp rfl) (za rfl ((zwi hx ht28).symm))
  have hbo:zeI x=true:=ua ht28;have hbr:blobR x=zi2 x:=by unfold blobR;rw[ut hbo]
  have hbx:=of_decide_eq_true hbo;have hbl:=zsh x;refine CS ?_;refine CR ?_;refine A0 mO ?_;refine qax ?_;refine zF rfl rfl rfl rfl rfl rfl rfl zc4 (by rw[hbr];simp;omega) ?_;refine A0 aO ?_;refine qbh ?_;refine xm ?_;refine zA (n:=0) (y:=zpB l (k+1)) rfl (by rw[hbr,rowsN_step hx]) ?_;exact Nx (k+1) (⟨by omega,fun y hy=>by rw[un,hx] at hy;rcases List.mem_append.1 hy with h|h;exact hinv.2 y h;simp at h;rw[h];exact hbo⟩) yc
 refine CE ?_;refine qb6 ?_;refine qch ?_;exact zV rfl rfl (zh rfl rfl (by unfold zuU;rw[zwj ht11 hinv.2 yc,ut rfl];exact rowsN_all yc)) (za rfl ((zwj ht11 hinv.2 yc).symm))
theorem znh {J:Job} {hp:Hp} {X:AV} {e:Nat} {α:Type} {T:GoT α} {l:List α} (h:X = .lit (.slice none 0 0)) (el:l=[]):zfT J hp X (.fresh e T l):=by subst el;exact zp h
theorem zn_rows:zay P 189 nilT ():=zeR zjc yr
theorem drop_two {b:List UInt8} {p:Nat} (h:p+2≤b.length):∃a c r,b.drop p=a::c::r∧r=b.drop (p+2):=by
  obtain⟨a,ha⟩:∃a,b[p]?=some a:=yv;obtain⟨c,hc⟩:∃c,b[p+1]?=some c:=yv;refine⟨a,c,b.drop (p+2),?_,rfl⟩;have h1:b.drop p=a::b.drop (p+1):=by
    obtain⟨h1,e⟩:=ul.1 ha;rw[List.drop_eq_getElem_cons h1,e]
  have h2:b.drop (p+1)=c::b.drop (p+2):=by
    obtain⟨h1,e⟩:=ul.1 hc;rw[List.drop_eq_getElem_cons h1,e]
  rw[h1,h2]
theorem zxu {b:List UInt8} {p:Nat} (hp:p≤b.length):cutN (b.drop p)=if cutE b p=true then some (cutX b p,b.drop (zlf b p).toNat) else none:=by
  by_cases h2:p+2≤b.length
  · obtain⟨a,c,r,e,er⟩:=drop_two h2
    have hg:zgZ b p 2=true:=by unfold zgZ;rw[uj];omega
    have hu:(getU b p 2).toNat=256*a.toNat+c.toNat:=by
      rw[zno hg];have e1:(b.drop (p:Int).toNat).take (2:Int).toNat=[a,c]:=by
        rw[show((p:Int)).toNat=p by omega,show(2:Int).toNat=2 from rfl,e];rfl
      rw[e1,zmn [a,c] yy];show 256*(256*0+a.toNat)+c.toNat=_;omega
    have hrl:r.length=b.length-(p+2):=by rw[er,List.length_drop]
    rw[e,cutN];by_cases h3:256*a.toNat+c.toNat≤r.length
    · have hce : cutE b p = true := by
        unfold cutE;rw[hg,Bool.true_and,uj,hu];omega
      obtain⟨c1,c2⟩:=zo0 hce;rw[ut h3,ut hce,c1,c2,hu,show((p:Int)).toNat=p by omega,←er];congr 2;rw[er,List.drop_drop];congr 1
    have hce : ¬ cutE b p = true := by
      unfold cutE;rw[hg,Bool.true_and,uj,hu];omega
    rw[ur h3,ur hce]
  have hg:zgZ b p 2=false:=zew yc;have hce:¬cutE b p=true:=by unfold cutE;rw[hg];simp
  rw[ur hce]
  match hd:b.drop p with
  | []=>rfl
  | [_]=>rfl
  | _::_::r =>
    have:=congrArg List.length hd
    rw[List.length_drop] at this;simp at this;omega
structure SplitAt (b:List UInt8) (N:Nat) (p:Nat) (out:List (List UInt8)):Prop where
  p1:1≤p
  p2:p≤b.length
  n:out.length≤N
  l:(pieces N (b.drop 1)).1=out++(pieces (N-out.length) (b.drop p)).1
  z:(pieces N (b.drop 1)).2=(pieces (N-out.length) (b.drop p)).2
theorem zuM {b:List UInt8} {N:Nat} (h:1≤b.length):SplitAt b N 1 []:=⟨ug _,h,uf _,rfl,rfl⟩
theorem zxt {b:List UInt8} {p:Nat} (hp:p≤b.length) (hc:cutE b p=true):∃q:Nat,zlf b p=(q:Int)∧p<q∧q≤b.length∧(cutX b p).length≤65535:=by
  have hg:zgZ b p 2=true:=by
    unfold cutE at hc;rw[uk] at hc;exact hc.1
  have hu:=get2_le hg;have hgs:=hg;unfold zgZ at hgs;rw[uj] at hgs;have h2:=hc;unfold cutE at h2;rw[uk,uj] at h2;obtain⟨c1,c2⟩:=zo0 hc;refine⟨p+2+(getU b p 2).toNat,by rw[c2];omega,by omega,by omega,?_⟩;rw[c1,um];omega
theorem split_go {b:List UInt8} {N p:Nat} {out:List (List UInt8)} (h:SplitAt b N p out) (hc:cutE b p=true) (hn:¬out.length=N):SplitAt b N (zlf b p).toNat (out++[cutX b p]):=by
  obtain⟨q,hq,h1,h2,_⟩:=zxt h.p2 hc;have hN:N-out.length=(N-(out++[cutX b p]).length)+1:=by
    have:=h.n
    rw[ue,List.length_singleton];omega
  have hp:pieces (N-out.length) (b.drop p)=(cutX b p::(pieces (N-(out++[cutX b p]).length) (b.drop (zlf b p).toNat)).1,(pieces (N-(out++[cutX b p]).length) (b.drop (zlf b p).toNat)).2):=by
    rw[hN,pieces,zxu h.p2,ut hc]
  have hp1:=h.p1;have hnn:=h.n;refine⟨by rw[hq];omega,by rw[hq];omega,by rw[ue,List.length_singleton];omega,?_,?_⟩
  · rw[h.l,hp,List.append_assoc];rfl
  rw[h.z,hp]
theorem zb4 {b:List UInt8} {N p:Nat} {out:List (List UInt8)} (h:SplitAt b N p out) (hc:cutE b p=false∨out.length=N):pieces N (b.drop 1)=(out,b.drop p):=by
  have hp:pieces (N-out.length) (b.drop p)=([],b.drop p):=by
    by_cases e:out.length=N
    · rw[show N-out.length=0 by omega];rfl
    have hn:=h.n;rw[show N-out.length=(N-out.length-1)+1 by omega,pieces,zxu h.p2,ur (by rw[hc.resolve_right e];decide)]
  have h1:=h.l;have h2:=h.z;rw[hp] at h1 h2;rw[List.append_nil] at h1;exact Prod.ext h1 h2
theorem zb5 {b:List UInt8} {n0:UInt8} {p:Nat} {out:List (List UInt8)} (h0:b[0]?=some n0) (h:pieces n0.toNat (b.drop 1)=(out,b.drop p)):zab b=if out.length=n0.toNat∧b.drop p=[] then (out,true) else ([],false):=by
  match b,h0 with
  | n::r,h0 =>
    have e:n=n0:=by simpa using h0
    subst e;have h:pieces n.toNat r=(out,(n::r).drop p):=h;unfold zab;simp only[];rw[h]
theorem zvK (b:List UInt8) (hb:b.length≤1000000000):Tells P 172 [.val (bsl u8T) b] (.tup2 (.fresh 22 (sl u8T) (zab b).1) (.val zm (zab b).2)):=by
 refine zc Tryz.func172 rfl rfl rfl (fun ext w hext=>?_);refine ze (d:=0) rfl zk (fun hsl0=>?_);refine qc6 ?_;refine qbS ?_;refine xq ?_;refine xn ?_;refine A0 zbZ ?_;refine CN ?_;refine zn (p:=b.length=0) rfl yH (fun ht10=>?_) (fun ht10=>?_)
 ·
  refine qbp ?_;exact zV rfl rfl (by rw[List.length_eq_zero_iff.1 ht10];exact zp rfl) (za rfl (by rw[List.length_eq_zero_iff.1 ht10];rfl))
 obtain⟨n0,hn0⟩:∃n0,b[0]?=some n0:=yv;have hn8:n0.toNat<256:=n0.toNat_lt;have hti8:IntL.toI u8T n0=(n0.toNat:Int):=rfl;refine CSQR ?_;refine zs zn_rows rfl rfl rfl rfl ?_;refine CN ?_;refine zur 1 22 (sl u8T) rfl ?_;refine CQR ?_;refine zs ze_3 rfl rfl rfl rfl ?_;refine qcm ?_;refine CNQQR ?_;refine xq ?_;refine zU rfl rfl rfl rfl Tryz.func232 fn_232 rfl rfl (fun ia2 iok2=>?_);refine qae ?_;refine qbo ?_;refine CNB ?_;refine zh2 rfl rfl rfl Tryz.func273 fn_273 rfl rfl yG (fun fid3 ca3 lN3 DN3 cok3 rc3 hrc3=>?_);refine CQR ?_;refine qc7 ?_;refine zaQ 2 7 8 rfl rfl rfl rfl rfl rfl ?_;refine Lp (ι:=Nat×List (List UInt8)) 8 (fun(p,out)=>((Fr.none.set 0 (.lit (.func (.yield lN3) #[] #[]))).set 1 (.ptr 4 0)).set 3 (.val i64T (p:Int))) (fun(p,out)=>((((((Hp.none.set 0 (.box 22 (bsl u8T) b)).set 1 (.parts 189 [.own 7])).set 3 (.box 3 i64T (p:Int))).set 4 (.box 22 (bsl u8T) b)).set 7 (.row 22 (sl u8T) out)).set 5 (.objAt DN3 (.deferred (some [])))).set 6 (.objAt lN3 (rc3 .ready none))) (fun(p,out)=>SplitAt b n0.toNat p out) (fun(p,out)=>b.length-p) ((1,[])) (zuM yc) ?_;intro⟨p,out⟩ hinv;dsimp only at hinv;refine CB ?_;refine CQR ?_;refine xq ?_;refine qax ?_;refine A0 (oCl (tells_pub3 (binCut_ok b p hb)) rfl fn_274 yl) ?_;refine qbi ?_;refine A0 e32 ?_;refine A0 aV ?_;refine A0 aV ?_;refine qaj ?_;refine A0 oN ?_;refine zaP (d:=15) (p:=cutE b p=false) rfl (by cases cutE b p<;>rfl) (fun g15=>?_) (fun g15=>?_)
 ·
  refine qax ?_;refine qb7 ?_;refine qco ?_;refine Ct ?_;refine zd9 (nL:=6) rfl hrc3 rfl yp ?_;refine CI ?_;refine qa8 ?_;refine G0 zdQ ?_;refine zaG (d:=33) (p:=¬out.length=n0.toNat) rfl (by rw[←decide_not,uo,hti8];simp only[IntL.toI,id_eq];omega) (fun g33=>?_) (fun g33=>?_)
  ·
   refine G0 mV ?_;refine qaK ?_;refine G2 ?_;refine qaW ?_;refine Ct ?_;refine qbp ?_;refine zap (zbD (nD:=5) rfl rfl rfl ?_);exact zkl rfl rfl (znh rfl (by rw[zb5 hn0 (zb4 hinv (.inl g15)),ur (fun h=>g33 h.1)])) (za rfl (by rw[zb5 hn0 (zb4 hinv (.inl g15)),ur (fun h=>g33 h.1)]))
  refine G0 mV ?_;refine G1 (oLs rfl rfl rfl ty_3) ?_;refine G1 (oLs rfl rfl rfl zbi) ?_;refine G1 (zW rfl rfl zc8) ?_;refine G1 zdQ ?_;refine qaW ?_;refine zn (p:=¬p=b.length) rfl ybn (fun ht39=>?_) (fun ht39=>?_)
  ·
   refine qbp ?_;refine zap (zbD (nD:=5) rfl rfl rfl ?_);exact zkl rfl rfl (znh rfl yaZ) (za rfl yaZ)
  refine qcF ?_;refine qch ?_;refine zap (zbD (nD:=5) rfl rfl rfl ?_);exact zkl rfl rfl (zh rfl rfl ybb) (za rfl ybb)
 have hce:cutE b p=true:=by simpa using g15
 obtain⟨q,hq,hpq,hqb,hxl⟩:=zxt hinv.p2 hce;have hol:=hinv.n;refine qax ?_;refine A1 mL ?_;refine qca ?_;refine zqX rfl rfl rfl rfl rfl rfl ?_;refine zh1 (nL:=6) rfl rfl rfl rfl rfl hrc3 rfl rfl rfl (fun ya4 yok4=>?_);refine CQR ?_;refine qc5 ?_;refine qad ?_;refine zh5 (nL:=6) hrc3 rfl ?_;refine CB ?_;refine qa8 ?_;refine G0 zbZ ?_;refine GK.nil ?_;refine Cf (p:=out.length=n0.toNat) (fun ht21=>?_) (fun ht21=>?_)
 ·
  refine zsk (nL:=6) rfl hrc3 rfl ?_;refine A1 oN ?_;refine qaw ?_;refine Ct ?_;refine zd9 (nL:=6) rfl hrc3 rfl yp ?_;refine CE ?_;refine qa8 ?_;refine G0 zdQ ?_;refine zaG (d:=33) (p:=¬out.length=n0.toNat) rfl (by rw[←decide_not,uo,hti8];simp only[IntL.toI,id_eq];omega) (fun g33=>?_) (fun g33=>?_)
  ·
   refine G0 mV ?_;refine qaK ?_;refine G2 ?_;refine qaW ?_;refine Ct ?_;refine qbp ?_;refine zap (zbD (nD:=5) rfl rfl rfl ?_);exact zkl rfl rfl (znh rfl (by rw[zb5 hn0 (zb4 hinv (.inr ht21)),ur (fun h=>g33 h.1)])) (za rfl (by rw[zb5 hn0 (zb4 hinv (.inr ht21)),ur (fun h=>g33 h.1)]))
  refine G0 mV ?_;refine G1 (oLs rfl rfl rfl ty_3) ?_;refine G1 (oLs rfl rfl rfl zbi) ?_;refine G1 (zW rfl rfl zc8) ?_;refine G1 zdQ ?_;refine qaW ?_;refine zn (p:=¬p=b.length) rfl ybn (fun ht39=>?_) (fun ht39=>?_)
  ·
   refine qbp ?_;refine zap (zbD (nD:=5) rfl rfl rfl ?_);exact zkl rfl rfl (znh rfl yaX) (za rfl yaX)
  refine qcF ?_;refine qch ?_;refine zap (zbD (nD:=5) rfl rfl rfl ?_);exact zkl rfl rfl (zh rfl rfl yba) (za rfl yba)
 refine qcF ?_;refine qax ?_;refine A0 (zX (T:=(sl u8T)) (xs:=[_]) rfl zeN zep yB rfl rfl) ?_;refine zF rfl rfl rfl rfl rfl rfl rfl zep yx ?_;refine zZ rfl rfl rfl rfl rfl rfl rfl rfl rfl rfl zsT ?_;refine CNR ?_;refine qax ?_;refine qcm ?_;refine CN ?_;refine CI ?_;refine zde (nL:=6) hrc3 rfl ?_;refine A1 oN ?_;refine qaw ?_;refine Cg ?_;refine CS ?_;refine CR ?_;refine qax ?_;refine qad ?_;refine CI ?_;refine zaQ 8 7 9 rfl rfl rfl rfl rfl rfl ?_;refine zP (n:=3) (y:=(((zlf b p).toNat:Nat):Int)) rfl (by rw[hq];omega) ?_;refine zj (d:=3) (y:=(((zlf b p).toNat:Nat):Int)) rfl (by rw[hq];omega) ?_;exact Nx (((zlf b p).toNat,out++[cutX b p])) (split_go hinv hce ht21) (by show b.length-(zlf b p).toNat<b.length-p;omega)
theorem zwX {l:List UInt8} {n:Nat} (h:l.length=n) (hn:n≤8):getU l 0 (n:Int)=valU l:=by
  have hg:zgZ l 0 (n:Int)=true:=by unfold zgZ;rw[uj];omega
  rw[zno hg,show(0:Int).toNat=0 from rfl,List.drop_zero,show((n:Int)).toNat=n by omega,uc yc]
theorem u32_of {l:List UInt8} (h:l.length≤4):zkq (IntL.toI u64T (valU l))=UInt32.ofNat (valU l).toNat:=by
  unfold zkq;have e:IntL.toI u64T (valU l)=((valU l).toNat:Int):=rfl;have h1:=zmn l yc;have h2:=zrf l;have h3:256^l.length≤256^4:=Nat.pow_le_pow_right yp h;have h4:(256:Nat)^4=4294967296:=rfl;rw[e];congr 1;omega
theorem dd (b:List UInt8) (i j k:Nat) (h:i+j=k):(b.drop i).drop j=b.drop k:=by rw[List.drop_drop,h]
theorem num4_at {X:List UInt8} (h:4≤X.length):getU (X.take (Int.toNat 4)) 0 4=valU (X.take 4):=zwX (l:=X.take 4) (n:=4) ybH yp
theorem num8_at {X:List UInt8} (h:8≤X.length):getU (X.take (Int.toNat 8)) 0 8=valU (X.take 8):=zwX (l:=X.take 8) (n:=8) ybH yp
theorem zhv {l:List UInt8} (h:l.length≤4):IntKind.i64.wrap (IntL.toI u64T (valU l))=((valU l).toNat:Int):=by
  have e:IntL.toI u64T (valU l)=((valU l).toNat:Int):=rfl;have h1:=zmn l yc;have h2:=zrf l;have h3:256^l.length≤256^4:=Nat.pow_le_pow_right yp h;have h4:(256:Nat)^4=4294967296:=rfl;rw[e];exact zax yc
theorem head_mk {x y:Head} (h1:x.height=y.height) (h2:x.prev=y.prev) (h3:x.links=y.links) (h4:x.txs=y.txs) (h5:x.past=y.past) (h6:x.work=y.work) (h7:x.bits=y.bits) (h8:x.nonce=y.nonce):x=y:=by
  cases x;cases y;simp only at h1 h2 h3 h4 h5 h6 h7 h8;subst h1 h2 h3 h4 h5 h6 h7 h8;rfl
def D1 (b:List UInt8):=b.drop (Int.toNat 4)
def D2 (b:List UInt8):=(D1 b).drop (Int.toNat 32)
def D3 (b:List UInt8):=(D2 b).drop (Int.toNat 32)
def D4 (b:List UInt8):=(D3 b).drop (Int.toNat 32)
def D5 (b:List UInt8):=(D4 b).drop (Int.toNat 32)
def D6 (b:List UInt8):=(D5 b).drop (Int.toNat 32)
def D7 (b:List UInt8):=(D6 b).drop (Int.toNat 4)
theorem d2 (b:List UInt8):D2 b=b.drop 36:=dd b 4 32 36 rfl
theorem d3 (b:List UInt8):D3 b=b.drop 68:=by unfold D3;rw[d2];exact dd b 36 32 68 rfl
theorem d4 (b:List UInt8):D4 b=b.drop 100:=by unfold D4;rw[d3];exact dd b 68 32 100 rfl
theorem d5 (b:List UInt8):D5 b=b.drop 132:=by unfold D5;rw[d4];exact dd b 100 32 132 rfl
theorem d6 (b:List UInt8):D6 b=b.drop 164:=by unfold D6;rw[d5];exact dd b 132 32 164 rfl
theorem d7 (b:List UInt8):D7 b=b.drop 168:=by unfold D7;rw[d6];exact dd b 164 4 168 rfl
theorem rd_is {b:List UInt8} (hl:b.length=176) {x:Head} (h1:x.height=IntKind.i64.wrap (IntL.toI u64T (getU (b.take (Int.toNat 4)) 0 4))) (h2:x.prev=(D1 b).take (Int.toNat 32)) (h3:x.links=(D2 b).take (Int.toNat 32)) (h4:x.txs=(D3 b).take (Int.toNat 32)) (h5:x.past=(D4 b).take (Int.toNat 32))
    (h6:x.work=zlX ((D5 b).take (Int.toNat 32))) (h7:x.bits=zkq (IntL.toI u64T (getU ((D6 b).take (Int.toNat 4)) 0 4))) (h8:x.nonce=getU ((D7 b).take (Int.toNat 8)) 0 8):x=zdv b:=by
  rw[num4_at yc,zhv ybH] at h1;rw[d2] at h3;rw[d3] at h4;rw[d4] at h5;rw[d5] at h6;rw[d6,num4_at (by rw[List.length_drop];omega),u32_of ybH] at h7;rw[d7,num8_at (by rw[List.length_drop];omega)] at h8;exact head_mk (h1.trans (by simp only[zdv])) (h2.trans ybw) (h3.trans ybw) (h4.trans ybw) (h5.trans ybw) (h6.trans ybw) (h7.trans (by simp only[zdv])) (h8.trans (by simp only[zdv]))
theorem zwo {b:List UInt8} (h:¬zc6 b=true):zm3 b=zko:=by unfold zm3;rw[ur h]
theorem zth {b:List UInt8} (h:zc6 b=true):zm3 b=zdv b:=by unfold zm3;rw[ut h]
theorem zuX (b:List UInt8):Tells P 111 [.val (bsl u8T) b] (.tup2 (.val zbW (zm3 b)) (.val zm (zc6 b))):=by
 refine zc Tryz.func111 rfl rfl rfl (fun ext w hext=>?_);refine ze (d:=0) rfl zk (fun hsl0=>?_);refine CQR ?_;refine qcE ?_;refine qaj ?_;refine xn ?_;refine qbk ?_;refine zn (p:=¬b.length=176) rfl ybn (fun ht8=>?_) (fun ht8=>?_)
 ·
  have hno:¬zc6 b=true:=by unfold zc6;rw[uk,uj];exact fun h=>ht8 h.1
  refine CQR ?_;refine A0 (zC rfl zq6 bd_55 .nil rfl) ?_;refine qbj ?_;refine qad ?_;exact zq rfl rfl (zl rfl rfl zaM ((zwo hno).symm)) (zT (za rfl ((Bool.eq_false_iff.2 hno).symm)))
 have hl:b.length=176:=ua ht8;refine qcG ?_;refine A0 (zC rfl ze_267 bd_267 (.cons znr zjB zbi rfl .nil) rfl) ?_;refine xb ?_;refine A0 aP ?_;refine CNQR ?_;refine qcE ?_;refine CNQR ?_;refine A0 mP ?_;refine zU rfl rfl rfl rfl Tryz.func173 fn_173 rfl rfl (fun ia1 iok1=>?_);refine CQR ?_;refine qaz ?_;refine A0 mP ?_;refine qax ?_;refine zU rfl rfl rfl rfl Tryz.func234 zmI rfl rfl (fun ia2 iok2=>?_);refine qaG ?_;refine A0 (zm8 rfl (ui_3) (zmV) rfl yaO) ?_;refine A0 (oFp zcR) ?_;refine zf rfl rfl rfl rfl rfl zar ty_3 rfl ?_;refine CNQR ?_;refine A0 mP ?_;refine zU rfl rfl rfl rfl Tryz.func174 ztU rfl rfl (fun ia3 iok3=>?_);refine qcf ?_;refine A0 mP ?_;refine zU rfl rfl rfl rfl Tryz.func234 zmI rfl rfl (fun ia4 iok4=>?_);refine qaq ?_;refine qan ?_;refine xN ?_;refine qb4 ?_;refine A0 mP ?_;refine zU rfl rfl rfl rfl Tryz.func174 ztU rfl rfl (fun ia5 iok5=>?_);refine qcf ?_;refine A0 mP ?_;refine zU rfl rfl rfl rfl Tryz.func234 zmI rfl rfl (fun ia6 iok6=>?_);refine qaq ?_;refine qan ?_;refine xN ?_;refine qb4 ?_;refine A0 mP ?_;refine zU rfl rfl rfl rfl Tryz.func174 ztU rfl rfl (fun ia7 iok7=>?_);refine qcf ?_;refine A0 mP ?_;refine zU rfl rfl rfl rfl Tryz.func234 zmI rfl rfl (fun ia8 iok8=>?_);refine qaq ?_;refine qan ?_;refine xN ?_;refine qb4 ?_;refine A0 mP ?_;refine zU rfl rfl rfl rfl Tryz.func174 ztU rfl rfl (fun ia9 iok9=>?_);refine qcf ?_;refine A0 mP ?_;refine zU rfl rfl rfl rfl Tryz.func234 zmI rfl rfl (fun ia10 iok10=>?_);refine qaq ?_;refine qan ?_;refine xN ?_;refine qb4 ?_;refine A0 (oFp zg1) ?_;refine zf rfl rfl rfl rfl rfl zdh zaj rfl ?_;refine A0 (oFp zg0) ?_;refine zf rfl rfl rfl rfl rfl zcA zaj rfl ?_;refine A0 (oFp ziT) ?_;refine zf rfl rfl rfl rfl rfl zf3 zaj rfl ?_;refine A0 (oFp zkb) ?_;refine zf rfl rfl rfl rfl rfl zgF zaj rfl ?_;refine CNQR ?_;refine A0 mP ?_;refine zU rfl rfl rfl rfl Tryz.func174 ztU rfl rfl (fun ia11 iok11=>?_);refine qcf ?_;refine A0 mP ?_;refine zU rfl rfl rfl rfl Tryz.func234 zmI rfl rfl (fun ia12 iok12=>?_);refine qaq ?_;refine qan ?_;refine xN ?_;refine qb4 ?_;refine A0 (oCl (zwA _) rfl fn_175 yf) ?_;refine A0 (oFp zl9) ?_;refine zf rfl rfl rfl rfl rfl zh7 za1 rfl ?_;refine CNQR ?_;refine A0 mP ?_;refine zU rfl rfl rfl rfl Tryz.func173 fn_173 rfl rfl (fun ia13 iok13=>?_);refine CQR ?_;refine qaz ?_;refine A0 mP ?_;refine qax ?_;refine zU rfl rfl rfl rfl Tryz.func234 zmI rfl rfl (fun ia14 iok14=>?_);refine qaG ?_;refine A0 (ztQ rfl (zuI) (zmV) rfl) ?_;refine A0 (oFp zdF) ?_;refine zf rfl rfl rfl rfl rfl za9 zcj rfl ?_;refine CNQR ?_;refine A0 mP ?_;refine zU rfl rfl rfl rfl Tryz.func173 fn_173 rfl rfl (fun ia15 iok15=>?_);refine CQR ?_;refine qaz ?_;refine A0 mP ?_;refine qax ?_;refine zU rfl rfl rfl rfl Tryz.func234 zmI rfl rfl (fun ia16 iok16=>?_);refine qaG ?_;refine A0 (oFp zhR) ?_;refine zf rfl rfl rfl rfl rfl zdi zcE rfl ?_;refine CNQ ?_;refine CQ ?_;refine zP (n:=2) (y:=zdv b) rfl (rd_is hl yae yae yae yae yae yae yae yae) ?_;refine CR ?_;refine qcj ?_;refine qcC ?_;refine Cf (p:=1048576<(zdv b).height) (fun ht42=>?_) (fun ht42=>?_)
 ·
  have hno:¬zc6 b=true:=fun h=>by have:=(rd_ok (b:=b) (by unfold zc6 at h;rw[uk,uj,uj] at h;exact h.2)).2;omega
  refine CQR ?_;refine A0 (zC rfl zq6 bd_55 .nil rfl) ?_;refine qbj ?_;refine qad ?_;exact zq rfl rfl (zl rfl rfl zaM ((zwo hno).symm)) (zT (za rfl ((Bool.eq_false_iff.2 hno).symm)))
 have hrh:(zdv b).height=((valU (b.take 4)).toNat:Int):=by simp only[zdv]
 have hyes:zc6 b=true:=by unfold zc6;rw[uk,uj,uj];exact⟨hl,by omega⟩
 refine CSQR ?_;refine qcc ?_;refine qbj ?_;refine qad ?_;exact zq rfl rfl (zl rfl rfl zaM ((zth hyes).symm)) (zT (za rfl (hyes.symm)))
abbrev noV:Value:=.iface 187 (.agg #[])
theorem fine_idle (b:Nat) (w:World):CallsDIn Fence.wide 0 P 108 #[.pointer (some ⟨b,0,none⟩)] .returning w fun e u w'=>e = .returned (.tuple #[])∧u = .returning∧w'=w:=by
  have hn:Tryz.f108.ntmps=7:=rfl;refine callsDIn_of_wpSIn Tryz.func108 rfl trivial fun c₀ cs hu=>?_
  rw[hn];apply wpSIn_seq;apply wpSIn_region;simp[wpOpsSIn,go_sem,recoverD,hu,Exit.thenS];apply wpSIn_seq;apply wpSIn_region;simp[wpOpsSIn,go_sem,recoverD,hu,Exit.thenS];refine wpSIn_cond (t:=false) (by simp[Act.eval,Array.replicate]) ?_;simp only[Bool.false_eq_true,if_false];refine wpSIn_of_wpIn rfl (wpIn_skip ?_);cases c₀
  simp_all [bodyPostS,results]
theorem zvr (b : Nat) (w : World) (x : Bool) (hw : w.heap[b]? = some (.cells #[.bool x] 4 (0, 0))) : CallsDIn Fence.wide 0 P 108 #[.pointer (some ⟨b, 0, none⟩)] (.panicking [{ v := noV, recovered := false }]) w
    fun e u w'=>e = .returned (.tuple #[])∧u = .panicking [{ v:=noV,recovered:=true }]∧w'=w.putObj b (.cells #[.bool false] 4 (0,0)):=by
  have hn:Tryz.f108.ntmps=7:=rfl;refine callsDIn_of_wpSIn Tryz.func108 rfl trivial fun c₀ cs hu=>?_
  rw[hn];apply wpSIn_seq;apply wpSIn_region;simp[wpOpsSIn,go_sem,recoverD,hu,Exit.thenS];apply wpSIn_seq;apply wpSIn_region;simp[wpOpsSIn,go_sem,recoverD,hu,Exit.thenS];refine wpSIn_cond (t:=true) (by simp[Act.eval,Array.replicate]) ?_;simp only[if_true];apply wpSIn_seq;apply wpSIn_region;simp[wpOpsSIn,go_sem,recoverD,hu,Exit.thenS];have hta:∀w,(Instr.typeAssert noV 20 187 false).run P w = .ok (.agg #[]) w:=fun w=>by kernel_rfl
  have hc:w.cell? { block:=b,off:=0 }=some (.bool x):=by simp[World.cell?,hw]
  have hz:w.frozen? { block:=b,off:=0 }=false:=by simp[World.frozen?,hw]
  have hs:w.setCell { block:=b,off:=0 } (.bool false)=w.putObj b (.cells #[.bool false] 4 (0,0)):=by
    unfold World.setCell World.putObj;congr 1;apply Array.ext_getElem?;intro i;rw[Array.getElem?_modify,Array.getElem?_setIfInBounds];by_cases e:b=i
    · subst e
      have hlt:b<w.heap.size:=(Array.getElem?_eq_some_iff.1 hw).1;rw[ut rfl,ut rfl,ut hlt,hw];rfl
    rw[ur e,ur e]
  rw[hta];simp only[Result.andThen_ok];apply wpSIn_region;simp[wpOpsSIn,go_sem,hc,hz,hs,bodyPostS,results]
theorem zgP:Catches P 108 4 noV:=⟨fn_108,fine_idle,zvr⟩
theorem zb3 (b:Bool):zps P 109 [.val zm b] (b=true) noV (.lit (.tuple #[])):=by
 refine ziR Tryz.func109 rfl rfl rfl (fun ext w hext=>?_);refine qa4 ?_;refine qaL ?_;refine zn (p:=¬b=true) rfl (by cases b<;>rfl) (fun ht3=>?_) (fun ht3=>?_)
 ·
  refine CR ?_;refine A0 (zw3 rfl zu_187 su_187) ?_;refine A0 (g_mkif rfl rfl yr) ?_;refine aw_panic rfl rfl rfl ?_;exact zpr (ht3)
 refine CS ?_;exact aw_fall (zxH rfl rfl rfl (ua ht3))
theorem zrq (l:List (List UInt8)):zps P 167 [.val (bsl (bsl u8T)) l] (zeb l=true) noV (.fresh 5 u8T (zj0 l)):=by
 refine ziR Tryz.func167 rfl rfl rfl (fun ext w hext=>?_);refine ze (d:=0) rfl zk (fun hsl0=>?_);refine qbD ?_;refine qax ?_;refine zls (binRows_ok l) rfl fn_219 yf zk8 rfl rfl rfl ?_;refine A0 yw ?_;refine qaa ?_;refine A0 aO ?_;refine qce ?_;refine zbh (zb3 (zeb l)) rfl zdx rfl ybN (fun hm=>?_) (fun hm=>?_)
 ·
  exact zpr (hm)
 refine A0 (oCl ((zb3 (zeb l)).1 hm) rfl zdx ybN) ?_;refine CNQR ?_;refine A0 mO ?_;refine qbm ?_;exact zsl rfl rfl hm (zh rfl rfl (by unfold zuU;rw[ut hm]))
theorem zku (b:List UInt8) (hb:b.length≤1000000000):zps P 110 [.val (bsl u8T) b] ((zab b).2=true) noV (.fresh 22 (sl u8T) (zab b).1):=by
 refine ziR Tryz.func110 rfl rfl rfl (fun ext w hext=>?_);refine ze (d:=0) rfl zk (fun hsl0=>?_);refine qbD ?_;refine qax ?_;refine zls (zvK b hb) rfl fn_172 yf zk8 rfl rfl rfl ?_;refine A0 yw ?_;refine qaa ?_;refine A0 aO ?_;refine qce ?_;refine zbh (zb3 (zab b).2) rfl zdx rfl ybN (fun hm=>?_) (fun hm=>?_)
 ·
  exact zpr (hm)
 refine A0 (oCl ((zb3 (zab b).2).1 hm) rfl zdx ybN) ?_;refine CNQR ?_;refine A0 mO ?_;refine qbm ?_;exact zsl rfl rfl hm (zh rfl rfl rfl)
theorem zkK (p:Proof):zps P 112 [.rptr paperT p] (ziu p=true) noV (.lit (.tuple #[])):=by
 refine ziR Tryz.func112 rfl rfl rfl (fun ext w hext=>?_);refine CQR ?_;refine A0 mR ?_;refine A0 (zef rfl rfl) ?_;refine A0 (oFr zdX zgE) ?_;refine A0 (oFr zd6 zdg) ?_;refine qbL ?_;refine A0 zfd ?_;refine Sp (d:=9) (p:=1≤p.m) (fun g9=>?_) (fun g9=>?_)
 ·
  refine qax ?_;refine qcJ ?_;refine A1 (oFr zd6 zdg) ?_;refine A1 (zg rfl rfl ty_3) ?_;refine A1 zih ?_;refine Sp (d:=16) (p:=p.m≤20) (fun g16=>?_) (fun g16=>?_)
  ·
   refine qal ?_;refine qcJ ?_;refine A1 (oFr zdG zcJ) ?_;refine A1 (zg rfl rfl ty_3) ?_;refine A1 zfd ?_;refine Sp (d:=24) (p:=1≤p.k) (fun g24=>?_) (fun g24=>?_)
   ·
    refine qal ?_;refine qcJ ?_;refine A1 (oFr zdG zcJ) ?_;refine A1 (zg rfl rfl ty_3) ?_;refine A1 zih ?_;refine Sp (d:=32) (p:=p.k≤20) (fun g32=>?_) (fun g32=>?_)
    ·
     refine qal ?_;refine qcJ ?_;refine A1 (oFr zat zau) ?_;refine A1 (zg rfl rfl zcm) ?_;refine A1 yaf ?_;refine A1 zih ?_;refine A0 oK ?_;refine zbh (zb3 (decide ((p.p.length:Int)≤100))) rfl zdx rfl yf (fun hm=>?_) (fun hm=>?_)
     ·
      exact zpr (fun h=>hm (ui (by have:=(zbJ h).1;omega)))
     refine A0 (oCl ((zb3 (decide ((p.p.length:Int)≤100))).1 hm) rfl zdx yf) ?_;refine CNQR ?_;refine A0 mR ?_;refine A0 (zef rfl rfl) ?_;refine A0 (oFr zdX zgE) ?_;refine A0 (oFr zat zau) ?_;refine A0 (zg rfl rfl zcm) ?_;refine A0 yaf ?_;refine qa2 ?_;refine Lp (ι:=Nat) 0 (fun i=>((Fr.none.set 48 (.val (sl zbl) p.p)).set 49 (.val i64T (p.p.length:Int))).set 50 (.val i64T (i:Int))) (fun i=>Hp.none) (fun i=>i≤p.p.length∧∀x∈p.p.take i,x.l.length≤32) (fun i=>p.p.length-i) (0) (⟨uf _,fun x hx=>by simp at hx⟩) ?_;intro i hinv;refine qak ?_;refine Cf (p:=i<p.p.length) (fun ht51=>?_) (fun ht51=>?_)
     ·
      have hlb:(p.p.length:Int)≤100:=of_decide_eq_true hm;obtain⟨x,hx⟩:∃x,p.p[i]?=some x:=⟨_,ub ht51⟩;refine CSQBQR ?_;refine A0 (zK (i:=i) rfl rfl rfl yc zfE yh) ?_;refine A0 (zg rfl rfl zga) ?_;refine qa1 ?_;refine CNR ?_;refine A0 (oFp zbA) ?_;refine A0 (oLb za4 za5) ?_;refine qaS ?_;refine A0 zih ?_;refine zbh (zb3 (decide ((x.l.length:Int)≤32))) rfl zdx rfl yf (fun hm2=>?_) (fun hm2=>?_)
      ·
       exact zpr (fun h=>hm2 (ui (by have:=(zbJ h).2 x (ud hx);omega)))
      refine A0 (oCl ((zb3 (decide ((x.l.length:Int)≤32))).1 hm2) rfl zdx yf) ?_;refine qbh ?_;exact Nx (i+1) (⟨by omega,fun y hy=>by rw[un,hx] at hy;rcases List.mem_append.1 hy with h|h;exact hinv.2 y h;simp at h;rw[h];have:=of_decide_eq_true hm2;omega⟩) yc
     refine CE ?_;exact aw_fall (zxH rfl rfl rfl (by unfold ziu;rw[uk,uj,List.all_eq_true];exact⟨⟨g9,g16,g24,g32,by have:=of_decide_eq_true hm;omega⟩,fun y hy=>ui (hinv.2 y (by rw[uc yc];exact hy))⟩))
    refine qbd ?_;refine qb7 ?_;refine A0 oK ?_;refine zbh (zb3 false) rfl zdx rfl yf (fun hm=>?_) (fun h=>absurd h yp);exact zpr (fun h=>by have:=(zbJ h).1;omega)
   refine qbd ?_;refine qac ?_;refine qbd ?_;refine qb7 ?_;refine A0 oK ?_;refine zbh (zb3 false) rfl zdx rfl yf (fun hm=>?_) (fun h=>absurd h yp);exact zpr (fun h=>by have:=(zbJ h).1;omega)
  refine qbd ?_;refine qac ?_;refine qbd ?_;refine qac ?_;refine qbd ?_;refine qb7 ?_;refine A0 oK ?_;refine zbh (zb3 false) rfl zdx rfl yf (fun hm=>?_) (fun h=>absurd h yp);exact zpr (fun h=>by have:=(zbJ h).1;omega)
 refine qax ?_;refine qac ?_;refine qac ?_;refine qbd ?_;refine qac ?_;refine qbd ?_;refine qac ?_;refine qbd ?_;refine qb7 ?_;refine A0 oK ?_;refine zbh (zb3 false) rfl zdx rfl yf (fun hm=>?_) (fun h=>absurd h yp);exact zpr (fun h=>by have:=(zbJ h).1;omega)
theorem hd_rel {U N:Nat→Prop} {w:World} {h:Head} {cs:List Value} (hr:zbW.rel U N w h cs):HW h:=by
  obtain⟨_,_,_,_,_,_,_,h1,_,_,_,h2,_,_,_,h3,_,_,_,h4,_,_,_,h5,_⟩:=hr;exact⟨h1.1,h2.1,h3.1,h4.1,h5.1⟩
theorem is_rel {U N:Nat→Prop} {w:World} {b:Bool} {l:List Ab.Id} {cs:List Value} (hr:(slT b idT).rel U N w l cs):∀y∈l,y.length=32:=fun x hx=>by
  obtain⟨ad,cap,_,_,_,h3⟩:=hr;obtain⟨_,ds,_,_,hr,_⟩:=h3 (List.ne_nil_of_mem hx);obtain⟨c,hc⟩:=zeT hr x hx;exact hc.1
theorem fact_pw {p:Proof} {ρ:Nat→Value} {B:Nat→Prop} {U N:Nat→Prop} {w:World} {v:Value} (h:(AV.val zac p).rel ρ B U N w v):PW p:=by
  obtain⟨cs,⟨c1,c2,_,_,c3,c4,_,_,a,cap,_,_,_,h3⟩,_⟩:=h;intro x hx;obtain⟨i,hi⟩:=List.getElem?_of_mem hx;obtain⟨ad,ds,_,_,hr,_⟩:=h3 (List.ne_nil_of_mem hx);obtain⟨d1,d2,_,hh,hl⟩:=hr.get hi;exact⟨hd_rel hh,is_rel hl⟩
theorem putL_is (p:Proof):putL p=zcl (IntL.toI i64T p.m)::zcl (IntL.toI i64T p.k)::zj0 (p.p.map zcp):=rfl
theorem wok_of {p:Proof} (hs:ziu p=true) (h:∀x∈p.p,hOk x.h=true):wOk p=true:=by unfold wOk;rw[hs,Bool.true_and,List.all_eq_true];exact h
theorem sum_le {α:Type} (f:α→Nat) (c:Nat):∀l:List α,(∀x∈l,f x≤c)→(l.map f).sum≤l.length*c
  | [],_=>by simp
  | x::l,h=>by
    rw[List.map_cons,List.sum_cons,List.length_cons,Nat.add_mul,Nat.one_mul];have h1:=sum_le f c l (fun y hy=>h y (List.mem_cons_of_mem _ hy));have h2:=h x (List.mem_cons_self ..);omega
theorem put_bd {p:Proof} (hw:PW p) (h:wOk p=true):(putL p).length≤126903:=by
  obtain⟨h1,h2⟩:=zbJ (zjd h).1;rw[zuY hw h];have h3:=sum_le (fun x:Part=>181+34*x.l.length) 1269 p.p (fun x hx=>by have:=h2 x hx;omega);have h4:p.p.length*1269≤100*1269:=Nat.mul_le_mul_right _ h1.2.2.2.2;omega
theorem rows_bd {p:Proof} (hw:PW p) (h:wOk p=true):(zj0 (p.p.map zcp)).length≤126901:=by
  have:=put_bd hw h
  rw[putL_is,List.length_cons,List.length_cons] at this;omega
def zfu (p:Proof):List UInt8:=if wOk p=true then putL p else []
theorem zti (p:Proof) (hw:PW p):zps P 99 [.rptr paperT p] (wOk p=true) noV (.fresh 5 u8T (putL p)):=by
 refine ziR Tryz.func99 rfl rfl rfl (fun ext w hext=>?_);refine qbD ?_;refine A0 mR ?_;refine zbh (zkK p) rfl zxc rfl ⟨(zD rfl),trivial⟩ (fun hs=>?_) (fun hs=>?_)
 ·
  exact zpr (fun h=>hs (zjd h).1)
 refine A0 (oCl ((zkK p).1 hs) rfl zxc ⟨(zD rfl),trivial⟩) ?_;refine CNQR ?_;refine A0 aL ?_;refine CNQQR ?_;refine A0 mR ?_;refine A0 (zef rfl rfl) ?_;refine A0 (oFr zdX zgE) ?_;refine A0 (oFr zat zau) ?_;refine A0 (zg rfl rfl zcm) ?_;refine A0 yaf ?_;refine qa2 ?_;have hlb:=(zbJ hs).1;refine zcv (T:=bsl u8T) (d:=3) 22 rfl ?_;refine Lp (ι:=Nat) 1 (fun i=>((((Fr.none.set 0 (.rptr paperT p)).set 3 (.own 0)).set 17 (.val (sl zbl) p.p)).set 18 (.val i64T (p.p.length:Int))).set 19 (.val i64T (i:Int))) (fun i=>Hp.none.set 0 (.row 22 (bsl u8T) ((p.p.take i).map zcp))) (fun i=>i≤p.p.length∧∀x∈p.p.take i,hOk x.h=true) (fun i=>p.p.length-i) (0) (⟨uf _,fun x hx=>by simp at hx⟩) ?_;intro i hinv;refine qak ?_;refine Cf (p:=i<p.p.length) (fun ht20=>?_) (fun ht20=>?_)
 ·
  obtain⟨x,hx⟩:∃x,p.p[i]?=some x:=⟨_,ub ht20⟩;refine CSQBQR ?_;refine A0 (zK (i:=i) rfl rfl rfl yc zfE yh) ?_;refine A0 (zg rfl rfl zga) ?_;refine qa1 ?_;refine CNQR ?_;refine A0 (oFp zbk) ?_;refine A0 (oLb zaU zaM) ?_;refine A0 (oCl (zcn (zvj x.h)) rfl fn_69 yf) ?_;refine qbi ?_;refine A0 aV ?_;refine qag ?_;refine zbh (zb3 (hOk x.h)) rfl zdx rfl yf (fun hm=>?_) (fun hm=>?_)
  ·
   exact zpr (fun h=>hm ((zjd h).2 x (ud hx)))
  refine A0 (oCl ((zb3 (hOk x.h)).1 hm) rfl zdx yf) ?_;refine CNQR ?_;refine qax ?_;refine zmg (S:=bsl u8T) (d:=31) rfl ?_;refine zce (T:=(bsl u8T)) (xs:=[_]) rfl rfl rfl rfl zeN zep yB rfl rfl ?_;refine A0 aO ?_;refine CNQQR ?_;refine A0 (oFp zbA) ?_;refine A0 (oLb za4 za5) ?_;refine qaS ?_;refine qa2 ?_;have hxl:=(zbJ hs).2 x (ud hx);refine Lp (ι:=Nat) 3 (fun j=>((((((((Fr.none.set 0 (.rptr paperT p)).set 3 (.own 0)).set 8 (.own 2)).set 17 (.val (sl zbl) p.p)).set 18 (.val i64T (p.p.length:Int))).set 19 (.val i64T (i:Int))).set 34 (.val (sl idT) x.l)).set 35 (.val i64T (x.l.length:Int))).set 36 (.val i64T (j:Int))) (fun j=>(Hp.none.set 0 (.row 22 (bsl u8T) ((p.p.take i).map zcp))).set 2 (.row 22 (bsl u8T) (zav x.h::x.l.take j))) (fun j=>j≤x.l.length) (fun j=>x.l.length-j) (0) (uf _) ?_;intro j hj;refine qak ?_;refine Cf (p:=j<x.l.length) (fun ht37=>?_) (fun ht37=>?_)
  ·
   obtain⟨y,hy⟩:∃y,x.l[j]?=some y:=⟨_,ub ht37⟩;refine CSQBQR ?_;refine A0 (zK (i:=j) rfl rfl rfl yc zb8 yh) ?_;refine A0 (zg rfl rfl zaj) ?_;refine qaM ?_;refine qau ?_;refine CN ?_;refine zdR (d:=10) rfl rfl (Lens.self _) ?_;refine CR ?_;refine A0 mO ?_;refine A0 (ziM rfl rfl zjH rfl rfl) ?_;refine A0 (zX (T:=(bsl u8T)) (xs:=[_]) rfl zeN zep yB rfl rfl) ?_;refine zF rfl rfl rfl rfl rfl rfl rfl zep (by simp[um];omega) ?_;refine A0 aO ?_;refine qbh ?_;refine zaQ 4 2 5 rfl rfl rfl rfl rfl rfl ?_;refine zA (n:=2) (y:=zav x.h::x.l.take (j+1)) rfl (by rw[un,hy];rfl) ?_;exact Nx (j+1) yc yc
  refine CE ?_;have hr1:=row_ok (hw x (ud hx)).1 hm (hw x (ud hx)).2 ((zbJ hs).2 x (ud hx));refine zA (n:=2) (y:=zav x.h::x.l) rfl yN ?_;refine CR ?_;refine A0 mO ?_;refine A0 mO ?_;refine A0 (oCl (zu ((zrq (zav x.h::x.l)).1 hr1)) rfl fn_167 ⟨(zO rfl rfl),trivial⟩) ?_;refine zmg (S:=bsl u8T) (d:=47) rfl ?_;refine A0 (zX (T:=(bsl u8T)) (xs:=[_]) rfl zeN zep yB rfl rfl) ?_;refine zF rfl rfl rfl rfl rfl rfl rfl zep (by simp[um];omega) ?_;refine A0 aO ?_;refine qbh ?_;refine zaQ 3 0 4 rfl rfl rfl rfl rfl rfl ?_;refine zA (n:=0) (y:=(p.p.take (i+1)).map zcp) rfl (by rw[un,hx,List.map_append];rfl) ?_;exact Nx (i+1) (⟨by omega,fun y hy=>by rw[un,hx] at hy;rcases List.mem_append.1 hy with h|h;exact hinv.2 y h;simp at h;rw[h];exact hm⟩) yc
 refine CE ?_;refine CQ ?_;have hwk:=wok_of hs (fun y hy=>hinv.2 y (by rw[uc yc];exact hy));have hbd:=rows_bd hw hwk;refine zA (n:=0) (y:=p.p.map zcp) rfl yN ?_;refine zx [some 1,some 1,some 1,some 1,some 1,some 1,some 1,some 1,some 1,some 1,some 1,some 1,none,some 2,some 2,none,some 1] mixed ye ?_;refine X0 mR ?_;refine X0 (zef rfl rfl) ?_;refine X0 (oFr zdX zgE) ?_;refine X0 (oFr zd6 zdg) ?_;refine X0 (zg rfl rfl ty_3) ?_;refine X0 (zii rfl (ui_5) (us_3) rfl) ?_;refine X0 mR ?_;refine X0 (zef rfl rfl) ?_;refine X0 (oFr zdX zgE) ?_;refine X0 (oFr zdG zcJ) ?_;refine X0 (zg rfl rfl ty_3) ?_;refine X0 (zii rfl (ui_5) (us_3) rfl) ?_;refine XK.e (fun fr' hfr kk H=>by exact zce (T:=u8T) (xs:=[_,_]) rfl rfl rfl rfl zd3 zc4 ⟨rfl,((hfr 56 ye).trans rfl),rfl,((hfr 62 ye).trans rfl),trivial⟩ rfl rfl (zr H)) ?_;refine XK.g2 (g_mo (.inl rfl) rfl) (g_mo (.inl rfl) rfl) rfl rfl rfl ?_;refine XK.g2 (zgl (zu ((zrq (p.p.map zcp)).1 (zrz hw hwk))) rfl fn_167 ⟨(zO rfl rfl),trivial⟩ rfl) (zgl (zu ((zrq (p.p.map zcp)).1 (zrz hw hwk))) rfl fn_167 ⟨(zO rfl rfl),trivial⟩ rfl) rfl rfl rfl ?_;refine XK.e (fun fr' hfr kk H=>by exact zF rfl rfl rfl rfl ((hfr 63 ye).trans rfl) rfl ((hfr 65 ye).trans rfl) zc4 (by simp[um];omega) (zr H)) ?_;refine X0 aO ?_;refine xf ?_;exact zsl rfl rfl hwk (zh rfl rfl rfl)
theorem zu3 (p:Proof):Tells P 43 [.val zac p] (.tup2 (.val (sl u8T) (zfu p)) (.val zm (wOk p))):=by
 refine zc Tryz.func43 rfl rfl rfl (fun ext w hext=>?_);refine ze (d:=0) rfl fact_pw (fun hw=>?_);refine qc6 ?_;refine qaz ?_;refine qaQ ?_;refine A0 (zC rfl ze_110 bd_110 (.cons zdX zgE zaR rfl .nil) rfl) ?_;refine xb ?_;refine zf2 zp_108 rfl rfl rfl rfl rfl rfl ?_;refine zZ rfl rfl rfl rfl rfl rfl rfl rfl rfl rfl zmo ?_;refine CNQR ?_;refine zs ze_22 rfl rfl rfl rfl ?_;refine CNQR ?_;refine xp ?_;refine zU rfl rfl rfl rfl Tryz.func49 fn_49 rfl rfl (fun ia2 iok2=>?_);refine CQR ?_;refine zs ze_4 rfl rfl rfl rfl ?_;refine CNQR ?_;refine xi ?_;refine zxC rfl rfl rfl rfl rfl rfl rfl (fun bD=>?_);refine CNQR ?_;refine A0 mC ?_;refine zcN rfl rfl rfl rfl rfl Tryz.func98 fn_98 rfl rfl yM (fun ia3 iok3=>?_);refine CR ?_;refine A0 yaF ?_;refine zbh (zti p hw) rfl fn_99 rfl ybQ (fun hm=>?_) (fun hm=>?_)
 ·
  refine ap_inl ?_;refine ap_fine (n:=4) zgP rfl rfl rfl ty_4 ?_;refine qaz ?_;refine xq ?_;refine qax ?_;refine qbA ?_;exact zV rfl rfl (za rfl (by unfold zfu;rw[ur hm])) (za rfl (Bool.eq_false_iff.2 hm).symm)
 refine A0 (oCl (zu ((zti p hw).1 hm)) rfl fn_99 ybQ) ?_;refine zf rfl rfl rfl rfl rfl (Lens.self _) zbi rfl ?_;refine CN ?_;refine zgB rfl ?_;refine CNQR ?_;refine zqY rfl rfl rfl rfl rfl ty_4 rfl ?_;refine CN ?_;refine zq0 zgP rfl rfl rfl ty_4 ?_;refine qaz ?_;refine xq ?_;refine qax ?_;refine qbA ?_;exact zV rfl rfl (za rfl (by unfold zfu;rw[ut hm])) (za rfl hm.symm)
def zdD (b:List UInt8):Proof:=if zcG b=true then zkF b else zbL
theorem zhF {b:List UInt8} (h:zcG b=false):zdD b=zbL:=by unfold zdD;rw[h];rfl
theorem zkE {b:List UInt8} (h:zcG b=true):zdD b=zkF b:=by unfold zdD;rw[ut h]
theorem no_len {b:List UInt8} (h:¬decide ((2:Int)<(b.length:Int))=true):zcG b=false:=by
  unfold zcG;rw[uj] at h;rw[uh yc];rfl
theorem no_split {b:List UInt8} (h:¬(zab (b.drop 2)).2=true):zcG b=false:=by
  unfold zcG;rw[Bool.eq_false_iff.2 h,Bool.and_false];rfl
theorem zrG {b r:List UInt8} (hr:r∈(zab (b.drop 2)).1) (h:¬zfc r=true):zcG b=false:=by
  unfold zcG
  have:(zab (b.drop 2)).1.all zfc=false:=List.all_eq_false.2 ⟨r,hr,h⟩
  rw[this,Bool.and_false];rfl
theorem no_size {b:List UInt8} (h:¬ziu (zkF b)=true):zcG b=false:=by
  unfold zcG;rw[Bool.eq_false_iff.2 h,Bool.and_false]
theorem pno_split {r:List UInt8} (h:¬(zab r).2=true):¬zfc r=true:=fun hp=>by
  unfold zfc at hp;rw[uk] at hp;exact h hp.1
theorem pno_nil {r:List UInt8} (h:¬decide ((0:Int)<((zab r).1.length:Int))=true):¬zfc r=true:=fun hp=>by
  unfold zfc at hp;rw[uj] at h
  have:(zab r).1=[]:=List.length_eq_zero_iff.1 yc
  rw[this] at hp;simp at hp
theorem pno_head {r x:List UInt8} (hx:(zab r).1[0]?=some x) (h:¬zc6 x=true):¬zfc r=true:=fun hp=>by
  unfold zfc at hp;cases hl:(zab r).1 with
  | nil=>rw[hl] at hx;simp at hx
  | cons z l =>
    rw[hl] at hx hp;simp at hx;subst hx;simp only[uk] at hp;exact h hp.2.1
theorem pno_id {r y:List UInt8} (hy:y∈(zab r).1.drop 1) (h:¬decide ((y.length:Int)=32)=true):¬zfc r=true:=fun hp=>by
  unfold zfc at hp;rw[uj] at h;cases hl:(zab r).1 with
  | nil=>rw[hl] at hy;simp at hy
  | cons z l =>
    rw[hl] at hy hp;simp only[uk,List.all_eq_true,uj] at hp;exact h (by have:=hp.2.2 y hy;omega)
theorem part_yes {r x:List UInt8} (h1:(zab r).2=true) (hx:(zab r).1[0]?=some x) (h2:zc6 x=true) (h3:∀y∈(zab r).1.drop 1,y.length=32):zfc r=true∧(⟨zm3 x,(zab r).1.drop 1⟩:Part)=zdm r:=by
  unfold zfc zdm;cases hl:(zab r).1 with
  | nil=>rw[hl] at hx;simp at hx
  | cons z l =>
    rw[hl] at hx h3;simp at hx;subst hx;refine⟨?_,?_⟩
    · simp only[uk,List.all_eq_true,uj]
      exact⟨h1,h2,fun y hy=>h3 y hy⟩
    rw[zth h2];rfl
theorem mem_sum {α:Type} (f:α→Nat) {x:α}:∀{l:List α},x∈l→f x≤(l.map f).sum
  | y::l,h=>by
    rw[List.map_cons,List.sum_cons];rcases List.mem_cons.1 h with e|h
    · rw[e];omega
    have:=mem_sum f h;omega
theorem row_short {b r:List UInt8} (h:(zab b).2=true) (hr:r∈(zab b).1):r.length≤b.length:=by
  have e:=(zqe h).1;have h1:=zng (zab b).1;rw[e] at h1;have h2:2+r.length≤_:=mem_sum (fun x:List UInt8=>2+x.length) hr;omega
theorem zwh {b:List UInt8} (h:(zab b).2=true):(zab b).1.length≤255:=by
  have:=(zqe h).2
  unfold zeb at this;rw[uk,uj] at this;exact this.1
theorem yes_read {b:List UInt8} (h1:decide ((2:Int)<(b.length:Int))=true) (h2:(zab (b.drop 2)).2=true) (h3:∀r∈(zab (b.drop 2)).1,zfc r=true) (h4:ziu (zkF b)=true):zcG b=true:=by
  unfold zcG;rw[uj] at h1;rw[h2,h4,ui yc,List.all_eq_true.2 h3];rfl
theorem readP_is {b:List UInt8} {b0 b1:UInt8} (h0:b[0]?=some b0) (h1:b[1]?=some b1):(⟨(b0.toNat:Int),(b1.toNat:Int),(zab (b.drop 2)).1.map zdm⟩:Proof)=zkF b:=by
  unfold zkF;rw[uq,uq,h0,h1];rfl
theorem zn_paper:zay P 110 proofN (0,0,()):=zY (zS zbG (zS zbG zjc)) yr
def partN:GoT (Head×Unit):=zbv zbW nilT
theorem zn_part:zay P 72 partN (zko,()):=zY (zS zim zjc) yr
theorem split_part {h:Head}:zdL partN (h,()) [.val zbW h,.lit (.slice none 0 0)]:=zaB zaz znQ
theorem join_part {h:Head} {l:List Ab.Id}:zlC zbl (⟨h,l⟩:Part) [.val zbW h] idT l:=zwN (zgi zov)
theorem cvi_u8 (x:UInt8):IntKind.i64.wrap (IntL.toI u8T x)=(x.toNat:Int):=by
  have h:x.toNat<256:=x.toNat_lt;have e:IntL.toI u8T x=(x.toNat:Int):=rfl;rw[e];exact zax yc
theorem zwq (b:List UInt8) (hb:b.length≤1000000000):Tells P 16 [.val (bsl u8T) b] (.tup2 (.val zac (zdD b)) (.val zm (zcG b))):=by
 refine zc Tryz.func16 rfl rfl rfl (fun ext w hext=>?_);refine ze (d:=0) rfl zk (fun hsl0=>?_);refine qae ?_;refine qby ?_;refine qaz ?_;refine A0 (zC rfl zn_paper bd_110 .nil rfl) ?_;refine xb ?_;refine zf2 zp_108 rfl rfl rfl rfl rfl rfl ?_;refine zZ rfl rfl rfl rfl rfl rfl rfl rfl rfl rfl zmo ?_;refine CN ?_;refine zdd 2 (x:=(0,0,())) zhy rfl ?_;refine zd8 2 72 zbl [.val i64T 0,.val i64T 0] rfl yW ?_;refine CQQR ?_;refine xp ?_;refine zU rfl rfl rfl rfl Tryz.func49 fn_49 rfl rfl (fun ia3 iok3=>?_);refine CQR ?_;refine zs ze_4 rfl rfl rfl rfl ?_;refine CNQR ?_;refine xi ?_;refine zxC rfl rfl rfl rfl rfl rfl rfl (fun bD=>?_);refine CNQR ?_;refine A0 mC ?_;refine zcN rfl rfl rfl rfl rfl Tryz.func50 fn_50 rfl rfl yM (fun ia4 iok4=>?_);refine CR ?_;refine A0 yaF ?_;refine xq ?_;refine zU rfl rfl rfl rfl Tryz.func51 fn_51 rfl rfl (fun ia5 iok5=>?_);refine qa4 ?_;refine xn ?_;refine A0 zc1 ?_;refine zbh (zb3 (decide ((2:Int)<(b.length:Int)))) rfl zdx rfl yf (fun hm1=>?_) (fun hm1=>?_)
 ·
  have hno:=no_len hm1;refine qbf ?_;refine Ct ?_;refine CQR ?_;refine xE ?_;refine qcx ?_;exact zq rfl rfl (zl rfl rfl zaR ((zhF hno).symm)) (zT (za rfl (hno.symm)))
 refine A0 (oCl ((zb3 (decide ((2:Int)<(b.length:Int)))).1 hm1) rfl zdx yf) ?_;refine CNQ ?_;have hbl:2<b.length:=by have:=of_decide_eq_true hm1;omega
 obtain⟨b0,hb0⟩:∃x,b[0]?=some x:=yv;obtain⟨b1,hb1⟩:∃x,b[1]?=some x:=yv;have hb08:b0.toNat<256:=b0.toNat_lt;have hb18:b1.toNat<256:=b1.toNat_lt;refine zx [some 1,some 1000001,some 1,some 1,some 1,some 1,some 1,some 1,some 1,some 1000001,some 1,some 1,some 1,none,some 1,some 1,some 1,none] mixed ye ?_;refine X0 mP ?_;refine XK.ga (fun _=>g_mp (.inl rfl) rfl) rfl rfl rfl ?_;refine X0 mV ?_;refine X0 (zK (i:=0) rfl rfl rfl yc zd3 yh) ?_;refine X0 (zg rfl rfl ty_5) ?_;refine X0 (zm8 rfl (ui_3) (us_5) rfl (by exact cvi_u8 _)) ?_;refine X0 mV ?_;refine X0 (zK (i:=1) rfl rfl rfl yc zd3 yh) ?_;refine X0 (zg rfl rfl ty_5) ?_;refine XK.ga (fun _=>zm8 rfl (ui_3) (us_5) rfl (by exact cvi_u8 _)) rfl rfl rfl ?_;refine xh ?_;refine X0 (oFp zdX) ?_;refine X0 (oFp zd6) ?_;refine XK.e (x:=.idk) (fun fr' hfr kk H=>by exact zZ rfl rfl rfl ((hfr 28 ye).trans rfl) rfl rfl ((hfr 21 ye).trans rfl) rfl rfl rfl ty_3 (zr H)) ?_;refine xh ?_;refine X0 (oFp zdX) ?_;refine X0 (oFp zdG) ?_;refine XK.e (x:=.idk) (fun fr' hfr kk H=>by exact zZ rfl rfl rfl ((hfr 31 ye).trans rfl) rfl rfl ((hfr 25 ye).trans rfl) rfl rfl rfl ty_3 (zr H)) ?_;refine xf ?_;refine qb1 ?_;refine A0 (zhi rfl rfl rfl zd3 yg) ?_;refine zbh (zku (b.drop 2) yx) rfl zxd rfl yf (fun hs1=>?_) (fun hs1=>?_)
 ·
  have hno:=no_split hs1;refine qbf ?_;refine Ct ?_;refine CQR ?_;refine xE ?_;refine qcx ?_;exact zq rfl rfl (zl rfl rfl zaR ((zhF hno).symm)) (zT (za rfl (hno.symm)))
 refine A0 (oCl (zu ((zku (b.drop 2) yx).1 hs1)) rfl zxd yf) ?_;obtain⟨R,hR⟩:∃R,R=(zab (b.drop 2)).1:=⟨_,rfl⟩;have hRl:R.length≤255:=hR▸zwh hs1;refine zj (d:=34) (y:=R) rfl (by rw[hR]) ?_;refine A0 (zW rfl rfl zhI) ?_;refine qa2 ?_;refine zaQ 4 6 7 rfl rfl rfl rfl rfl rfl ?_;refine Lp (ι:=Nat) 7 (fun i=>(((Fr.none.set 0 (.ptr 2 0)).set 34 (.val (sl (sl u8T)) R)).set 35 (.val i64T (R.length:Int))).set 36 (.val i64T (i:Int))) (fun i=>((((Hp.none.set 1 (.box 27 zac zbL)).set 2 (.parts 110 [.val i64T (b0.toNat:Int),.val i64T (b1.toNat:Int),.own 6])).set 3 (.parts 108 [.ptr 2 0])).set 6 (.row 72 zbl ((R.take i).map zdm))).set 5 (.objAt bD (.cells #[.bool false] 4 (0,0)))) (fun i=>i≤R.length∧∀r∈R.take i,zfc r=true) (fun i=>R.length-i) (0) (⟨uf _,fun x hx=>by simp at hx⟩) ?_;intro i hi;refine qak ?_;refine Cf (p:=i<R.length) (fun ht37=>?_) (fun ht37=>?_)
 ·
  obtain⟨r,hr⟩:∃r,R[i]?=some r:=⟨_,ub ht37⟩;have hrm:r∈(zab (b.drop 2)).1:=by rw[←hR];exact ud hr
  have hrl:=row_short hs1 hrm;rw[List.length_drop] at hrl;refine CSQBQR ?_;refine A0 (zK (i:=i) rfl rfl rfl yc zeN yh) ?_;refine A0 (zg rfl rfl zbi) ?_;refine qce ?_;refine zbh (zku r yc) rfl zxd rfl ybN (fun hs2=>?_) (fun hs2=>?_)
  ·
   have hno:=zrG hrm (pno_split hs2);refine qbf ?_;refine Ct ?_;refine CQR ?_;refine xE ?_;refine qcx ?_;exact zq rfl rfl (zl rfl rfl zaR ((zhF hno).symm)) (zT (za rfl (hno.symm)))
  refine A0 (oCl (zu ((zku r yc).1 hs2)) rfl zxd ybN) ?_;refine qag ?_;refine A0 (zW rfl rfl zhI) ?_;refine A0 zc1 ?_;refine zbh (zb3 (decide ((0:Int)<((zab r).1.length:Int)))) rfl zdx rfl yf (fun hm2=>?_) (fun hm2=>?_)
  ·
   have hno:=zrG hrm (pno_nil hm2);refine qbf ?_;refine Ct ?_;refine CQR ?_;refine xE ?_;refine qcx ?_;exact zq rfl rfl (zl rfl rfl zaR ((zhF hno).symm)) (zT (za rfl (hno.symm)))
  refine A0 (oCl ((zb3 (decide ((0:Int)<((zab r).1.length:Int)))).1 hm2) rfl zdx yf) ?_;have hlp:1≤(zab r).1.length:=by have:=of_decide_eq_true hm2;omega
  obtain⟨x,hx⟩:∃x,(zab r).1[0]?=some x:=⟨_,ub (by have:=of_decide_eq_true hm2;omega)⟩;refine CNQR ?_;refine qax ?_;refine A0 (zK (i:=0) rfl rfl rfl yc zeN yh) ?_;refine A0 (zg rfl rfl zbi) ?_;refine A0 (oCl (zuX x) rfl fn_111 ybN) ?_;refine qbi ?_;refine qcE ?_;refine qbj ?_;refine qag ?_;refine zbh (zb3 (zc6 x)) rfl zdx rfl yf (fun hm3=>?_) (fun hm3=>?_)
  ·
   have hno:=zrG hrm (pno_head hx hm3);refine qbf ?_;refine Ct ?_;refine CQR ?_;refine xE ?_;refine qcx ?_;exact zq rfl rfl (zl rfl rfl zaR ((zhF hno).symm)) (zT (za rfl (hno.symm)))
  refine A0 (oCl ((zb3 (zc6 x)).1 hm3) rfl zdx yf) ?_;refine CNQR ?_;refine qcc ?_;refine A0 (zC rfl zn_part bd_72 (.cons zbk (Lens.fst _ _) zaM rfl .nil) rfl) ?_;refine zs zn_part rfl rfl rfl rfl ?_;refine xd ?_;refine CN ?_;refine zdd 8 (x:=(zm3 x,())) split_part rfl ?_;refine zd8 8 49 idT [.val zbW (zm3 x)] rfl (by intro x hx;simp only[List.mem_cons,List.not_mem_nil,or_false] at hx;rcases hx with rfl<;>trivial) ?_;refine qb1 ?_;refine A0 (zhi rfl rfl rfl zeN yg) ?_;obtain⟨L,hL⟩:∃L,L=(zab r).1.drop 1:=⟨_,rfl⟩;have hLl:L.length≤255:=by rw[hL,List.length_drop];have:=zwh hs2;omega
  refine zj (d:=58) (y:=L) rfl (by rw[hL];rfl) ?_;refine A0 (zW rfl rfl zhI) ?_;refine qa2 ?_;refine Lp (ι:=Nat) 10 (fun j=>(((((((Fr.none.set 0 (.ptr 2 0)).set 9 (.ptr 8 0)).set 34 (.val (sl (sl u8T)) R)).set 35 (.val i64T (R.length:Int))).set 36 (.val i64T (i:Int))).set 58 (.val (sl (sl u8T)) L)).set 59 (.val i64T (L.length:Int))).set 60 (.val i64T (j:Int))) (fun j=>((((((Hp.none.set 1 (.box 27 zac zbL)).set 2 (.parts 110 [.val i64T (b0.toNat:Int),.val i64T (b1.toNat:Int),.own 6])).set 3 (.parts 108 [.ptr 2 0])).set 6 (.row 72 zbl ((R.take i).map zdm))).set 5 (.objAt bD (.cells #[.bool false] 4 (0,0)))).set 8 (.parts 72 [.val zbW (zm3 x),.own 9])).set 9 (.row 49 idT (L.take j))) (fun j=>j≤L.length∧∀y∈L.take j,y.length=32) (fun j=>L.length-j) (0) (⟨uf _,fun x hx=>by simp at hx⟩) ?_;intro j hj;refine qak ?_;refine Cf (p:=j<L.length) (fun ht61=>?_) (fun ht61=>?_)
  ·
   obtain⟨y,hy⟩:∃y,L[j]?=some y:=⟨_,ub ht61⟩;refine CSQBQR ?_;refine A0 (zK (i:=j) rfl rfl rfl yc zeN yh) ?_;refine A0 (zg rfl rfl zbi) ?_;refine qce ?_;refine qbU ?_;refine A0 zbZ ?_;refine zbh (zb3 (decide ((y.length:Int)=32))) rfl zdx rfl yf (fun hm4=>?_) (fun hm4=>?_)
   ·
    have hno:=zrG hrm (pno_id (hL▸ud hy) hm4);refine qbf ?_;refine Ct ?_;refine CQR ?_;refine xE ?_;refine qcx ?_;exact zq rfl rfl (zl rfl rfl zaR ((zhF hno).symm)) (zT (za rfl (hno.symm)))
   refine A0 (oCl ((zb3 (decide ((y.length:Int)=32))).1 hm4) rfl zdx yf) ?_;refine CN ?_;refine zx [some 1,some 1,some 1,some 1,some 1,some 1,none,some 1,none] mixed ye ?_;refine X0 (oFp zbA) ?_;refine X0 (zy rfl rfl rfl rfl rfl za5) ?_;refine X0 mX ?_;refine X0 (g_s2a (T:=u8T) (n:=32) 5 yp rfl rfl yr (by have:=of_decide_eq_true hm4;omega)) ?_;refine X0 (zg rfl rfl zaj) ?_;refine qc2 ?_;refine XK.e (fun fr' hfr kk H=>by exact zF rfl rfl rfl rfl ((hfr 69 ye).trans rfl) rfl ((hfr 73 ye).trans rfl) zfa (by simp[um];omega) (zr H)) ?_;refine X0 (oFp zbA) ?_;refine XK.e (x:=.idk) (fun fr' hfr kk H=>by exact zZ rfl rfl rfl ((hfr 75 ye).trans rfl) rfl rfl ((hfr 74 ye).trans rfl) rfl rfl rfl za5 (zr H)) ?_;refine qaJ ?_;refine zaQ 10 9 11 rfl rfl rfl rfl rfl rfl ?_;refine zA (n:=9) (y:=L.take (j+1)) rfl (by rw[un,hy];rfl) ?_;exact Nx (j+1) (⟨by omega,fun z hz=>by rw[un,hy] at hz;rcases List.mem_append.1 hz with h|h;exact hj.2 z h;simp at h;rw[h];have:=of_decide_eq_true hm4;omega⟩) yc
  refine CE ?_;have hLj:L.take j=L:=uc yc;have hpy:=part_yes hs2 hx hm3 (by rw[←hL,←hLj];exact hj.2);refine zA (n:=9) (y:=L) rfl (by rw[hLj]) ?_;refine zh3 8 9 [.val zbW (zm3 x)] (z:=(⟨zm3 x,L⟩:Part)) (R:=zbl) rfl rfl rfl join_part ?_;refine zP (n:=8) (y:=(⟨zm3 x,(zab r).1.drop 1⟩:Part)) rfl (by rw[hL]) ?_;refine zx [some 1000001,some 1,some 1,some 1,some 1,some 1,some 1,some 1,none,some 1,some 1,some 1,none] mixed ye ?_;refine XK.ga (fun _=>g_mp (.inl rfl) rfl) rfl rfl rfl ?_;refine X0 mP ?_;refine xh ?_;refine X0 (oFp zdX) ?_;refine qbz ?_;refine X0 (oLs rfl rfl rfl zga) ?_;refine qc1 ?_;refine XK.e (fun fr' hfr kk H=>by exact zF rfl rfl rfl rfl ((hfr 82 ye).trans rfl) rfl ((hfr 84 ye).trans rfl) zn5 (by simp[um];omega) (zr H)) ?_;refine xh ?_;refine X0 (oFp zdX) ?_;refine X0 (oFp zat) ?_;refine XK.e (x:=.idk) (fun fr' hfr kk H=>by exact zZ rfl rfl rfl ((hfr 88 ye).trans rfl) rfl rfl ((hfr 85 ye).trans rfl) rfl rfl rfl zcm (zr H)) ?_;refine qaJ ?_;refine zaQ 10 6 11 rfl rfl rfl rfl rfl rfl ?_;refine zA (n:=6) (y:=(R.take (i+1)).map zdm) rfl (by rw[un,hr,List.map_append,hpy.2];rfl) ?_;exact Nx (i+1) (⟨by omega,fun y hy=>by rw[un,hr] at hy;rcases List.mem_append.1 hy with h|h;exact hi.2 y h;simp at h;rw[h];exact hpy.1⟩) yc
 refine CE ?_;have hRi:R.take i=R:=uc yc;refine zA (n:=6) (y:=(zab (b.drop 2)).1.map zdm) rfl (by rw[hRi,hR]) ?_;refine zh3 2 6 [.val i64T (b0.toNat:Int),.val i64T (b1.toNat:Int)] (z:=(⟨(b0.toNat:Int),(b1.toNat:Int),(zab (b.drop 2)).1.map zdm⟩:Proof)) (R:=zac) rfl rfl rfl zhh ?_;refine zP (n:=2) (y:=zkF b) rfl (readP_is hb0 hb1) ?_;refine CR ?_;refine A0 mP ?_;refine zbh (zkK (zkF b)) rfl zxc rfl ybQ (fun hs3=>?_) (fun hs3=>?_)
 ·
  have hno:=no_size hs3;refine qbf ?_;refine Ct ?_;refine CQR ?_;refine xE ?_;refine qcx ?_;exact zq rfl rfl (zl rfl rfl zaR ((zhF hno).symm)) (zT (za rfl (hno.symm)))
 refine A0 (oCl ((zkK (zkF b)).1 hs3) rfl zxc ybQ) ?_;have hok:=yes_read hm1 hs1 (fun r hr=>hi.2 r (by rw[hRi,hR];exact hr)) hs3;refine CN ?_;refine zgB rfl ?_;refine CN ?_;refine zgB rfl ?_;refine CNQR ?_;refine zqY rfl rfl rfl rfl rfl ty_4 rfl ?_;refine CN ?_;refine zq0 zgP rfl rfl rfl ty_4 ?_;refine qaL ?_;refine Cg ?_;refine CSQR ?_;refine A0 yaF ?_;refine xc ?_;refine A0 (oFp zdX) ?_;refine qaQ ?_;refine qcx ?_;exact zq rfl rfl (zl rfl rfl zaR ((zkE hok).symm)) (zT (za rfl (hok.symm)))
theorem easy_pw:PW zd7:=by
  intro x hx;have hx:x=⟨ziW,[]⟩∨x=⟨zbF.h,[id0]⟩:=by simpa [zd7] using hx
  rcases hx with rfl|rfl
  · exact⟨by refine⟨?_,?_,?_,?_,?_⟩<;>kernel_rfl,fun y hy=>by cases hy⟩
  refine⟨by refine⟨?_,?_,?_,?_,?_⟩<;>kernel_rfl,fun y hy=>?_⟩;rw[List.mem_singleton.1 hy];kernel_rfl
theorem zjr:wOk zd7=true:=yr
theorem zoW:(zfu zd7).length=399:=by
  unfold zfu;rw[ut zjr,zuY easy_pw zjr];rfl
theorem zjs:zcG (zfu zd7)=true∧zkF (zfu zd7)=zd7:=by
  unfold zfu;rw[ut zjr];exact zqk easy_pw zjr
theorem zqS {l:List Block} {t:Tip} {i:Nat} {b:Block} (h:Chain l t) (hb:l[i]?=some b):b.l.length≤32:=by
  by_cases hi:i=0
  · subst hi
    rw[(zeY h hb).2.2.1 rfl];decide
  obtain⟨t',h1,h2,h3⟩:=zjv h yc hb;have e:b.l=zes t':=(zfH.1 h2).2.2.1;obtain⟨a1,a2,a3,a4⟩:=zkj h1;rw[←e] at a2;exact a2
def BW (l:List Block):Prop:=∀x∈l,HW x.h∧∀y∈x.l,y.length=32
theorem fact_bw {l:List Block} {b:Bool} {ρ:Nat→Value} {B:Nat→Prop} {U N:Nat→Prop} {w:World} {v:Value} (h:(AV.val (slT b zL) l).rel ρ B U N w v):BW l:=by
  obtain⟨cs,⟨ad,cap,_,_,_,h3⟩,_⟩:=h;intro x hx;obtain⟨_,ds,_,_,hr,_⟩:=h3 (List.ne_nil_of_mem hx);obtain⟨c,d1,d2,_,hh,e1,e2,_,hl,_⟩:=zeT hr x hx;exact⟨hd_rel hh,is_rel hl⟩
section
variable {l:List Block} {m k:Int}
theorem parts_put {W:List Int} (h:BuildOk l m k) (hn:l.length≤50) (hbw:BW l) (hr:W.Pairwise (· < ·)) (hm:∀x∈W,0≤x∧x<l.length) :
    wOk ⟨m,k,W.map (zaN l)⟩=true∧PW ⟨m,k,W.map (zaN l)⟩∧W.length≤l.length∧(putL ⟨m,k,W.map (zaN l)⟩).length≤63453:=by
  have hlen:W.length≤l.length:=by
    have:=zgJ (zq2 l.length) hr (fun x hx=>by
      have:=hm x hx
      exact List.mem_map.2 ⟨x.toNat,List.mem_range.2 yc,by omega⟩)
    simpa using this
  have hpart:∀x∈W.map (zaN l),∃(i:Nat) (b:Block),l[i]?=some b∧x=⟨b.h,b.l⟩:=fun x hx=>by
    obtain⟨p,hp,rfl⟩:=List.mem_map.1 hx
    have:=hm p hp
    obtain⟨b,hb⟩:∃b,l[p.toNat]?=some b:=yv;refine⟨p.toNat,b,hb,?_⟩;unfold zaN;rw[uq,hb];rfl
  have hc:=zdr h.c;have hpw:PW ⟨m,k,W.map (zaN l)⟩:=fun x hx=>by
    obtain⟨i,b,hb,rfl⟩:=hpart x hx;exact hbw b (ud hb)
  have hl:∀x∈W.map (zaN l),x.l.length≤32:=fun x hx=>by
    obtain⟨i,b,hb,rfl⟩:=hpart x hx;exact zqS hc hb
  have hw:wOk ⟨m,k,W.map (zaN l)⟩=true:=by
    unfold wOk ziu;rw[uk,uk,uj,List.all_eq_true,List.all_eq_true];refine⟨⟨⟨h.m1,h.m2,h.k1,h.k2,by show(W.map (zaN l)).length≤100;rw[List.length_map];omega⟩,fun x hx=>ui (hl x hx)⟩,fun x hx=>?_⟩;obtain⟨i,b,hb,rfl⟩:=hpart x hx;exact(zeY hc hb).2.1
  refine⟨hw,hpw,hlen,?_⟩;rw[zuY hpw hw];have h3:=sum_le (fun x:Part=>181+34*x.l.length) 1269 (W.map (zaN l)) (fun x hx=>by have:=hl x hx;omega);rw[List.length_map] at h3;have h4:W.length*1269≤50*1269:=Nat.mul_le_mul_right _ yc;show 3+((W.map (zaN l)).map fun x=>181+34*x.l.length).sum≤63453;omega
end
theorem pput_yes {p:Proof} (h:wOk p=true):zfu p=putL p:=by unfold zfu;rw[ut h]
theorem put_back {p:Proof} (hp:PW p) (h:wOk p=true):zcG (zfu p)=true∧zdD (zfu p)=p:=by
  obtain⟨h1,h2⟩:=zqk hp h;rw[pput_yes h,zkE h1];exact⟨h1,h2⟩
theorem pput_bd {p:Proof} (hp:PW p):(zfu p).length≤126903:=by
  unfold zfu
  split
  · rename_i h;exact put_bd hp h
  simp
set_option maxRecDepth 20000
section
variable {l:List Block} {m k q:Int}
def wayP (l:List Block) (m k q:Int):List Part:=(zb0 l m k q).map (zaN l)
theorem zuG (h:wiE l m k q=0):prE l m k=0∧0≤q∧q<(l.length:Int)-k:=by
  unfold wiE at h;by_cases c:prE l m k=0
  · rw[ur (fun g=>g c)] at h
    by_cases d:q<0∨(l.length:Int)-k≤q
    · rw[ut d] at h;cases h
    exact⟨c,by omega,by omega⟩
  rw[ut c] at h;exact absurd h c
theorem wi_is (h:wiE l m k q=0):wiOf l m k q=⟨m,k,wayP l m k q⟩:=by unfold wiOf;rw[ut h];rfl
theorem way_put (h:wiE l m k q=0) (hn:l.length≤50) (hbw:BW l):wOk (wiOf l m k q)=true∧PW (wiOf l m k q)∧(wayP l m k q).length≤l.length:=by
  obtain⟨h1,h2,h3⟩:=zuG h;have hb:=zfQ h1
  have:=parts_put hb hn hbw (znA hb (q:=q)) (fun x hx=>zkp hb h2 h3 hx)
  rw[wi_is h];exact⟨this.1,this.2.1,by unfold wayP;rw[List.length_map];exact this.2.2.1⟩
theorem way_at (h:wiE l m k q=0) {p:Int} (hp:p∈zb0 l m k q):∃b:Block,l[p.toNat]?=some b∧b.h.height=p∧zaN l p=⟨b.h,b.l⟩:=by
  obtain⟨h1,h2,h3⟩:=zuG h;have hb:=zfQ h1;have hm:=zkp hb h2 h3 hp;obtain⟨b,hbk⟩:∃b,l[p.toNat]?=some b:=yv;refine⟨b,hbk,?_,?_⟩
  · have:=(zeY (zdr hb.c) hbk).1;omega
  unfold zaN;rw[uq,hbk];rfl
def hasN (L:List Part) (n:Int):Bool:=L.any fun x=>decide (x.h.height=n)
theorem way_it (h:wiE l m k q=0):hasN (wayP l m k q) q=true:=by
  obtain⟨h1,h2,h3⟩:=zuG h;have hm:=with_it (zfQ h1) h2 h3;obtain⟨b,_,g3,g4⟩:=way_at h hm;exact List.any_eq_true.2 ⟨zaN l q,List.mem_map_of_mem hm,ui (by rw[g4];exact g3)⟩
end
set_option maxRecDepth 20000
theorem ztz {v:Nat→Int} {n:Int} {a:Nat} (hn:0<n) (ha:a=0∨n≤v a):∀i,a<i→(∀c,a<c→c<i→v c<n)→zb1 v n i=a
  | 0,h,_=>by omega
  | i+1,h,hc=>by
    rw[zb1];by_cases e:i=a
    · subst e
      by_cases z:i=0
      · subst z;rw[ur yc];rfl
      rw[ut ⟨by omega,by omega,hn⟩]
    have h1:=hc i yc yc;rw[ur yc];exact ztz hn ha i yc (fun c h2 h3=>hc c h2 yc)
theorem zwJ {l:List Block} {c:Nat}:za7 l c=(zo l).getD c 0:=by
  unfold za7 zo;rw[uq,List.getElem?_map]
def zmj (v:List Int) (a b:Int):Prop:=∀c:Nat,a<c→(c:Int)<b→v.getD c 0<v.getD a.toNat 0
theorem zvJ {l:List Block} {t:Tip} (h:Chain l t) {a b:Nat} {x y:Block} (hab:a<b) (hx:l[a]?=some x) (hy:l[b]?=some y) (hl:zmj (zo l) a b):zgN y.l y.h.prev (zw x.h)=true:=by
  obtain⟨g,hg⟩:∃g,l[0]?=some g:=⟨_,ub (by have:=(ul.1 hy).1;omega)⟩;unfold zgN;by_cases e:a=b-1
  · subst e
    rw[(zfn h yc hy hx hg).2.1];simp
  rw[Bool.or_eq_true];right;have hv:=(zkS (zju h)).2.2.2;have hbl:=(ul.1 hy).1;have hlen:=zcb l;have hlv:∀c,c<l.length→0≤(zo l).getD c 0∧(zo l).getD c 0≤31:=fun c hc=>by
    rw[uq,ub yc];exact hv _ (List.getElem_mem yc)
  have h1:=hl (a+1) yc yc;have h2:=(hlv (a+1) yc).1;have h3:=(hlv a yc).2;rw[show(a:Int).toNat=a from rfl] at h1;obtain⟨n,hn⟩:∃n:Nat,(zo l).getD a 0=n:=⟨((zo l).getD a 0).toNat,by omega⟩;have hla:zb1 (za7 l) n b=a:=ztz yc (.inr (by rw[zwJ,hn];exact Int.le_refl _)) b hab (fun c hc hcb=>by
    rw[zwJ]
    have:=hl c yc yc
    rw[show(a:Int).toNat=a from rfl,hn] at this;exact this)
  obtain⟨k0,k1⟩:=zi0 h yc hy;obtain⟨k2,k3⟩:=k1 n yc;have hid:idAt l a=zw x.h:=by unfold idAt;rw[hx];rfl
  by_cases c:n<y.l.length
  · have:=(k2 c).1
    rw[hla,hid] at this;exact List.any_eq_true.2 ⟨_,ud this,ui rfl⟩
  have:=k3 yc
  rw[hla] at this;subst this;rw[hid] at k0;exact List.any_eq_true.2 ⟨_,ud k0,ui rfl⟩
structure WayOk (l:List Block) (k:Int) (W:List Int):Prop where
  rise:W.Pairwise (· < ·)
  inn:∀x∈W,0≤x∧x<l.length
  zero:(0:Int)∈W
  last:∀x:Int,(l.length:Int)-k-1≤x→x<l.length→x∈W
  lead:∀a∈W,∀b∈W,a<b→(∀c∈W,¬(a<c∧c<b))→zmj (zo l) a b
section
variable {l:List Block} {m k:Int} {W:List Int}
theorem way_first (h:WayOk l k W):W[0]?=some 0:=by
  obtain⟨j,hj⟩:=List.getElem?_of_mem h.zero;by_cases e:j=0
  · subst e;exact hj
  have hjl:=(ul.1 hj).1;obtain⟨x,hx⟩:∃x,W[0]?=some x:=yv;have h1:=(zdM h.rise hx hj).2 yc;have h2:=(h.inn x (ud hx)).1;omega
theorem zrb (h:WayOk l k W) {i:Nat} {a b:Int} (ha:W[i]?=some a) (hb:W[i+1]?=some b):∀c∈W,¬(a<c∧c<b):=by
  rintro c hc ⟨h1,h2⟩
  obtain⟨j,hj⟩:=List.getElem?_of_mem hc;have g1:=(zdM h.rise ha hj).1 h1;have g2:=(zdM h.rise hj hb).1 h2;omega
theorem way_end (h:WayOk l k W) (hk:1≤k) (hkl:k<l.length) {i:Nat} {a b:Int} (ha:W[i]?=some a) (hb:W[i+1]?=some b) (hi:(W.length:Int)-k≤((i+1:Nat):Int)):b=a+1:=by
  have hbm:=h.inn b (ud hb);have hbl:(l.length:Int)-k≤b:=Int.not_lt.1 fun c=>by
    have hd:(W.drop (i+1+1)).Pairwise (· < ·):=h.rise.sublist (List.drop_sublist _ _)
    have:=zgJ hd (zmE l k) (fun x hx=>by
      obtain⟨j,hj,rfl⟩:=List.mem_map.1 hx;rw[List.mem_range] at hj;obtain⟨s,hs⟩:=List.getElem?_of_mem (h.last ((l.length:Int)-k+j) yc yc);have hlt:=(zdM h.rise hb hs).1 yc;refine ud (i:=s-(i+1+1)) ?_;rw[List.getElem?_drop,show i+1+1+(s-(i+1+1))=s by omega];exact hs)
    rw[List.length_map,List.length_range,List.length_drop] at this;have hbl2:=(ul.1 hb).1;omega
  have hm:=h.last (b-1) yc yc;have h1:=(zdM h.rise ha hb).2 yc;have h2:=zrb h ha hb (b-1) hm;omega
theorem way_holds (hb:BuildOk l m k) (h:WayOk l k W):zaa ⟨m,k,W.map (zaN l)⟩=0:=by
  have hc:=zdr hb.c;have h48:=(zgv hc).2.2.1;have hk1:=hb.k1;have hkl:=hb.kl;have hlen:W.length≤l.length:=by
    have:=zgJ (zq2 l.length) h.rise (fun x hx=>by
      have:=h.inn x hx
      exact List.mem_map.2 ⟨x.toNat,List.mem_range.2 yc,by omega⟩)
    simpa using this
  have hkw:k+1≤W.length:=by
    have hr:((List.range (k.toNat+1)).map fun j:Nat=>(l.length:Int)-k-1+(j:Int)).Pairwise (· < ·):=by
      rw[List.pairwise_map];exact(List.pairwise_lt_range ..).imp fun h=>by omega
    have:=zgJ h.rise hr (fun x hx=>by
      obtain⟨j,hj,rfl⟩:=List.mem_map.1 hx;rw[List.mem_range] at hj;exact h.last _ yc yc)
    rw[List.length_map,List.length_range] at this;omega
  have hpl:(W.map (zaN l)).length=W.length:=List.length_map ..;have hat:∀i p,W[i]?=some p→∃b:Block,l[p.toNat]?=some b∧b.h.height=p∧yAt ⟨m,k,W.map (zaN l)⟩ i=⟨b.h,b.l⟩:=fun i p hp=>by
    have hm:=h.inn p (ud hp);obtain⟨b,hbk⟩:∃b,l[p.toNat]?=some b:=yv;refine⟨b,hbk,?_,?_⟩
    · have:=(zeY hc hbk).1;omega
    unfold yAt zaN;simp only[uq];rw[List.getElem?_map,hp];simp only[Option.map_some,Option.getD_some];rw[hbk];rfl
  obtain⟨g,hg,hg0,hgy⟩:=hat 0 0 (way_first h);have hgl:l[0]?=some g:=hg;rw[zcy];refine⟨hb.m1,hb.m2,hb.k1,hb.k2,by show k<((W.map (zaN l)).length:Int);rw[hpl];omega,by show(W.map (zaN l)).length≤100;rw[hpl];omega,?_,fun i h1 h2=>?_⟩
  · rw[hgy]
    obtain⟨t',h1,_⟩:=zf1 hc (i:=1) (ug _) yc;have e:l.take 1=[g]:=by rw[show(1:Nat)=0+1 from rfl,un,hgl];rfl
    rw[e] at h1;obtain⟨h3,h4,_⟩:=zhm h1;have h5:g.h=zid g.h.bits:=congrArg (·.h) h4;have h6:g.l=[]:=congrArg (·.l) h4;refine⟨h3,by show g.l.length=0;rw[h6];rfl,?_⟩;show g.h=(zaq g.h.bits).b.h;rw[zda h3];exact h5
  have h2:i<W.length:=by have h2:i<(W.map (zaN l)).length:=h2;rwa [hpl] at h2
  obtain⟨b,hbi⟩:∃b,W[i]?=some b:=⟨_,ub h2⟩;obtain⟨a,hai⟩:∃a,W[i-1]?=some a:=yv;obtain⟨y,hy1,hy2,hy3⟩:=hat i b hbi;obtain⟨x,hx1,hx2,hx3⟩:=hat (i-1) a hai;have hab:=(zdM h.rise hai hbi).2 yc;have ham:=h.inn a (ud hai);have hbm:=h.inn b (ud hbi);have hbi':W[i-1+1]?=some b:=by rw[show i-1+1=i by omega];exact hbi
  obtain⟨px,hpx⟩:∃px,l[b.toNat-1]?=some px:=yv;obtain⟨s1,s2,_,_,_,s6,s7,s8⟩:=zfn hc yc hy1 hpx hgl;have hbits:x.h.bits=g.h.bits:=by
    by_cases z:a.toNat=0
    · rw[z,hgl] at hx1;injection hx1 with hx1;rw[hx1]
    obtain⟨pz,hpz⟩:∃px,l[a.toNat-1]?=some px:=yv;exact(zfn hc yc hx1 hpz hgl).2.2.2.2.2.1
  have hlk:=zi0 hc yc hy1;have hl0:idAt l 0=zw g.h:=by unfold idAt;rw[hgl];rfl
  have hll:=zqS hc hy1;refine⟨?_,?_,?_⟩
  · rw[hy3,hx3,zlQ]
    refine⟨by show x.h.height<y.h.height;omega,by show y.h.bits=x.h.bits;rw[s6,hbits],fun hq=>?_⟩;have hq:((W.map (zaN l)).length:Int)-k≤(i:Int):=hq;rw[hpl] at hq;have he:=way_end h hk1 hkl hai hbi' yc;refine⟨?_,?_⟩
    · show y.h.height=IntKind.i64.wrap (x.h.height+1)
      rw[zax yc];omega
    show y.h.prev=zw x.h;rw[s2];rw[show b.toNat-1=a.toNat by omega,hx1] at hpx;injection hpx with hpx;rw[hpx]
  · rw[hy3,hgy,hx3,zfX]
    refine⟨?_,hll,?_,?_,s7.symm⟩
    · have:=(ul.1 hlk.1).1
      show 1≤y.l.length;omega
    · show y.l.getD 0 zId=zw g.h
      rw[uq,hlk.1,hl0];rfl
    have hld:=h.lead a (ud hai) b (ud hbi) hab (zrb h hai hbi');have ea:((a.toNat:Nat):Int)=a:=yc;have eb:((b.toNat:Nat):Int)=b:=yc;exact zvJ hc yc hx1 hy1 (by rw[ea,eb];exact hld)
  rw[hy3,zpX];exact s8
end
theorem zt9 (v:List Int) (m k:Int):∀(i:Nat) (x:Int),x∈(zaI v m k i).2↔∃j,j<i∧x∈upOf v (zaI v m k j).1 ((v.length:Int)-k) (31-(j:Int))
  | 0,x=>⟨fun h=>(by cases h),fun h=>(by obtain⟨j,h,_⟩:=h;omega)⟩
  | i+1,x=>by
    have e:(zaI v m k (i+1)).2=(upOf v (zaI v m k i).1 ((v.length:Int)-k) (31-(i:Int))).foldl zdu (zaI v m k i).2:=rfl;rw[e,zgn,zt9 v m k i x]
    constructor
    · rintro (⟨j,h1,h2⟩|h)
      · exact⟨j,by omega,h2⟩
      exact⟨i,by omega,h⟩
    rintro ⟨j,h1,h2⟩
    by_cases c:j=i
    · subst c;exact .inr h2
    exact .inl ⟨j,by omega,h2⟩
theorem zua {v:List Int} {m k:Int} (hk:k<v.length) (hm:1≤m):∀i:Nat,(zaI v m k i).1≤(v.length:Int)-k-1
  | 0=>by show(0:Int)≤_;omega
  | i+1=>by
    obtain⟨L,hL⟩:∃L,L=upOf v (zaI v m k i).1 ((v.length:Int)-k) (31-(i:Int)):=⟨_,rfl⟩;by_cases c:m<L.length
    · obtain⟨z,hz⟩:∃z,L[L.length-m.toNat]?=some z:=yv
      rw[←zg4 hL hz c];have hzm:=ud hz;rw[hL] at hzm;obtain⟨j,rfl,_,h5,_⟩:=zqo.1 hzm;omega
    rw[←zhY hL c];exact zua hk hm i
theorem zlT {v:List Int} {m k:Int} (h:mayP v m k=true) {x:Int}:x∈(zam v m k).1↔∃j,j<32∧x∈upOf v (zaI v m k j).1 ((v.length:Int)-k) (31-(j:Int)):=by
  unfold zam;rw[ut h];exact zne.trans (zt9 v m k 32 x)
theorem zu2 {v:List Int} {m k:Int} (h:mayP v m k=true) {a:Int} {c:Nat} (ha:a∈(zam v m k).1) (hac:a<c) (hck:(c:Int)<(v.length:Int)-k) (hc:(c:Int)∉(zam v m k).1):v.getD c 0<v.getD a.toNat 0:=by
  obtain⟨j,h1,h2⟩:=(zlT h).1 ha;obtain⟨a',rfl,h3,_,_,h4⟩:=zqo.1 h2;have h5:v.getD c 0<31-(j:Int):=Int.not_le.1 fun g=>hc ((zlT h).2 ⟨j,h1,zqo.2 ⟨c,rfl,by omega,hck,by have:=zgM h;omega,g⟩⟩)
  rw[show((a':Nat):Int).toNat=a' from rfl];omega
theorem prefix_end {v:List Int} {m k:Int} (h:mayP v m k=true) (hm:1≤m) (hk:1≤k) (hkl:k<v.length):(v.length:Int)-k-1∈(zam v m k).1:=by
  have hl:=zgM h;have hc:=zua (m:=m) hkl hm 31;have hv:=(zkS (zhf h).1).2.2.2;obtain⟨e,he⟩:∃e:Nat,(v.length:Int)-k-1=e:=⟨((v.length:Int)-k-1).toNat,by omega⟩;refine(zlT h).2 ⟨31,by decide,zqo.2 ⟨e,he,by omega,by omega,by omega,?_⟩⟩;rw[uq,ub yc]
  have:=(hv _ (List.getElem_mem (l:=v) (n:=e) yc)).1
  show(31:Int)-((31:Nat):Int)≤_;simpa using this
section
variable {l:List Block} {m k q:Int}
theorem zkJ (h:BuildOk l m k) {x:Int}:x∈zE l m k↔x∈(zam (zo l) m k).1∨(l.length:Int)-k≤x∧x<l.length:=by
  unfold zE;rw[List.mem_append];refine or_congr Iff.rfl ⟨fun hx=>?_,fun hx=>?_⟩
  · obtain⟨j,hj,rfl⟩:=List.mem_map.1 hx
    rw[List.mem_range] at hj
    have:=h.k1
    omega
  exact List.mem_map.2 ⟨(x-((l.length:Int)-k)).toNat,List.mem_range.2 (by have:=h.k1;omega),by omega⟩
theorem places_way (h:BuildOk l m k):WayOk l k (zE l m k):=by
  have hm:=zui h;have hlen:=zcb l;have hk1:=h.k1;have hkl:=h.kl;refine⟨zfI h,fun x hx=>zdn ⟨h.k1,h.kl⟩ hx,ud (zmA h),fun x h1 h2=>(zkJ h).2 ?_,fun a ha b hb hab hn=>?_⟩
  · by_cases c:x=(l.length:Int)-k-1
    · left
      have:=prefix_end hm h.m1 h.k1 (by rw[hlen];exact h.kl)
      rw[hlen] at this;rw[c];exact this
    right;omega
  intro c hac hcb;have hcn:∀x,x∈zE l m k→x≠(c:Int):=fun x hx e=>hn x hx yc
  have hbm:=zdn ⟨h.k1,h.kl⟩ hb;by_cases hck:(c:Int)<(l.length:Int)-k
  · rcases (zkJ h).1 ha with hp|hp
    · exact zu2 hm hp hac (by rw[hlen];exact hck) (fun g=>hcn c ((zkJ h).2 (.inl g)) rfl)
    omega
  exact absurd rfl (hcn c ((zkJ h).2 (.inr ⟨by omega,by omega⟩)))
end
theorem zuo (v:List Int) (n:Int):∀j,(∀c,zbB v n j<c→c≤j→0<n∧v.getD c 0<n)∧(zbB v n j=0∨¬(0<n∧v.getD (zbB v n j) 0<n))
  | 0=>⟨fun c h1 h2=>by have:zbB v n 0=0:=rfl;omega,.inl rfl⟩
  | j+1=>by
    by_cases h:0<n∧v.getD (j+1) 0<n
    · have e:zbB v n (j+1)=zbB v n j:=by show(if _ then _ else _)=_;rw[ut h]
      obtain⟨h1,h2⟩:=zuo v n j;rw[e];refine⟨fun c g1 g2=>?_,h2⟩;by_cases z:c=j+1
      · rw[z];exact h
      exact h1 c g1 yc
    have e:zbB v n (j+1)=j+1:=by show(if _ then _ else _)=_;rw[ur h]
    rw[e];exact⟨fun c g1 g2=>by omega,.inr h⟩
theorem back_leads {v:List Int} {n:Int} (h0:v.getD 0 0=31) (hn:n≤31) (at_:Nat) (h1:1≤at_):zmj v (zbB v n (at_-1):Nat) (at_:Nat):=by
  intro c hc1 hc2;obtain⟨h2,h3⟩:=zuo v n (at_-1);have hc:=h2 c yc yc;rw[show((zbB v n (at_-1):Nat):Int).toNat=zbB v n (at_-1) from rfl];rcases h3 with h3|h3
  · rw[h3,h0];omega
  have:n≤v.getD (zbB v n (at_-1)) 0:=Int.not_lt.1 fun g=>h3 ⟨hc.1,g⟩
  omega
def Steps (v:List Int):List Int→Prop
  | y::x::r=>x<y∧zmj v x y∧Steps v (x::r)
  | _=>True
theorem zlH {v:List Int} (h0:v.getD 0 0=31) (low:Nat):∀s at_ n:Nat,at_+n≤s→n≤31→Steps v ((at_:Int)::zgG v low at_ n)
  | 0,at_,n,h,_=>by rw[zhw v yc];exact trivial
  | s+1,at_,n,h,hn=>by
    by_cases c:low<at_
    · by_cases d:zbB v n (at_-1)<low
      · cases n with
        | zero=>rw[zgG,dif_pos c,dif_pos d];exact trivial
        | succ n=>rw[zio c d];exact zlH h0 low s at_ n yc yc
      rw[zin c d];have hb:=zh0 v n (at_-1);exact⟨by omega,back_leads h0 yc at_ yc,zlH h0 low s (zbB v n (at_-1)) n yc hn⟩
    rw[zhw v c];exact trivial
theorem zrd (v:List Int) (low:Nat):∀s at_ n:Nat,at_+n≤s→low≤at_→(low:Int)∈(at_:Int)::zgG v low at_ n
  | 0,at_,n,h,hlo=>by rw[show at_=low by omega];exact List.mem_cons_self ..
  | s+1,at_,n,h,hlo=>by
    by_cases c:low<at_
    · by_cases d:zbB v n (at_-1)<low
      · cases n with
        | zero=>rw[show((0:Nat):Int)=0 from rfl,zum] at d;omega
        | succ n=>rw[zio c d];exact zrd v low s at_ n yc hlo
      rw[zin c d];have hb:=zh0 v n (at_-1);exact List.mem_cons_of_mem _ (zrd v low s (zbB v n (at_-1)) n yc yc)
    rw[show at_=low by omega];exact List.mem_cons_self ..
theorem zrh {v:List Int}:∀{D:List Int} {y:Int},Steps v (y::D)→∀x∈D,x<y
  | [],_,_,x,hx=>by cases hx
  | z::D,y,h,x,hx=>by
    rcases List.mem_cons.1 hx with e|hx
    · rw[e];exact h.1
    have:=zrh h.2.2 x hx
    have:=h.1
    omega
theorem zp2 {v:List Int}:∀{D:List Int},Steps v D→∀{a b:Int},a∈D→b∈D→a<b→(∀c∈D,¬(a<c∧c<b))→zmj v a b
  | [],_,a,b,ha,_,_,_=>by cases ha
  | [y],_,a,b,ha,hb,hab,_=>by rw[List.mem_singleton] at ha hb;omega
  | y::x::r,h,a,b,ha,hb,hab,hn=>by
    have hlt:=zrh h;have hlt2:=zrh h.2.2;rcases List.mem_cons.1 hb with e|hb
    · subst e
      rcases List.mem_cons.1 ha with e|ha
      · omega
      rcases List.mem_cons.1 ha with e|ha
      · rw[e];exact h.2.1
      exact absurd ⟨hlt2 a ha,h.1⟩ (hn x yy)
    rcases List.mem_cons.1 ha with e|ha
    · have:=hlt b hb;omega
    exact zp2 h.2.2 ha hb hab (fun c hc=>hn c (List.mem_cons_of_mem _ hc))
theorem zk6 {v:List Int} {high low x:Int} (h:zao v high low=true):x∈zaC v high low↔x∈high::zgG v low.toNat high.toNat 31:=by
  unfold zaC;rw[ut h,List.mem_reverse]
theorem zqA {v:List Int} {high low:Int} (h:zao v high low=true):low∈zaC v high low:=by
  obtain⟨_,_,_,h4,h5,h6⟩:=zez h;rw[zk6 h]
  have:=zrd v low.toNat _ high.toNat 31 (ug _) yc
  rwa [show((low.toNat:Nat):Int)=low by omega,show((high.toNat:Nat):Int)=high by omega] at this
theorem zoG {v:List Int} {high low a b:Int} (h:zao v high low=true) (ha:a∈zaC v high low) (hb:b∈zaC v high low) (hab:a<b) (hn:∀c∈zaC v high low,¬(a<c∧c<b)):zmj v a b:=by
  obtain⟨_,_,h3,h4,h5,h6⟩:=zez h;have h0:v.getD 0 0=31:=by rw[uq,h3];rfl
  have hs:=zlH h0 low.toNat _ high.toNat 31 (ug _) (ug _);rw[show((high.toNat:Nat):Int)=high by omega] at hs;exact zp2 hs ((zk6 h).1 ha) ((zk6 h).1 hb) hab (fun c hc=>hn c ((zk6 h).2 hc))
section
variable {l:List Block} {m k q:Int}
theorem zv3 (h:BuildOk l m k) (h0:0≤q) (h1:q<(l.length:Int)-k):WayOk l k (zb0 l m k q):=by
  have hp:=places_way h;refine⟨znA h,fun x hx=>zkp h h0 h1 hx,zv4 hp.zero,fun x g1 g2=>zv4 (hp.last x g1 g2),?_⟩;by_cases c:isIn (zE l m k) q=true
  · have e:zb0 l m k q=zE l m k:=by unfold zb0 wayL;rw[ut c]
    rw[e];exact hp.lead
  obtain⟨x,y,hi,hx,hy,hx0,hxq,hqy,hyl⟩:=zf8 h h0 h1 c;have hk:=h.k1;have hlen:=zcb l;have hmv:=zju (zdr h.c);have f1:zao (zo l) y q=true:=ycb;have f2:zao (zo l) q x=true:=ycb;have hU:∀z,z∈zb0 l m k q↔z∈zE l m k∨z∈zaC (zo l) y q∨z∈zaC (zo l) q x:=fun z=>by
    unfold zb0 wayL;rw[ur c,uq,uq,hx,hy];exact zf9.trans (or_congr Iff.rfl zf9)
  have hxP:=ud hx;have hyP:=ud hy;have hgap:=zrb hp hx (by rw[show placeIn (zE l m k) q-1+1=placeIn (zE l m k) q by omega];exact hy);have m1:∀z∈zaC (zo l) y q,q≤z∧z≤y:=fun z hz=>zjj hz
  have m2:∀z∈zaC (zo l) q x,x≤z∧z≤q:=fun z hz=>zjj hz
  have q1:=zqA f1;have q2:=zj7 f2;have x2:=zqA f2;have y1:=zj7 f1;intro a ha b hb hab hn;have nx:=hn x ((hU x).2 (.inl hxP));have ny:=hn y ((hU y).2 (.inl hyP));have nq:=hn q ((hU q).2 (.inr (.inl q1)));by_cases c1:b≤x
  · have haP : a ∈ zE l m k := by
      rcases (hU a).1 ha with g|g|g
      · exact g
      · have:=m1 a g;omega
      have:=m2 a g;omega
    have hbP:b∈zE l m k:=by
      rcases (hU b).1 hb with g|g|g
      · exact g
      · have:=m1 b g;omega
      have:=m2 b g;rw[show b=x by omega];exact hxP
    exact hp.lead a haP b hbP hab (fun z hz=>hn z ((hU z).2 (.inl hz)))
  by_cases c2:y≤a
  · have haP : a ∈ zE l m k := by
      rcases (hU a).1 ha with g|g|g
      · exact g
      · have:=m1 a g;rw[show a=y by omega];exact hyP
      have:=m2 a g;omega
    have hbP:b∈zE l m k:=by
      rcases (hU b).1 hb with g|g|g
      · exact g
      · have:=m1 b g;omega
      have:=m2 b g;omega
    exact hp.lead a haP b hbP hab (fun z hz=>hn z ((hU z).2 (.inl hz)))
  by_cases c3:b≤q
  · have haF : a ∈ zaC (zo l) q x := by
      rcases (hU a).1 ha with g|g|g
      · have:=hgap a g
        rw[show a=x by omega];exact x2
      · have:=m1 a g;omega
      exact g
    have hbF:b∈zaC (zo l) q x:=by
      rcases (hU b).1 hb with g|g|g
      · have:=hgap b g;omega
      · have:=m1 b g;rw[show b=q by omega];exact q2
      exact g
    exact zoG f2 haF hbF hab (fun z hz=>hn z ((hU z).2 (.inr (.inr hz))))
  have haF : a ∈ zaC (zo l) y q := by
    rcases (hU a).1 ha with g|g|g
    · have:=hgap a g;omega
    · exact g
    have:=m2 a g;rw[show a=q by omega];exact q1
  have hbF:b∈zaC (zo l) y q:=by
    rcases (hU b).1 hb with g|g|g
    · have:=hgap b g
      rw[show b=y by omega];exact y1
    · exact g
    have:=m2 b g;omega
  exact zoG f1 haF hbF hab (fun z hz=>hn z ((hU z).2 (.inr (.inl hz))))
theorem wi_holds (h:wiE l m k q=0):zaa (wiOf l m k q)=0:=by
  obtain⟨h1,h2,h3⟩:=zuG h;rw[wi_is h];exact way_holds (zfQ h1) (zv3 (zfQ h1) h2 h3)
end
end Go.Proofs.YtikaeepohlkjdaaGreat
