/- Parts of the proof: the layer that reads Go values as data, and what the functions of the program tell. -/
import Derived.Test.YtjjlfapfjjkomaaGreatK7
set_option linter.unusedVariables false
set_option linter.unusedSimpArgs false
set_option maxRecDepth 20000
namespace Go.Proofs.YtjjlfapfjjkomaaGreat
open Go.Ab Go.RowKit
def zbC (v:List Int) (n:Int):Nat→Nat
  | 0=>0
  | j+1=>if 0<n∧v.getD (j+1) 0<n then zbC v n j else j+1
theorem zg9 (v:List Int) (n:Int):∀j,zbC v n j≤j
  | 0=>ug _
  | j+1=>by
    unfold zbC
    split
    · have:=zg9 v n j;omega
    exact ug _
theorem back_go {v:List Int} {n x:Int} {j:Nat} (hj:0<j) (hx:v[j]?=some x) (h0:0<n) (h:x<n):zbC v n j=zbC v n (j-1):=by
  cases j with
  | zero=>omega
  | succ j =>
    have e:v.getD (j+1) 0=x:=by simp[hx]
    show(if 0<n∧v.getD (j+1) 0<n then zbC v n j else j+1)=zbC v n j;rw[e,ut ⟨h0,h⟩]
theorem ztA {v:List Int} {n:Int} {j:Nat} (h:∀x,v[j]?=some x→¬(0<n∧x<n)) (hj:j<v.length):zbC v n j=j:=by
  cases j with
  | zero=>rfl
  | succ j =>
    show(if 0<n∧v.getD (j+1) 0<n then zbC v n j else j+1)=j+1;have e:v[j+1]?=some (v.getD (j+1) 0):=by rw[uq,ub hj];rfl
    rw[ur (h _ e)]
theorem ztz (v:List Int) (j:Nat):zbC v 0 j=j:=by
  cases j with
  | zero=>rfl
  | succ j=>show(if (0:Int)<0∧_ then _ else _)=_;rw[ur (fun h=>by have:=h.1;omega)]
def zit (v:List Int) (low at_ n:Nat):List Int :=
  if h:low<at_ then
    if hx:zbC v n (at_-1)<low then
      match n with
      | 0=>[]
      | n+1=>zit v low at_ n
    else ((zbC v n (at_-1):Nat):Int)::zit v low (zbC v n (at_-1)) n
  else []
termination_by at_+n
decreasing_by
  · omega
  have:=zg9 v n (at_-1);omega
theorem zkg (v:List Int) {low at_ n:Nat} (h:¬low<at_):zit v low at_ n=[]:=by rw[zit,dif_neg h]
theorem znh {v:List Int} {low at_ n:Nat} (h:low<at_) (hx:zbC v ((n+1:Nat):Int) (at_-1)<low):zit v low at_ (n+1)=zit v low at_ n:=by
  rw[zit,dif_pos h,dif_pos hx]
theorem zng {v:List Int} {low at_ n:Nat} (h:low<at_) (hx:¬zbC v n (at_-1)<low):zit v low at_ n=((zbC v n (at_-1):Nat):Int)::zit v low (zbC v n (at_-1)) n:=by
  rw[zit,dif_pos h,dif_neg hx]
def zad (v:List Int) (high low:Int):Bool:=mayV v&&decide (0≤low∧low≤high∧high<v.length)
def za3 (v:List Int) (high low:Int):List Int:=if zad v high low=true then (high::zit v low.toNat high.toNat 31).reverse else []
theorem zfd {v:List Int} {high low:Int} (h:zad v high low=false):za3 v high low=[]:=by unfold za3;rw[h];rfl
structure WalkAt (v:List Int) (high low:Nat) (s:Nat×Nat×List Int):Prop where
  lo:low≤s.1
  hi:s.1≤high
  n:s.2.1≤31
  l:s.2.2++zit v low s.1 s.2.1=(high:Int)::zit v low high 31
  len:s.2.2.length+s.1≤high+1
theorem zl0 {v:List Int} {high low a n:Nat} {l:List Int} (h:WalkAt v high low (a,n,l)) (ha:¬a=low) (hx:zbC v n (a-1)<low):1≤n∧WalkAt v high low (a,n-1,l):=by
  have h1:=h.lo;simp only at h1;cases n with
  | zero =>
    rw[show((0:Nat):Int)=0 from rfl,ztz] at hx;omega
  | succ n =>
    have h3:=h.n;simp only at h3;refine⟨by omega,h.lo,h.hi,by show n≤31;omega,?_,h.len⟩
    have:=h.l
    simp only at this;rw[znh ya hx] at this;exact this
theorem zlZ {v:List Int} {high low a n:Nat} {l:List Int} (h:WalkAt v high low (a,n,l)) (ha:¬a=low) (hx:¬zbC v n (a-1)<low):WalkAt v high low (zbC v n (a-1),n,l++[((zbC v n (a-1):Nat):Int)]):=by
  have h1:=h.lo;have h2:=h.hi;have h5:=h.len;have h4:=h.l;simp only at h1 h2 h4 h5;have hb:=zg9 v n (a-1);refine⟨by show low≤zbC v n (a-1);omega,by show zbC v n (a-1)≤high;omega,h.n,?_,by show(l++_).length+zbC v n (a-1)≤high+1;rw[ue];simp only[List.length_singleton];omega⟩;show(l++[((zbC v n (a-1):Nat):Int)])++zit v low (zbC v n (a-1)) n=_;rw[List.append_assoc,List.singleton_append,←zng ya hx];exact h4
theorem zfW {v:List Int} {high low:Int} (h:zad v high low=true):0<v.length∧v.length≤200∧v[0]?=some 31∧0≤low∧low≤high∧high<v.length:=by
  unfold zad mayV at h;rw[uk,uk,uj,uj] at h;exact⟨h.1.1.1,h.1.1.2.1,h.1.1.2.2,h.2⟩
theorem zpS {v:List Int} {H L a n:Nat} {l:List Int} (hok:zad v H L=true) (h:WalkAt v H L (a,n,l)) (ha:a=L):l.reverse=za3 v H L:=by
  have:=h.l
  simp only at this;rw[zkg v ya,List.append_nil] at this;unfold za3;rw[ut hok,this];rfl
theorem build_walk {o:Oper} {y0 y1 y2 y3:Operand} (ho:o.op = .build 141 #[(0,y0),(1,y1),(2,y2),(3,y3)]) (e:Operand→Value) (w:World) (h:∀y∈[y0,y1,y2,y3],(e y).oneCell'=true∧(e y).cells.size=1):(execOp e o).run P w = .ok (.value (.agg ([y0,y1,y2,y3].map e).toArray)) w :=
  run_build4 (z0:=.slice none 0 0) (z1:=.int .i64 0) (z2:=.int .i64 0) (z3:=.slice none 0 0) (fun w=>by kernel_rfl) yv yv ho e w h
def zeN (a b:List Int):List Int:=zZ (za4 (a++b))
theorem znv (l:List Int):(za4 l).length=l.length:=(List.mergeSort_perm l _).length_eq
theorem ziz (a b:List Int):(zeN a b).length≤a.length+b.length:=by
  have:=zj7 (za4 (a++b))
  rw[znv,ue] at this;exact this
theorem zqr (v:List Int) (low:Nat):∀s at_ n,at_+n≤s→(zit v low at_ n).length≤at_
  | 0,at_,n,h=>by rw[zkg v ya];exact uf _
  | s+1,at_,n,h=>by
    by_cases c:low<at_
    · by_cases d:zbC v n (at_-1)<low
      · cases n with
        | zero=>rw[zit,dif_pos c,dif_pos d];exact uf _
        | succ n=>rw[znh c d];exact zqr v low s at_ n ya
      rw[zng c d,List.length_cons];have hb:=zg9 v n (at_-1)
      have:=zqr v low s (zbC v n (at_-1)) n ya
      omega
    rw[zkg v c];exact uf _
theorem zef (v:List Int) (high low:Int):(za3 v high low).length≤201:=by
  unfold za3
  split
  · rename_i c
    obtain⟨_,h2,_,h4,h5,h6⟩:=zfW c
    have:=zqr v low.toNat _ high.toNat 31 (ug _)
    rw[List.length_reverse,List.length_cons];omega
  simp
theorem back_ok (v:List Int) (i:Nat) (n:Int) (h0:∀z,v[0]?=some z→n≤z) (h1:1≤i) (hi:i≤v.length):Tells P 135 [.val (bsl i64T) v,.val i64T (i:Int),.val i64T n] (.val i64T (zbC v n (i-1):Nat)):=by
 refine zc Tryz.func135 rfl rfl rfl (fun ext w hext=>?_);refine ze (d:=0) rfl zi (fun hsl0=>?_);refine ze (d:=1) rfl zu (fun hin1=>?_);refine ze (d:=2) rfl zu (fun hin2=>?_);refine qdt ?_;refine A0 za5 ?_;refine qaY ?_;refine CB ?_;refine zj (d:=7) (y:=((i-1:Nat):Int)) rfl ya ?_;refine Lp (ι:=Nat) 0 (fun (j:Nat)=>(((Fr.none).set 0 (.val (bsl i64T) v)).set 2 (.val i64T n)).set 7 (.val i64T (j:Int))) (fun (j:Nat)=>Hp.none) (fun (j:Nat)=>j≤i-1∧zbC v n (i-1)=zbC v n j) (fun (j:Nat)=>j) (i-1) (⟨ug _,rfl⟩) ?_;intro j hinv;refine qaF ?_;refine A0 zjC ?_;refine Sp (d:=11) (p:=0<n) (fun g11=>?_) (fun g11=>?_)
 ·
  obtain⟨x,hx⟩:∃x,v[j]?=some x:=yq;refine qbR ?_;refine A1 mV ?_;refine A1 (zr (i:=j) rfl rfl rfl ya zba yh) ?_;refine qcQ ?_;refine A1 mV ?_;refine A1 zbb ?_;refine qao ?_;refine Cf (p:=x<n) (fun ht19=>?_) (fun ht19=>?_)
  ·
   have hj0:0<j:=Nat.pos_of_ne_zero fun e=>by subst e;have:=h0 x hx;omega
   refine CS ?_;refine CB ?_;refine CR ?_;refine qbS ?_;refine qac ?_;refine CI ?_;refine zj (d:=7) (y:=((j-1:Nat):Int)) rfl ya ?_;exact Nx (j-1) (⟨by omega,hinv.2.trans (back_go hj0 hx g11 ht19)⟩) ya
  refine qcu ?_;refine qac ?_;exact zd rfl rfl (za rfl (by rw[hinv.2,ztA (fun y hy h=>by rw[hx] at hy;injection hy with hy;omega) ya]))
 refine qau ?_;refine qbc ?_;refine qao ?_;refine Cg ?_;refine qcu ?_;refine qac ?_;exact zd rfl rfl (za rfl (by rw[hinv.2,ztA (fun y hy h=>g11 h.1) ya]))
theorem zs7 (v:List Int) (high low:Int):Tells P 37 [.val (bsl i64T) v,.val i64T high,.val i64T low] (.tup2 (.fresh 3 i64T (za3 v high low)) (.val zs (zad v high low))):=by
 refine zc Tryz.func37 rfl rfl rfl (fun ext w hext=>?_);refine ze (d:=0) rfl zi (fun hsl0=>?_);refine ze (d:=1) rfl zu (fun hin1=>?_);refine ze (d:=2) rfl zu (fun hin2=>?_);refine qaT ?_;refine zrF (ι:=Unit) 2 0 rfl rfl rfl (fun (_u:Unit)=>(((Fr.none).set 2 (.val i64T low)).set 8 (.ptr 1 0)).set 9 (.bnd 80 1)) (fun (_u:Unit)=>((Hp.none).set 0 (.row 3 i64T [high])).set 1 (.parts 141 [.val (bsl i64T) v,.val i64T (high:Int),.val i64T (31:Int),.own 0])) (fun (_u:Unit)=>zad v high low=true) (fun (_u:Unit)=>0) ?_ (fun hreach=>?_)
 ·
  intro _u hinv;have hok:=hinv;obtain⟨hv1,hv2,hv3,ho1,ho2,ho3⟩:=zfW hok;obtain⟨H,hH⟩:∃H:Nat,high=H:=⟨high.toNat,by omega⟩;obtain⟨L,hL⟩:∃L:Nat,low=L:=⟨low.toNat,by omega⟩;subst hH;subst hL;refine CQ ?_;refine CB ?_;refine Lp (ι:=Nat×Nat×List Int) 2 (fun (i:Nat×Nat×List Int)=>match i with|(a,n,l)=>(((Fr.none).set 2 (.val i64T (L:Int))).set 8 (.ptr 1 0)).set 9 (.bnd 80 1)) (fun (i:Nat×Nat×List Int)=>match i with|(a,n,l)=>((Hp.none).set 0 (.row 3 i64T l)).set 1 (.parts 141 [.val (bsl i64T) v,.val i64T (a:Int),.val i64T (n:Int),.own 0])) (fun (i:Nat×Nat×List Int)=>match i with|(a,n,l)=>WalkAt v H L (a,n,l)) (fun (i:Nat×Nat×List Int)=>match i with|(a,n,l)=>a+n) ((H,31,[(H:Int)])) (⟨by show L≤H;omega,ug _,ug _,rfl,by show 1+H≤H+1;omega⟩) ?_;intro⟨a,n,l⟩ hinv;dsimp only at hinv;have hlo:=hinv.lo;have hhi:=hinv.hi;have hn31:=hinv.n;have hlen:=hinv.len;simp only at hlo hhi hn31 hlen;have hb0:∀z,v[0]?=some z→(n:Int)≤z:=fun z hz=>by rw[hv3] at hz;injection hz with hz;omega
  refine CB ?_;refine CB ?_;refine CQR ?_;refine A0 mP ?_;refine xc ?_;refine A0 (oFp zrt) ?_;refine A0 (zae rfl rfl rfl rfl rfl ty_3) ?_;refine qau ?_;refine A0 zbZ ?_;refine qac ?_;refine Cf (p:=a=L) (fun ht36=>?_) (fun ht36=>?_)
  ·
   refine qdl ?_;refine qds ?_;refine zij (revInt l ya) rfl fn_81 rfl trivial trivial rfl ⟨yk,trivial⟩ rfl rfl rfl ?_;refine CNQR ?_;refine qds ?_;refine qcl ?_;exact zx rfl rfl (zf rfl rfl (zpS hok hinv ht36)) (za rfl hok.symm)
  refine CQR ?_;refine A0 (g_mb (.inl rfl) rfl) ?_;refine qau ?_;refine aw_inlineb rfl rfl rfl rfl rfl Tryz.func80 fn_80 rfl rfl (fun ia2 iok2=>?_);refine CQR ?_;refine qcU ?_;refine qdb ?_;refine G0 (oFp fd_141_0) ?_;refine G0 (zae rfl rfl rfl rfl rfl zgA) ?_;refine qdb ?_;refine G0 (oFp zrt) ?_;refine G0 (zae rfl rfl rfl rfl rfl ty_3) ?_;refine qdb ?_;refine G0 (oFp zrs) ?_;refine G0 (zae rfl rfl rfl rfl rfl ty_3) ?_;refine G0 (oCl (back_ok v a (n:Int) hb0 ya ya) rfl fn_135 yz) ?_;refine qaV ?_;refine qaW ?_;refine qav ?_;refine Cf (p:=zbC v n (a-1)<L) (fun ht21=>?_) (fun ht21=>?_)
  ·
   obtain⟨hn1,hwn⟩:=zl0 hinv ht36 ht21;refine qay ?_;refine zeG rfl ?_;refine A0 oN ?_;refine qac ?_;refine Ct ?_;refine CR ?_;refine A0 mP ?_;refine xc ?_;refine A0 (oFp zrs) ?_;refine A0 (zae rfl rfl rfl rfl rfl ty_3) ?_;refine A0 (zj0 rfl rfl rfl (show _=(((n-1:Nat):Int):Int) from(zah ya).trans ya)) ?_;refine xc ?_;refine A0 (oFp zrs) ?_;refine zaG rfl rfl rfl rfl rfl rfl rfl rfl rfl rfl ty_3 ?_;refine CN ?_;refine CI ?_;refine CI ?_;exact Nx ((a,n-1,l)) (hwn) yai
  have hwn:=zlZ hinv ht36 ht21;refine CSQR ?_;refine A0 mP ?_;refine qds ?_;refine qau ?_;refine qcj ?_;refine xc ?_;refine A0 (oFp zwn) ?_;refine zaG rfl rfl rfl rfl rfl rfl rfl rfl rfl rfl zgA ?_;refine CNQR ?_;refine A0 mP ?_;refine qau ?_;refine xc ?_;refine A0 (oFp zrt) ?_;refine zaG rfl rfl rfl rfl rfl rfl rfl rfl rfl rfl ty_3 ?_;refine CNQR ?_;refine qac ?_;refine zeG rfl ?_;refine A0 oN ?_;refine qac ?_;refine Cg ?_;refine CS ?_;refine CI ?_;refine CI ?_;refine xC ?_;exact Nx ((zbC v n (a-1),n,l++[((zbC v n (a-1):Nat):Int)])) (hwn) yai
 refine qaF ?_;refine A0 (oCl (mayV_ok v) rfl fn_79 yc) ?_;refine Sp (d:=11) (p:=mayV v=true) (fun g11=>?_) (fun g11=>?_)
 ·
  refine A0 oN ?_;refine qbR ?_;refine A1 zbb ?_;refine Sp (d:=15) (p:=low<0) (fun g15=>?_) (fun g15=>?_)
  ·
   refine qcL ?_;refine qbu ?_;refine Ct ?_;refine qaT ?_;exact zx rfl rfl yaw (za rfl (show zad v high low=false from by unfold zad;rw[uh ya,Bool.and_false]).symm)
  refine qbA ?_;refine A1 mV ?_;refine qdo ?_;refine Sp (d:=20) (p:=high<low) (fun g20=>?_) (fun g20=>?_)
  ·
   refine qbu ?_;refine Ct ?_;refine qaT ?_;exact zx rfl rfl yaw (za rfl (show zad v high low=false from by unfold zad;rw[uh ya,Bool.and_false]).symm)
  refine qbA ?_;refine A1 mV ?_;refine A1 (zat rfl rfl zdc) ?_;refine A1 zer ?_;refine qao ?_;refine Cf (p:=(v.length:Int)≤high) (fun ht27=>?_) (fun ht27=>?_)
  ·
   refine qaT ?_;exact zx rfl rfl yaw (za rfl (show zad v high low=false from by unfold zad;rw[uh ya,Bool.and_false]).symm)
  have hok:zad v high low=true:=by unfold zad;rw[g11,Bool.true_and];exact ui ya
  refine qcz ?_;refine qau ?_;refine zbm (T:=i64T) (xs:=[_]) rfl rfl rfl rfl zba zeQ yx rfl rfl ?_;refine zuG [.tmp 28,.tmp 29,.const (.int .i64 (31)),.tmp 31] (fun e w h=>build_walk rfl e w h) rfl rfl rfl rfl rfl rfl rfl rfl rfl ?_;refine A0 aP ?_;refine CNQR ?_;refine A0 mP ?_;refine A0 (g_mkbp rfl rfl) ?_;refine A0 (g_mb (.inr rfl) rfl) ?_;refine CNQ ?_;exact zrI hreach (()) rfl (hok) rfl (by (repeat refine Fr.le_set ?_ ybn);exact Fr.le_none _) (by (repeat refine Hp.le_set ?_ rfl);exact Hp.le_none _) (by (repeat refine Fr.below_setB ?_ rfl);exact Fr.below_none _) (by (repeat refine Hp.below_set ?_ yn);exact Hp.below_none _)
 refine A0 oN ?_;refine qau ?_;refine qbB ?_;refine qcL ?_;refine qbu ?_;refine Ct ?_;refine qaT ?_;exact zx rfl rfl (by rw[zfd (show zad v high low=false from by unfold zad;rw[Bool.eq_false_iff.2 g11];rfl)];exact zm rfl) (za rfl (show zad v high low=false from by unfold zad;rw[Bool.eq_false_iff.2 g11];rfl).symm)
theorem union_ok (a b:List Int) (h:a.length+b.length≤1000000):Tells P 82 [.val (bsl i64T) a,.val (bsl i64T) b] (.fresh 3 i64T (zeN a b)):=by
 refine zc Tryz.func82 rfl rfl rfl (fun ext w hext=>?_);refine ze (d:=0) rfl zi (fun hsl0=>?_);refine ze (d:=1) rfl zi (fun hsl1=>?_);refine qb0 ?_;refine qad ?_;refine A0 (zag (T:=(bsl i64T)) (xs:=[_,_]) rfl sl_239 row_239 yaD rfl rfl) ?_;refine zaH (concatInt [a,b] yy) rfl fn_136 yc rfl rfl rfl ?_;refine A0 aO ?_;refine CNQ ?_;refine zl (n:=0) (y:=a++b) rfl yw ?_;refine qbE ?_;refine zij (zpo (a++b) yy) rfl fn_102 rfl trivial trivial rfl ⟨yk,trivial⟩ rfl rfl rfl ?_;refine CNQR ?_;refine A0 mO ?_;refine zwC (compactInt (za4 (a++b)) (by rw[znv];simp;omega)) rfl fn_137 rfl trivial ⟨yk,trivial⟩ rfl rfl rfl ?_;refine qbJ ?_;exact zd rfl rfl (zf rfl rfl rfl)
theorem both_ok (a b:List Int) (h:a.length+b.length≤1000000):Tells P 38 [.val (bsl i64T) a,.val (bsl i64T) b] (.fresh 3 i64T (zeN a b)):=by
 refine zc Tryz.func38 rfl rfl rfl (fun ext w hext=>?_);refine ze (d:=0) rfl zi (fun hsl0=>?_);refine ze (d:=1) rfl zi (fun hsl1=>?_);refine qb0 ?_;refine qad ?_;refine zaH (union_ok a b h) rfl fn_82 ye rfl rfl rfl ?_;refine qbJ ?_;exact zd rfl rfl (zf rfl rfl rfl)
set_option maxRecDepth 20000
theorem zs2 {L:List Int} (hL:L.Pairwise (· < ·)) (y:Int):∀lo hi,lo≤hi→hi≤L.length→(∀j x,L[j]?=some x→j<lo→x<y)→(∀j x,L[j]?=some x→hi≤j→y≤x)→
    halves (fun x=>x-y) L lo hi≤L.length∧(∀j x,L[j]?=some x→j<halves (fun x=>x-y) L lo hi→x<y)∧(∀j x,L[j]?=some x→halves (fun x=>x-y) L lo hi≤j→y≤x):=by
  intro lo hi
  induction lo,hi using halves.induct (fun x=>x-y) L with
  | case1 lo hi hlt hx =>
    intro _ h2 _ _;rw[ub ya] at hx;cases hx
  | case2 lo hi hlt x hx hc ih =>
    intro h1 h2 h3 h4;rw[ziR hlt hx hc];refine ih ya h2 (fun j z hz hj=>?_) h4;by_cases e:j=(lo+hi)/2
    · subst e;rw[hx] at hz;injection hz with hz;omega
    have:=(zdm hL hz hx).2 ya;omega
  | case3 lo hi hlt x hx hc ih =>
    intro h1 h2 h3 h4;rw[ziS hlt hx hc];refine ih ya ya h3 (fun j z hz hj=>?_);by_cases e:j=(lo+hi)/2
    · subst e;rw[hx] at hz;injection hz with hz;omega
    have:=(zdm hL hx hz).2 ya;omega
  | case4 lo hi hlt =>
    intro h1 h2 h3 h4;have e:hi=lo:=ya;subst e;rw[zcB];exact⟨h2,h3,h4⟩
def placeIn (L:List Int) (q:Int):Nat:=halves (fun x=>x-q) L 0 L.length
def isIn (L:List Int) (q:Int):Bool:=zfq (fun x=>x-q) L (placeIn L q)
theorem bsPl_ok (L:List Int) (q:Int) (hl:L.length<4611686018427387904):Tells P 36 [.val (bsl i64T) L,.val i64T q] (.tup2 (.val i64T (placeIn L q:Nat)) (.val zs (isIn L q))):=bsInt_ok L q hl
theorem ziK {L:List Int} (hL:L.Pairwise (· < ·)) (q:Int):placeIn L q≤L.length∧(∀j x,L[j]?=some x→j<placeIn L q→x<q)∧(∀j x,L[j]?=some x→placeIn L q≤j→q≤x) :=
  zs2 hL q 0 L.length (uf _) (ug _) (fun j x _ h=>absurd h (Nat.not_lt_zero _)) (fun j x hx h=>by rw[List.getElem?_eq_none h] at hx;cases hx)
theorem zmV {L:List Int} (hL:L.Pairwise (· < ·)) (q:Int):isIn L q=true↔q∈L:=by
  obtain⟨h1,h2,h3⟩:=ziK hL q;unfold isIn zfq
  constructor
  · intro h
    cases hx:L[placeIn L q]? with
    | none=>rw[hx] at h;cases h
    | some x =>
      rw[hx] at h;have h5:x-q=0:=of_decide_eq_true h;have e:x=q:=ya;rw[←e];exact ud hx
  intro h;obtain⟨j,hj⟩:=List.getElem?_of_mem h;have hnl:¬j<placeIn L q:=fun c=>by have:=h2 j q hj c;omega
  have hjl:=(ul.1 hj).1;obtain⟨x,hx⟩:∃x,L[placeIn L q]?=some x:=yq;have hqx:=h3 _ x hx (ug _)
  have:x=q:=by
    by_cases e:placeIn L q=j
    · rw[e,hj] at hx;injection hx with hx;exact hx.symm
    have:=(zdm hL hx hj).2 ya;omega
  rw[hx];exact ui (show x-q=0 by omega)
def wayL (v L:List Int) (q:Int):List Int:=if isIn L q=true then L else zeN L (zeN (za3 v (L.getD (placeIn L q) 0) q) (za3 v q (L.getD (placeIn L q-1) 0)))
def zgD (l:List Block) (m k q:Int):List Int:=wayL (zp l) (zR l m k) q
def wiE (l:List Block) (m k q:Int):Int:=if ¬prE l m k=0 then prE l m k else if q<0∨(l.length:Int)-k≤q then 1 else 0
def wiOf (l:List Block) (m k q:Int):Proof:=if wiE l m k q=0 then ⟨m,k,(zgD l m k q).map (zcW l)⟩ else zdI
theorem zne {l:List Block} {m k q:Int} (h:¬wiE l m k q=0):wiOf l m k q=zdI:=by unfold wiOf;rw[ur h]
section
variable {l:List Block} {m k q:Int}
theorem zhI (h:BuildOk l m k) (h0:0≤q) (h1:q<(l.length:Int)-k) (hn:¬isIn (zR l m k) q=true) :
    ∃x y,1≤placeIn (zR l m k) q∧(zR l m k)[placeIn (zR l m k) q-1]?=some x∧(zR l m k)[placeIn (zR l m k) q]?=some y∧0≤x∧x<q∧q<y∧y<l.length:=by
  have hr:=zfN h;obtain⟨p1,p2,p3⟩:=ziK hr q;rw[zmV hr] at hn;have hf:=zl9 h;have hl:=znS h;have hk:=h.k1;have hi:1≤placeIn (zR l m k) q:=Nat.pos_of_ne_zero fun e=>by
    have:=p3 0 0 hf ya
    exact hn (by rw[show q=0 by omega];exact ud hf)
  have hne:(zR l m k).length≠0:=fun e=>by rw[List.length_eq_zero_iff.1 e] at hf;cases hf
  have hi2:placeIn (zR l m k) q<(zR l m k).length:=Nat.lt_of_not_le fun c=>by
    have:=p2 _ _ hl ya
    omega
  obtain⟨x,hx⟩:∃x,(zR l m k)[placeIn (zR l m k) q-1]?=some x:=yq;obtain⟨y,hy⟩:∃y,(zR l m k)[placeIn (zR l m k) q]?=some y:=⟨_,ub hi2⟩;have hx1:=p2 _ x hx ya;have hy1:=p3 _ y hy (ug _);have hy2:y≠q:=fun e=>hn (by rw[←e];exact ud hy)
  have hxm:=zeb ⟨h.k1,h.kl⟩ (ud hx);have hym:=zeb ⟨h.k1,h.kl⟩ (ud hy);exact⟨x,y,hi,hx,hy,hxm.1,hx1,by omega,hym.2⟩
theorem zj6 (L:List Int) (x:Int):x∈zZ L↔x∈L:=by
  refine zko (p:=fun L=>x∈zZ L↔x∈L) Iff.rfl (fun L y ih=>?_) L;show x∈zZ (L++[y])↔x∈L++[y];rw[zfe];unfold cstep
  split
  · rename_i c
    rw[ih,List.mem_append,List.mem_singleton];refine⟨.inl,fun h=>h.elim id fun e=>?_⟩;rw[e,←ih] at *;rw[zmj] at c;exact List.mem_of_getLast? c
  rw[List.mem_append,ih,List.mem_append]
theorem zem {a b:List Int} {x:Int}:x∈zeN a b↔x∈a∨x∈b:=by
  unfold zeN;rw[zj6,zmC,List.mem_append]
theorem zpb (L:List Int) (h:L.Pairwise fun a b=>a≤b):(zZ L).Pairwise (· < ·):=by
  revert h;refine zko (p:=fun L=>(L.Pairwise fun a b=>a≤b)→(zZ L).Pairwise (· < ·)) (fun _=>List.Pairwise.nil) (fun L y ih h=>?_) L;rw[List.pairwise_append] at h;have hi:=ih h.1;rw[zfe];unfold cstep
  split
  · exact hi
  rename_i c;rw[List.pairwise_append];refine⟨hi,List.pairwise_singleton ..,fun a ha b hb=>?_⟩;rw[List.mem_singleton] at hb;subst hb;have h1:=h.2.2 a ((zj6 L a).1 ha) b (List.mem_singleton.2 rfl);have hne:zZ L≠[]:=fun e=>by rw[e] at ha;cases ha
  obtain⟨z,hz⟩:∃z,(zZ L).getLast?=some z:=⟨_,List.getLast?_eq_some_getLast hne⟩;have hzm:z∈L:=(zj6 L z).1 (List.mem_of_getLast? hz);have h2:=h.2.2 z hzm b (List.mem_singleton.2 rfl);have hzb:z≠b:=fun e=>c (by rw[hz,e])
  have h3:a≤z:=by
    obtain⟨i,hi'⟩:=List.getElem?_of_mem ha;rw[List.getLast?_eq_getElem?] at hz;have hil:=(ul.1 hi').1;by_cases e:i=(zZ L).length-1
    · rw[←e,hi'] at hz;injection hz with hz;omega
    have:=(zdm hi hi' hz).2 ya;omega
  omega
theorem zgE (a b:List Int):(zeN a b).Pairwise (· < ·):=zpb _ (zhO _)
theorem zqq (v:List Int) (low:Nat):∀s at_ n,at_+n≤s→low≤at_→∀x∈zit v low at_ n,(low:Int)≤x∧x<at_
  | 0,at_,n,h,_,x,hx=>by rw[zkg v ya] at hx;cases hx
  | s+1,at_,n,h,hlo,x,hx=>by
    by_cases c:low<at_
    · by_cases d:zbC v n (at_-1)<low
      · cases n with
        | zero=>rw[zit,dif_pos c,dif_pos d] at hx;cases hx
        | succ n=>rw[znh c d] at hx;exact zqq v low s at_ n ya hlo x hx
      rw[zng c d] at hx;have hb:=zg9 v n (at_-1);rcases List.mem_cons.1 hx with e|hx
      · rw[e];omega
      have:=zqq v low s (zbC v n (at_-1)) n ya ya x hx;omega
    rw[zkg v c] at hx;cases hx
theorem zjo {v:List Int} {high low x:Int} (h:x∈za3 v high low):low≤x∧x≤high:=by
  unfold za3 at h
  split at h
  · rename_i c
    obtain⟨_,h2,_,h4,h5,h6⟩:=zfW c;rw[List.mem_reverse] at h;rcases List.mem_cons.1 h with e|h
    · rw[e];omega
    have:=zqq v low.toNat _ high.toNat 31 (ug _) ya x h;omega
  cases h
theorem way_len (L:List Int) (v:List Int) (q:Int):(wayL v L q).length≤L.length+402:=by
  unfold wayL
  split
  · omega
  have h1:=ziz L (zeN (za3 v (L.getD (placeIn L q) 0) q) (za3 v q (L.getD (placeIn L q-1) 0)));have h2:=ziz (za3 v (L.getD (placeIn L q) 0) q) (za3 v q (L.getD (placeIn L q-1) 0));have h3:=zef v (L.getD (placeIn L q) 0) q;have h4:=zef v q (L.getD (placeIn L q-1) 0);omega
theorem zqo (h:BuildOk l m k) (h0:0≤q) (h1:q<(l.length:Int)-k) {x:Int} (hx:x∈zgD l m k q):0≤x∧x<l.length:=by
  unfold zgD wayL at hx
  split at hx
  · exact zeb ⟨h.k1,h.kl⟩ hx
  rename_i c;obtain⟨a,b,hi,ha,hb,h2,h3,h4,h5⟩:=zhI h h0 h1 c;rw[uq,uq,ha,hb,zem,zem] at hx;rcases hx with hx|hx|hx
  · exact zeb ⟨h.k1,h.kl⟩ hx
  · have:q≤x∧x≤b:=zjo hx;omega
  have:a≤x∧x≤q:=zjo hx;omega
end
def zt6:GoT (List Block×Int×Int×List Int×List Int):=zcs (bsl zU) (zcs i64T (zcs i64T (zcs (sl i64T) (sl i64T))))
theorem zue {l:List Block} {m k:Int} {v p:List Int}:zlc zt6 (l,m,k,v,p) [.val (bsl zU) l,.val i64T m,.val i64T k,.val (sl i64T) v] i64T p:=zge (zge (zge (zge zoc)))
theorem zqx {l:List Block} {m k:Int} {v p:List Int}:zhc zt6 (l,m,k,v,p) [.val (bsl zU) l,.val i64T m,.val i64T k,.val (sl i64T) v,.val (sl i64T) p]:=zcA zcV (zcA zcV (zcA zcV (zcA zcV zcV)))
theorem zsI (l:List Block) (m k q:Int) (hl:zgH l):Tells P 16 [.val (bsl zU) l,.val i64T m,.val i64T k,.val i64T q] (.tup2 (.val zax (wiOf l m k q)) (.val i64T (wiE l m k q))):=by
 have hll:=hl.1;refine zc Tryz.func16 rfl rfl rfl (fun ext w hext=>?_);refine ze (d:=0) rfl zi (fun hsl0=>?_);refine ze (d:=1) rfl zu (fun hin1=>?_);refine ze (d:=2) rfl zu (fun hin2=>?_);refine ze (d:=3) rfl zu (fun hin3=>?_);refine CQR ?_;refine qb6 ?_;refine qbr ?_;refine qau ?_;refine zak rfl rfl rfl rfl Tryz.func31 fn_31 rfl rfl (fun ia1 iok1=>?_);refine qap ?_;refine qaj ?_;refine A0 (oCl (zrB l hl) rfl fn_26 yc) ?_;refine qa6 ?_;refine qcn ?_;refine qat ?_;refine qaA ?_;refine qaO ?_;refine zq (p:=¬(zaf l).2=0) rfl yN (fun ht18=>?_) (fun ht18=>?_)
 ·
  refine qa7 ?_;refine A0 aL ?_;refine qac ?_;refine zdf rfl ?_;refine A0 yr ?_;refine qaa ?_;refine qaD ?_;refine zkb rfl (by simp;exact ht18) ?_;refine CQR ?_;refine xO ?_;refine qct ?_;exact zn rfl rfl (zt rfl rfl zbD (by rw[zne (by unfold wiE prE;rw[ut ht18,ut ht18];exact ht18)])) (zS (za rfl (by unfold wiE prE;rw[ut ht18,ut ht18])))
 refine qbP ?_;refine A0 zbb ?_;refine qau ?_;refine Sp (d:=22) (p:=m<1) (fun g22=>?_) (fun g22=>?_)
 ·
  refine qaE ?_;refine qaf ?_;refine qbB ?_;refine qbu ?_;refine Ct ?_;refine qaT ?_;refine zdf rfl ?_;refine A0 yr ?_;refine qaa ?_;refine qaD ?_;refine Ct ?_;refine CQR ?_;refine xO ?_;refine qct ?_;exact zn rfl rfl (zt rfl rfl zbD yH) (zS (za rfl ((show wiE l m k q=1 by unfold wiE;rw[ut yD];unfold prE;rw[ur ya,ut ya]).symm)))
 refine A1 mV ?_;refine qdo ?_;refine qaf ?_;refine Sp (d:=26) (p:=20<m) (fun g26=>?_) (fun g26=>?_)
 ·
  refine qaE ?_;refine qbu ?_;refine Ct ?_;refine qaT ?_;refine zdf rfl ?_;refine A0 yr ?_;refine qaa ?_;refine qaD ?_;refine Ct ?_;refine CQR ?_;refine xO ?_;refine qct ?_;exact zn rfl rfl (zt rfl rfl zbD yH) (zS (za rfl ((show wiE l m k q=1 by unfold wiE;rw[ut yD];unfold prE;rw[ur ya,ut ya]).symm)))
 refine A1 mV ?_;refine A1 zbb ?_;refine qaf ?_;refine Sp (d:=30) (p:=k<1) (fun g30=>?_) (fun g30=>?_)
 ·
  refine qbB ?_;refine qbu ?_;refine Ct ?_;refine qaT ?_;refine zdf rfl ?_;refine A0 yr ?_;refine qaa ?_;refine qaD ?_;refine Ct ?_;refine CQR ?_;refine xO ?_;refine qct ?_;exact zn rfl rfl (zt rfl rfl zbD yH) (zS (za rfl ((show wiE l m k q=1 by unfold wiE;rw[ut yD];unfold prE;rw[ur ya,ut ya]).symm)))
 refine A1 mV ?_;refine qdo ?_;refine qaf ?_;refine Sp (d:=34) (p:=20<k) (fun g34=>?_) (fun g34=>?_)
 ·
  refine qdf ?_;refine qao ?_;refine Ct ?_;refine qaT ?_;refine zdf rfl ?_;refine A0 yr ?_;refine qaa ?_;refine qaD ?_;refine Ct ?_;refine CQR ?_;refine xO ?_;refine qct ?_;exact zn rfl rfl (zt rfl rfl zbD yH) (zS (za rfl ((show wiE l m k q=1 by unfold wiE;rw[ut yD];unfold prE;rw[ur ya,ut ya]).symm)))
 refine A1 mV ?_;refine A1 (zat rfl rfl zpP) ?_;refine A1 mV ?_;refine A1 zfp ?_;refine qao ?_;refine Cf (p:=l.length≤k) (fun ht39=>?_) (fun ht39=>?_)
 ·
  refine qaT ?_;refine zdf rfl ?_;refine A0 yr ?_;refine qaa ?_;refine qaD ?_;refine Ct ?_;refine CQR ?_;refine xO ?_;refine qct ?_;exact zn rfl rfl (zt rfl rfl zbD yH) (zS (za rfl ((show wiE l m k q=1 by unfold wiE;rw[ut yD];unfold prE;rw[ur ya,ut ya]).symm)))
 have hpl:=zfM (zp l) m k;refine qcz ?_;refine qad ?_;refine A0 (oCl (zC (zsQ l ya)) rfl fn_25 yc) ?_;refine A0 (zB rfl zrR bd_82 (.cons zun (Lens.fst _ _) ty_22 rfl (.cons zoz ((Lens.snd _ _).comp (Lens.fst _ _)) ty_3 rfl (.cons zoy ((Lens.snd _ _).comp ((Lens.snd _ _).comp (Lens.fst _ _))) ty_3 rfl (.cons zlM ((Lens.snd _ _).comp ((Lens.snd _ _).comp ((Lens.snd _ _).comp (Lens.fst _ _)))) zgA rfl .nil)))) rfl) ?_;refine xb ?_;refine A0 aP ?_;refine CN ?_;refine zdQ 2 (x:=(l,m,k,zp l,())) zl2 rfl ?_;refine zcR 2 3 i64T [.val (bsl zU) l,.val i64T m,.val i64T k,.val (sl i64T) (zp l)] rfl ybm ?_;refine CQR ?_;refine A0 mP ?_;refine A0 mP ?_;refine xc ?_;refine A0 (oFp zlM) ?_;refine A0 (zae rfl rfl rfl rfl rfl zgA) ?_;refine qad ?_;refine zgu (zsH (zp l) m k) rfl fn_24 yz zgm rfl rfl rfl ?_;refine A0 yr ?_;refine qaa ?_;refine qcv ?_;refine CNQQR ?_;refine qad ?_;refine CNB ?_;refine zl (n:=4) (y:=(zai (zp l) m k).1++(List.range 0).map fun j:Nat=>(l.length:Int)-k+(j:Int)) rfl yw ?_;refine Lp (ι:=Nat) 5 (fun i=>((((Fr.none.set 0 (.val (bsl zU) l)).set 2 (.val i64T k)).set 10 (.ptr 2 0)).set 60 (.val i64T k)).set 61 (.val i64T (i:Int))) (fun i=>((Hp.none.set 0 (.box 25 zax zdI)).set 2 (.parts 82 ([.val (bsl zU) l,.val i64T m,.val i64T k,.val (sl i64T) (zp l)]++[.own 4]))).set 4 (.row 3 i64T ((zai (zp l) m k).1++(List.range i).map fun j:Nat=>(l.length:Int)-k+(j:Int)))) (fun i=>(i:Int)≤k) (fun i=>k.toNat-i) (0) yy ?_;intro i hi;refine qar ?_;refine Cf (p:=(i:Int)<k) (fun ht62=>?_) (fun ht62=>?_)
 ·
  refine qbh ?_;refine qbX ?_;refine A0 mP ?_;refine qbk ?_;refine qau ?_;refine qcC ?_;refine qbS ?_;refine qc2 ?_;refine qcj ?_;refine qcv ?_;refine qbK ?_;refine zbc 5 4 6 rfl rfl rfl rfl rfl rfl ?_;refine zl (n:=4) (y:=(zai (zp l) m k).1++(List.range (i+1)).map fun j:Nat=>(l.length:Int)-k+(j:Int)) rfl ybQ ?_;exact Nx (i+1) ya ya
 refine CE ?_;refine CQ ?_;obtain⟨PL,hPL⟩:∃PL,PL=zR l m k:=⟨_,rfl⟩;refine zl (n:=4) (y:=PL) rfl (by rw[hPL];unfold zR;rw[show k.toNat=i by omega]) ?_;have hpm:∀x∈PL,0≤x∧x<l.length:=fun x hx=>zeb ya (hPL▸hx)
 have hpn:PL.length≤220:=hPL▸zfO ya;refine CR ?_;refine A0 mP ?_;refine A0 aP ?_;refine qac ?_;refine zdf rfl ?_;refine A0 yr ?_;refine qaa ?_;refine A0 aP ?_;refine A0 aX ?_;refine CNQQR ?_;refine A0 mX ?_;refine qaO ?_;refine Cg ?_;refine CS ?_;refine CQ ?_;refine CQ ?_;have hpe:prE l m k=0:=by unfold prE;rw[ur ya,ur ya]
 have hbo:=zm5 hpe;refine CR ?_;refine qau ?_;refine A0 zbb ?_;refine Sp (d:=30) (p:=q<0) (fun g30=>?_) (fun g30=>?_)
 ·
  refine qau ?_;refine qbc ?_;refine qao ?_;refine Ct ?_;refine CQR ?_;refine xO ?_;refine qcw ?_;exact zn rfl rfl (zt rfl rfl zbD ybA) (zS (za rfl ((show wiE l m k q=1 by unfold wiE;rw[ur (fun h=>h hpe),ut ya]).symm)))
 refine qbR ?_;refine A1 mV ?_;refine A1 (zat rfl rfl zpP) ?_;refine A1 mV ?_;refine A1 za5 ?_;refine A1 zer ?_;refine qao ?_;refine Cf (p:=(l.length:Int)-k≤q) (fun ht38=>?_) (fun ht38=>?_)
 ·
  refine CQR ?_;refine xO ?_;refine qcw ?_;exact zn rfl rfl (zt rfl rfl zbD ybA) (zS (za rfl ((show wiE l m k q=1 by unfold wiE;rw[ur (fun h=>h hpe),ut ya]).symm)))
 refine CS ?_;refine CQ ?_;refine zgY 2 4 [.val (bsl zU) l,.val i64T m,.val i64T k,.val (sl i64T) (zp l)] (z:=(l,m,k,zp l,PL)) (R:=zt6) rfl rfl rfl zue ?_;refine zdQ 2 (x:=(l,m,k,zp l,PL)) zqx rfl ?_;refine CR ?_;refine qbk ?_;refine qau ?_;refine A0 (oCl (bsPl_ok PL q ya) rfl fn_36 ye) ?_;refine qb1 ?_;refine qaJ ?_;refine zq (p:=¬isIn PL q=true) rfl yw (fun ht50=>?_) (fun ht50=>?_)
 ·
  refine CQ ?_;have hyl2:placeIn (zR l m k) q<(zR l m k).length:=Nat.lt_of_not_le fun c=>by obtain⟨_,_,_,_,h,_⟩:=zhI hbo ya ya (hPL▸ht50);rw[List.getElem?_eq_none c] at h;cases h
  rw[←hPL] at hyl2;obtain⟨x,y,hi1,hx,hy,hx0,hxq,hqy,hyl⟩:=zhI hbo ya ya (hPL▸ht50);rw[←hPL] at hi1 hx hy;refine CD mixed ?_;refine qdb ?_;refine G0 (oFp zlM) ?_;refine G0 (zae rfl rfl rfl rfl rfl zgA) ?_;refine qdb ?_;refine G0 (oFp zlL) ?_;refine G0 (zae rfl rfl rfl rfl rfl zgA) ?_;refine G0 mV ?_;refine G0 (zr (i:=placeIn PL q) rfl rfl rfl ya zba yh) ?_;refine G0 (zh rfl rfl ty_3) ?_;refine G0 mV ?_;refine G0 (oCl (zbo (zs7 (zp l) y q)) rfl fn_37 ⟨yj,yb,yj,trivial⟩) ?_;refine qcx ?_;refine qaG ?_;refine qdb ?_;refine G0 (oFp zlM) ?_;refine G0 (zae rfl rfl rfl rfl rfl zgA) ?_;refine G0 mV ?_;refine qdb ?_;refine G0 (oFp zlL) ?_;refine G0 (zae rfl rfl rfl rfl rfl zgA) ?_;refine G0 mV ?_;refine G0 (zj0 rfl rfl rfl (show _=(((placeIn PL q-1:Nat):Int):Int) from(zah ya).trans ya)) ?_;refine G0 (zr (i:=placeIn PL q-1) rfl rfl rfl ya zba yh) ?_;refine G0 (zh rfl rfl ty_3) ?_;refine G0 (oCl (zbo (zs7 (zp l) q x)) rfl fn_37 ⟨yj,yj,yb,trivial⟩) ?_;refine qcx ?_;refine zH [some 1,some 1,some 1,some 1,some 1,some 1,some 1,some 1,some 1,some 1,some 1,none] mixed yd ?_;refine X0 mP ?_;refine X0 mP ?_;refine xg ?_;refine X0 (oFp zlL) ?_;refine X0 (zae rfl rfl rfl rfl rfl zgA) ?_;refine qbG ?_;refine X0 (oCl (zC (both_ok (za3 (zp l) y q) (za3 (zp l) q x) (by have h1:=zef (zp l) y q;have h2:=zef (zp l) q x;omega))) rfl fn_38 ye) ?_;refine X0 (oCl (zC (both_ok PL (zeN (za3 (zp l) y q) (za3 (zp l) q x)) (by have h1:=zef (zp l) y q;have h2:=zef (zp l) q x;have h3:=ziz (za3 (zp l) y q) (za3 (zp l) q x);omega))) rfl fn_38 ye) ?_;refine xg ?_;refine X0 (oFp zlL) ?_;refine XK.e (x:=.idk) (fun fr' hfr kk H=>by exact zaG rfl rfl rfl ((hfr 94 yd).trans rfl) rfl rfl ((hfr 92 yd).trans rfl) rfl rfl rfl zgA (zM H)) ?_;refine XK.nil' ?_;refine CQ ?_;obtain⟨WL,hWL⟩:∃WL,WL=zgD l m k q:=⟨_,rfl⟩;have hwe:wiE l m k q=0:=by unfold wiE;rw[ur (fun h=>h hpe),ur ya]
  have hwm:∀x∈WL,0≤x∧x<l.length:=fun x hx=>zqo hbo ya ya (hWL▸hx)
  have hwn:WL.length≤622:=ycE
  first|refine zju 2 [.val (bsl zU) l,.val i64T m,.val i64T k,.val (sl i64T) (zp l),.val (sl i64T) WL] rfl ybr ?_|refine zju 2 [.val (bsl zU) l,.val i64T m,.val i64T k,.val (sl i64T) (zp l),.val (sl i64T) WL] rfl (by congr 5;rw[hWL];unfold zgD wayL;rw[←hPL,ut (ua ht50)]) ?_
  refine CR ?_;refine A0 mP ?_;refine zak rfl rfl rfl rfl Tryz.func32 fn_32 rfl rfl (fun ia3 iok3=>?_);refine CQR ?_;refine qb6 ?_;refine CNQ ?_;refine xP ?_;refine XK.ga (fun _=>g_mp (.inl rfl) rfl) rfl rfl rfl ?_;refine XK.ga (fun _=>g_nc rfl rfl) rfl rfl rfl ?_;refine XK.ga (fun _=>ziU rfl rfl zoz rfl) rfl rfl rfl ?_;refine XK.gf (t:=8) rfl rfl (fun _ he=>zae rfl rfl he rfl rfl ty_3) ⟨rfl,trivial⟩ rfl rfl rfl ?_;refine XK.ga (fun _=>g_mp (.inl rfl) rfl) rfl rfl rfl ?_;refine XK.ga (fun _=>g_nc rfl rfl) rfl rfl rfl ?_;refine XK.ga (fun _=>ziU rfl rfl zoy rfl) rfl rfl rfl ?_;refine XK.gf (t:=12) rfl rfl (fun _ he=>zae rfl rfl he rfl rfl ty_3) ⟨rfl,trivial⟩ rfl rfl rfl ?_;refine XK.ga (fun _=>zB rfl zfF zdi (.cons zcQ (Lens.fst _ _) ty_3 rfl (.cons zey ((Lens.snd _ _).comp (Lens.fst _ _)) ty_3 rfl .nil)) rfl) rfl rfl rfl ?_;refine XK.e (fun fr' hfr kk H=>by exact z8 zfF rfl rfl rfl rfl (zM H)) ?_;refine XK.e (x:=.idk) (fun fr' hfr kk H=>by exact zg rfl rfl rfl ((hfr 3 yd).trans rfl) rfl (Lens.self _) zbD ((hfr 14 yd).trans rfl) (zM H)) ?_;refine XK.nilp ⟨yx,yx,trivial⟩ ?_;refine zdQ 6 (x:=(m,k,())) zf4 rfl ?_;refine zcR 6 55 zbL [.val i64T m,.val i64T k] rfl yT ?_;refine CQQR ?_;refine qbk ?_;refine qbt ?_;refine qaP ?_;refine Lp (ι:=Nat) 8 (fun i=>(((((Fr.none.set 0 (.ptr 2 0)).set 2 (.ptr 5 0)).set 3 (.ptr 6 0)).set 18 (.val (sl i64T) WL)).set 19 (.val i64T (WL.length:Int))).set 20 (.val i64T (i:Int))) (fun i=>((((Hp.none.set 0 (.box 25 zax zdI)).set 2 (.parts 82 ([.val (bsl zU) l,.val i64T m,.val i64T k,.val (sl i64T) (zp l)]++[.val (sl i64T) WL]))).set 5 (.box 25 zax zdI)).set 6 (.parts 25 [.val i64T m,.val i64T k,.own 7])).set 7 (.row 55 zbL ((WL.take i).map (zcW l)))) (fun i=>i≤WL.length) (fun i=>WL.length-i) (0) (uf _) ?_;intro i hi2;refine qar ?_;refine Cf (p:=i<WL.length) (fun ht21=>?_) (fun ht21=>?_)
  ·
   obtain⟨x,hx⟩:∃x,WL[i]?=some x:=⟨_,ub ht21⟩;have hxb:=hwm x (ud hx);obtain⟨b,hb⟩:∃b,l[x.toNat]?=some b:=yq;refine CSQBQR ?_;refine xN ?_;refine qaR ?_;refine qbg ?_;refine xQ ?_;refine X0 (oFp zcC) ?_;refine X0 (zae rfl rfl rfl rfl rfl zhi) ?_;refine qbl ?_;refine X0 mX ?_;refine xR ?_;refine X0 (oFr zaR zY) ?_;refine X0 (zh rfl rfl zaM) ?_;refine qbl ?_;refine X0 mX ?_;refine xR ?_;refine X0 (oFr zcO zbv) ?_;refine X0 (zh rfl rfl zcG) ?_;refine X0 (oCl (zC (zlQ b.l ybJ)) rfl fn_74 ycg) ?_;refine xS ?_;refine qdg ?_;refine XK.e (fun fr' hfr kk H=>by exact zo rfl rfl rfl rfl ((hfr 25 yd).trans rfl) rfl ((hfr 44 yd).trans rfl) znG yy (zM H)) ?_;refine X0 (oFp zcC) ?_;refine XK.e (x:=.idk) (fun fr' hfr kk H=>by exact zaG rfl rfl rfl ((hfr 46 yd).trans rfl) rfl rfl ((hfr 45 yd).trans rfl) rfl rfl rfl zhi (zM H)) ?_;refine qaX ?_;refine qan ?_;refine zbc 8 7 9 rfl rfl rfl rfl rfl rfl ?_;refine zl (n:=7) (y:=(WL.take (i+1)).map (zcW l)) rfl ya0 ?_;exact Nx (i+1) ya ya
  refine CE ?_;refine CQ ?_;refine zl (n:=7) (y:=WL.map (zcW l)) rfl yO ?_;refine zgY 6 7 [.val i64T m,.val i64T k] (z:=(⟨m,k,WL.map (zcW l)⟩:Proof)) (R:=zax) rfl rfl rfl zhw ?_;refine CR ?_;refine qbC ?_;refine qam ?_;refine CN ?_;refine zk9 rfl rfl rfl zbD ?_;refine qcw ?_;exact zn rfl rfl (zt rfl rfl zbD (by unfold wiOf;rw[ut hwe,hWL])) (zS (za rfl (hwe.symm)))
 refine CS ?_;refine CQ ?_;obtain⟨WL,hWL⟩:∃WL,WL=zgD l m k q:=⟨_,rfl⟩;have hwe:wiE l m k q=0:=by unfold wiE;rw[ur (fun h=>h hpe),ur ya]
 have hwm:∀x∈WL,0≤x∧x<l.length:=fun x hx=>zqo hbo ya ya (hWL▸hx)
 have hwn:WL.length≤622:=ycE
 first|refine zju 2 [.val (bsl zU) l,.val i64T m,.val i64T k,.val (sl i64T) (zp l),.val (sl i64T) WL] rfl ybr ?_|refine zju 2 [.val (bsl zU) l,.val i64T m,.val i64T k,.val (sl i64T) (zp l),.val (sl i64T) WL] rfl (by congr 5;rw[hWL];unfold zgD wayL;rw[←hPL,ut (ua ht50)]) ?_
 refine CR ?_;refine A0 mP ?_;refine zak rfl rfl rfl rfl Tryz.func32 fn_32 rfl rfl (fun ia5 iok5=>?_);refine CQR ?_;refine qb6 ?_;refine CNQ ?_;refine xP ?_;refine XK.ga (fun _=>g_mp (.inl rfl) rfl) rfl rfl rfl ?_;refine XK.ga (fun _=>g_nc rfl rfl) rfl rfl rfl ?_;refine XK.ga (fun _=>ziU rfl rfl zoz rfl) rfl rfl rfl ?_;refine XK.gf (t:=8) rfl rfl (fun _ he=>zae rfl rfl he rfl rfl ty_3) ⟨rfl,trivial⟩ rfl rfl rfl ?_;refine XK.ga (fun _=>g_mp (.inl rfl) rfl) rfl rfl rfl ?_;refine XK.ga (fun _=>g_nc rfl rfl) rfl rfl rfl ?_;refine XK.ga (fun _=>ziU rfl rfl zoy rfl) rfl rfl rfl ?_;refine XK.gf (t:=12) rfl rfl (fun _ he=>zae rfl rfl he rfl rfl ty_3) ⟨rfl,trivial⟩ rfl rfl rfl ?_;refine XK.ga (fun _=>zB rfl zfF zdi (.cons zcQ (Lens.fst _ _) ty_3 rfl (.cons zey ((Lens.snd _ _).comp (Lens.fst _ _)) ty_3 rfl .nil)) rfl) rfl rfl rfl ?_;refine XK.e (fun fr' hfr kk H=>by exact z8 zfF rfl rfl rfl rfl (zM H)) ?_;refine XK.e (x:=.idk) (fun fr' hfr kk H=>by exact zg rfl rfl rfl ((hfr 3 yd).trans rfl) rfl (Lens.self _) zbD ((hfr 14 yd).trans rfl) (zM H)) ?_;refine XK.nilp ⟨yx,yx,trivial⟩ ?_;refine zdQ 6 (x:=(m,k,())) zf4 rfl ?_;refine zcR 6 55 zbL [.val i64T m,.val i64T k] rfl yT ?_;refine CQQR ?_;refine qbk ?_;refine qbt ?_;refine qaP ?_;refine Lp (ι:=Nat) 8 (fun i=>(((((Fr.none.set 0 (.ptr 2 0)).set 2 (.ptr 5 0)).set 3 (.ptr 6 0)).set 18 (.val (sl i64T) WL)).set 19 (.val i64T (WL.length:Int))).set 20 (.val i64T (i:Int))) (fun i=>((((Hp.none.set 0 (.box 25 zax zdI)).set 2 (.parts 82 ([.val (bsl zU) l,.val i64T m,.val i64T k,.val (sl i64T) (zp l)]++[.val (sl i64T) WL]))).set 5 (.box 25 zax zdI)).set 6 (.parts 25 [.val i64T m,.val i64T k,.own 7])).set 7 (.row 55 zbL ((WL.take i).map (zcW l)))) (fun i=>i≤WL.length) (fun i=>WL.length-i) (0) (uf _) ?_;intro i hi2;refine qar ?_;refine Cf (p:=i<WL.length) (fun ht21=>?_) (fun ht21=>?_)
 ·
  obtain⟨x,hx⟩:∃x,WL[i]?=some x:=⟨_,ub ht21⟩;have hxb:=hwm x (ud hx);obtain⟨b,hb⟩:∃b,l[x.toNat]?=some b:=yq;refine CSQBQR ?_;refine xN ?_;refine qaR ?_;refine qbg ?_;refine xQ ?_;refine X0 (oFp zcC) ?_;refine X0 (zae rfl rfl rfl rfl rfl zhi) ?_;refine qbl ?_;refine X0 mX ?_;refine xR ?_;refine X0 (oFr zaR zY) ?_;refine X0 (zh rfl rfl zaM) ?_;refine qbl ?_;refine X0 mX ?_;refine xR ?_;refine X0 (oFr zcO zbv) ?_;refine X0 (zh rfl rfl zcG) ?_;refine X0 (oCl (zC (zlQ b.l ybJ)) rfl fn_74 ycg) ?_;refine xS ?_;refine qdg ?_;refine XK.e (fun fr' hfr kk H=>by exact zo rfl rfl rfl rfl ((hfr 25 yd).trans rfl) rfl ((hfr 44 yd).trans rfl) znG yy (zM H)) ?_;refine X0 (oFp zcC) ?_;refine XK.e (x:=.idk) (fun fr' hfr kk H=>by exact zaG rfl rfl rfl ((hfr 46 yd).trans rfl) rfl rfl ((hfr 45 yd).trans rfl) rfl rfl rfl zhi (zM H)) ?_;refine qaX ?_;refine qan ?_;refine zbc 8 7 9 rfl rfl rfl rfl rfl rfl ?_;refine zl (n:=7) (y:=(WL.take (i+1)).map (zcW l)) rfl ya0 ?_;exact Nx (i+1) ya ya
 refine CE ?_;refine CQ ?_;refine zl (n:=7) (y:=WL.map (zcW l)) rfl yO ?_;refine zgY 6 7 [.val i64T m,.val i64T k] (z:=(⟨m,k,WL.map (zcW l)⟩:Proof)) (R:=zax) rfl rfl rfl zhw ?_;refine CR ?_;refine qbC ?_;refine qam ?_;refine CN ?_;refine zk9 rfl rfl rfl zbD ?_;refine qcw ?_;exact zn rfl rfl (zt rfl rfl zbD (by unfold wiOf;rw[ut hwe,hWL])) (zS (za rfl (hwe.symm)))
set_option maxRecDepth 20000
theorem equalFPart (l m:List Part):Tells P 54 [.val (bsl zbL) l,.val (bsl zbL) m,.fn2 P zbL zbL zs (fun x y=>decide (x=y))] (.val zs (decide (l=m))):=by
 refine zc Tryz.func54 rfl rfl rfl (fun ext w hext=>?_);refine ze (d:=0) rfl zi (fun hsl0=>?_);refine ze (d:=1) rfl zi (fun hsl1=>?_);refine CQR ?_;refine qaj ?_;refine xT ?_;refine qau ?_;refine xT ?_;refine qaO ?_;refine Cf (p:=¬l.length=m.length) (fun ht14=>?_) (fun ht14=>?_)
 ·
  refine qay ?_;exact zd rfl rfl (za rfl (uh (fun e=>ht14 ybE)).symm)
 refine qbP ?_;refine xT ?_;refine qaP ?_;refine Lp (ι:=Nat) 0 (fun (k:Nat)=>((((((Fr.none).set 0 (.val (bsl zbL) l)).set 1 (.val (bsl zbL) m)).set 2 (.fn2 P zbL zbL zs (fun x y=>decide (x=y)))).set 15 (.val (bsl zbL) l)).set 16 (.val i64T (l.length:Int))).set 17 (.val i64T (k:Int))) (fun (k:Nat)=>Hp.none) (fun (k:Nat)=>k≤l.length∧l.take k=m.take k) (fun (k:Nat)=>l.length-k) (0) (⟨uf _,by simp⟩) ?_;intro k hinv;refine qar ?_;refine Cf (p:=k<l.length) (fun ht18=>?_) (fun ht18=>?_)
 ·
  obtain⟨x,hx⟩:∃x,l[k]?=some x:=⟨_,ub ht18⟩;obtain⟨y,hy⟩:∃y,m[k]?=some y:=yq;refine qbh ?_;refine A0 (zbH rfl rfl rfl zkr yh) ?_;refine A0 (zh rfl rfl ziA) ?_;refine z8 zlf rfl rfl rfl rfl ?_;refine A0 aV ?_;refine qbs ?_;refine CNQR ?_;refine qad ?_;refine A0 (zbH rfl rfl rfl zkr yh) ?_;refine A0 (zh rfl rfl ziA) ?_;refine z8 zlf rfl rfl rfl rfl ?_;refine qbs ?_;refine CNQR ?_;refine A0 mH ?_;refine A0 (oLs rfl rfl rfl ziA) ?_;refine A0 (oLs rfl rfl rfl ziA) ?_;refine A0 (zmX rfl rfl yj yj) ?_;refine qaJ ?_;refine zq (p:=¬x=y) rfl yw (fun ht30=>?_) (fun ht30=>?_)
  ·
   refine qay ?_;exact zd rfl rfl (za rfl (uh (zes hx hy ht30)).symm)
  refine qcp ?_;exact Nx (k+1) (⟨by omega,zb3 hx hy hinv.2 (by simpa using ht30)⟩) ya
 refine qcT ?_;exact zd rfl rfl (za rfl (ui yR).symm)
theorem zl5 (x y:Part):Tells P 52 [.val zbL x,.val zbL y] (.val zs (decide (x=y))):=by
 refine zc Tryz.func52 rfl rfl rfl (fun ext w hext=>?_);refine qa3 ?_;refine qah ?_;refine A0 (oFp zew) ?_;refine A0 (oLb zeK zaM) ?_;refine A0 (oFp zew) ?_;refine A0 (oLb zeK zaM) ?_;refine A0 (zim rfl rfl rfl (zpX)) ?_;refine qau ?_;refine zX (d:=10) (p:=x.h=y.h) rfl yw (fun g10=>?_) (fun g10=>?_)
 ·
  refine A1 (oFp zcP) ?_;refine A1 (oLb zdg zcG) ?_;refine A1 (oFp zcP) ?_;refine A1 (oLb zdg zcG) ?_;refine A1 (oCl (zup x.l y.l) rfl fn_53 ye) ?_;refine qaS ?_;exact zd rfl rfl (za rfl ((by rw[uo];exact⟨fun h=>by cases x;cases y;simp_all,fun h=>by rw[h]⟩)))
 refine qab ?_;refine qbB ?_;refine qaS ?_;exact zd rfl rfl (za rfl ((by symm;apply uh;intro h;exact g10 (by rw[h]))))
theorem zve (a b:Proof):Tells P 23 [.val zax a,.val zax b] (.val zs (decide (a=b))):=by
 refine zc Tryz.func23 rfl rfl rfl (fun ext w hext=>?_);refine qa3 ?_;refine qah ?_;refine A0 aC ?_;refine CNQR ?_;refine A0 (oFp zcQ) ?_;refine A0 (oLb zc2 ty_3) ?_;refine A0 (oFp zcQ) ?_;refine A0 (oLb zc2 ty_3) ?_;refine A0 zbZ ?_;refine qau ?_;refine zX (d:=11) (p:=a.m=b.m) rfl yN (fun g11=>?_) (fun g11=>?_)
 ·
  refine qde ?_;refine qde ?_;refine A1 zbZ ?_;refine qaf ?_;refine zX (d:=18) (p:=a.k=b.k) rfl yN (fun g18=>?_) (fun g18=>?_)
  ·
   refine qdc ?_;refine qdc ?_;refine A1 mC ?_;refine A1 (oCl (equalFPart a.p b.p) rfl fn_54 ⟨yj,yj,(by first|exact zeI (Cs:=[]) rfl fn_52 yJ trivial rfl (fun x=>zl5 x y)|exact zeH (Cs:=[]) rfl fn_52 yJ trivial rfl (fun x y=>zl5 x y)|exact zeJ rfl),trivial⟩) ?_;refine qaS ?_;exact zd rfl rfl (za rfl (yas))
  refine qbc ?_;refine qaS ?_;exact zd rfl rfl (za rfl ((by symm;apply uh;intro h;exact g18 (by rw[h]))))
 refine qab ?_;refine qbB ?_;refine qaf ?_;refine qbc ?_;refine qaS ?_;exact zd rfl rfl (za rfl ((by symm;apply uh;intro h;exact g11 (by rw[h]))))
def valU (l:List UInt8):UInt64:=l.foldl (fun n c=>zg1 n 8|||zL (IntL.toI u8T c)) 0
def zdy (b:List UInt8) (p size:Int):Bool:=decide (0≤size∧size≤8∧0≤p∧p≤b.length∧size≤(b.length:Int)-p)
def getU (b:List UInt8) (p size:Int):UInt64:=if zdy b p size=true then valU ((b.drop p.toNat).take size.toNat) else 0
def cutE (b:List UInt8) (p:Int):Bool:=zdy b p 2&&decide (((getU b p 2).toNat:Int)≤(b.length:Int)-p-2)
def cutX (b:List UInt8) (p:Int):List UInt8:=if cutE b p=true then (b.drop (p.toNat+2)).take (getU b p 2).toNat else []
def zi2 (b:List UInt8) (p:Int):Int:=if cutE b p=true then p+2+(getU b p 2).toNat else 0
def ziu (x:List UInt8):List UInt8:=zD (zL (x.length:Int)) 2++x
def zcD (x:List UInt8):Bool:=decide (x.length≤65535)
def ziE (l:List (List UInt8)):List UInt8:=zaL (l.length:Int)::(l.map ziu).flatten
def zdL (l:List (List UInt8)):Bool:=decide (l.length≤255)&&l.all zcD
def cutN:List UInt8→Option (List UInt8×List UInt8)
  | a::c::r=>if 256*a.toNat+c.toNat≤r.length then some (r.take (256*a.toNat+c.toNat),r.drop (256*a.toNat+c.toNat)) else none
  | _=>none
def pieces:Nat→List UInt8→List (List UInt8)×List UInt8
  | 0,r=>([],r)
  | n+1,r=>match cutN r with
    | none=>([],r)
    | some (x,z)=>(x::(pieces n z).1,(pieces n z).2)
def zw (b:List UInt8):List (List UInt8)×Bool :=
  match b with
  | []=>([],false)
  | n::r=>if (pieces n.toNat r).1.length=n.toNat∧(pieces n.toNat r).2=[] then ((pieces n.toNat r).1,true) else ([],false)
theorem or_low {a c:Nat} (hc:c<256):a*256|||c=a*256+c:=by
  have:=Nat.two_pow_add_eq_or_of_lt (i:=8) (b:=c) hc a
  rw[show(2:Nat)^8=256 from rfl,Nat.mul_comm] at this;exact this.symm
theorem val_step (n:UInt64) (c:UInt8):(zg1 n 8|||zL (IntL.toI u8T c)).toNat=(256*n.toNat+c.toNat)%18446744073709551616:=by
  have hc:c.toNat<256:=c.toNat_lt;have hn:n.toNat<18446744073709551616:=n.toNat_lt;have e1:(zL (IntL.toI u8T c)).toNat=c.toNat:=zdt (n:=(c.toNat:Int)) ya ya;have e2:(zg1 n 8).toNat=n.toNat*256%18446744073709551616:=by
    unfold zg1;rw[UInt64.toNat_ofNat'];rfl
  rw[UInt64.toNat_or,e1,e2];have e3:n.toNat*256%18446744073709551616=(n.toNat%72057594037927936)*256:=ya;rw[e3,or_low hc];omega
def valN (l:List UInt8):Nat:=l.foldl (fun n c=>256*n+c.toNat) 0
theorem zhh (l:List UInt8) (c:UInt8):valN (l++[c])=256*valN l+c.toNat:=by unfold valN;rw[List.foldl_append];rfl
theorem zr0 (l:List UInt8) (c:UInt8):valU (l++[c])=zg1 (valU l) 8|||zL (IntL.toI u8T c):=by unfold valU;rw[List.foldl_append];rfl
theorem zqy {α:Type} {P:List α→Prop} (h0:P []) (h1:∀l x,P l→P (l++[x])) (l:List α):P l:=by
  have:∀n:Nat,∀l:List α,l.length=n→P l:=by
    intro n
    induction n with
    | zero=>intro l hl;rw[List.length_eq_zero_iff.1 hl];exact h0
    | succ n ih =>
      intro l hl;have hne:l≠[]:=by intro e;rw[e] at hl;cases hl
      rw[←List.dropLast_concat_getLast hne];exact h1 _ _ (ih _ (by rw[List.length_dropLast];omega))
  exact this _ l rfl
theorem zjL (l:List UInt8):valN l<256^l.length:=by
  refine zqy (P:=fun l=>valN l<256^l.length) yn (fun l c ih=>?_) l;have hc:c.toNat<256:=c.toNat_lt;rw[zhh,ue,List.length_singleton,Nat.pow_succ];omega
theorem zhg:∀l:List UInt8,l.length≤8→(valU l).toNat=valN l:=by
  refine zqy (P:=fun l=>l.length≤8→(valU l).toNat=valN l) (fun _=>rfl) (fun l c ih hl=>?_);rw[ue,List.length_singleton] at hl;rw[zr0,zhh,val_step,ih ya];have h1:=zjL (l++[c]);rw[zhh] at h1;have h2:256^(l++[c]).length≤256^8:=Nat.pow_le_pow_right yn yy;have h3:(256:Nat)^8=18446744073709551616:=rfl;exact Nat.mod_eq_of_lt ya
theorem zkJ (n:UInt64) (s:Nat) (hs:s<8):zD n (s+1)=zD (zaF n 8) s++[zaL (IntL.toI u64T n)]:=by
  unfold zD;rw[List.range_succ,List.map_append];congr 1
  · apply List.map_congr_left
    intro j hj;rw[List.mem_range] at hj;congr 2;apply UInt64.toNat_inj.1;rw[zdK _ ya,zdK _ ya,zdK _ ya,Nat.div_div_eq_div_mul,←Nat.pow_add];congr 2;omega
  show [zaL (IntL.toI u64T (zaF n (8*(s+1-1-s))))]=_;rw[show s+1-1-s=0 by omega,←zqz]
theorem zff:∀l:List UInt8,l.length≤8→zD (valU l) l.length=l:=by
  refine zqy (P:=fun l=>l.length≤8→zD (valU l) l.length=l) (fun _=>rfl) (fun l c ih hl=>?_);rw[ue,List.length_singleton] at hl ⊢;have hc:c.toNat<256:=c.toNat_lt;have hv:=zhg (l++[c]) yy;have hw:=zhg l ya;rw[zhh] at hv;rw[zkJ _ _ ya];have e1:zaF (valU (l++[c])) 8=valU l:=by
    apply UInt64.toNat_inj.1;rw[zdK _ yn,hv,hw];omega
  have e2:zaL (IntL.toI u64T (valU (l++[c])))=c:=by
    apply UInt8.toNat_inj.1;unfold zaL;show(UInt8.ofNat ((((valU (l++[c])).toNat:Nat):Int)%256).toNat).toNat=_;rw[UInt8.toNat_ofNat_of_lt' ybP,hv];omega
  rw[e1,e2,ih ya]
theorem zkh (n:UInt64):∀s:Nat,s≤8→valN (zD n s)=n.toNat%256^s
  | 0,_=>by show 0=_;simp[Nat.mod_one]
  | s+1,hs=>by
    have ih:=zkh (zaF n 8) s ya;rw[zkJ _ _ ya,zhh,ih,zdK _ yn];have e:(zaL (IntL.toI u64T n)).toNat=n.toNat%256:=by
      unfold zaL;show(UInt8.ofNat (((n.toNat:Nat):Int)%256).toNat).toNat=_;rw[UInt8.toNat_ofNat_of_lt' ybP];omega
    have e8:(2:Nat)^8=256:=rfl;have ep:256^(s+1)=256*256^s:=by rw[Nat.pow_succ,Nat.mul_comm]
    rw[e,e8,ep,Nat.mod_mul];omega
theorem two_bytes {n:Nat} (h:n≤65535):∃a c:UInt8,zD (zL (n:Int)) 2=[a,c]∧256*a.toNat+c.toNat=n:=by
  have hl:=zE (zL (n:Int)) 2;have hv:=zkh (zL (n:Int)) 2 yn;rw[zdt ya ya] at hv
  match hb:zD (zL (n:Int)) 2 with
  | [a,c] =>
    rw[hb] at hv;refine⟨a,c,rfl,?_⟩;have e:valN [a,c]=256*(256*0+a.toNat)+c.toNat:=rfl;rw[e] at hv
    have:(256:Nat)^2=65536:=rfl
    omega
  | []=>rw[hb] at hl;cases hl
  | [_]=>rw[hb] at hl;cases hl
  | _::_::_::_=>rw[hb] at hl;simp at hl
theorem bytes_two (a c:UInt8):zD (zL ((256*a.toNat+c.toNat:Nat):Int)) 2=[a,c]:=by
  have ha:a.toNat<256:=a.toNat_lt;have hc:c.toNat<256:=c.toNat_lt;have e:zL ((256*a.toNat+c.toNat:Nat):Int)=valU [a,c]:=by
    apply UInt64.toNat_inj.1;rw[zdt ya ya,zhg [a,c] yw];show _=256*(256*0+a.toNat)+c.toNat
    omega
  rw[e];exact zff [a,c] yw
theorem cut_blob {x r:List UInt8} (h:zcD x=true):cutN (ziu x++r)=some (x,r):=by
  have hx:=of_decide_eq_true h;obtain⟨a,c,e1,e2⟩:=two_bytes hx;unfold ziu;rw[e1];have e3:[a,c]++x++r=a::c::(x++r):=rfl;rw[e3,cutN,e2,ut yw,List.take_left,List.drop_left]
theorem cut_back {b x z:List UInt8} (h:cutN b=some (x,z)):b=ziu x++z∧zcD x=true:=by
  match b,h with
  | a::c::r,h =>
    have ha:a.toNat<256:=a.toNat_lt;have hc:c.toNat<256:=c.toNat_lt;rw[cutN] at h;by_cases q:256*a.toNat+c.toNat≤r.length
    · rw[ut q] at h
      simp only[Option.some.injEq,Prod.mk.injEq] at h;obtain⟨rfl,rfl⟩:=h;have hl:(r.take (256*a.toNat+c.toNat)).length=256*a.toNat+c.toNat:=yb7;refine⟨?_,ui (by rw[hl];omega)⟩;unfold ziu;rw[hl,bytes_two];show a::c::r=a::c::(r.take _++r.drop _);rw[List.take_append_drop]
    rw[ur q] at h;cases h
  | [],h=>cases h
  | [_],h=>cases h
theorem znT (r:List UInt8):∀l:List (List UInt8),l.all zcD=true→pieces l.length ((l.map ziu).flatten++r)=(l,r)
  | [],_=>rfl
  | x::l,h=>by
    rw[List.all_cons,uk] at h;rw[List.map_cons,List.flatten_cons,List.append_assoc,List.length_cons,pieces,cut_blob h.1];simp only[];rw[znT r l h.2]
theorem znU:∀(n:Nat) (r:List UInt8),(pieces n r).1.length≤n∧r=((pieces n r).1.map ziu).flatten++(pieces n r).2∧(pieces n r).1.all zcD=true
  | 0,r=>⟨ug _,rfl,rfl⟩
  | n+1,r=>by
    rw[pieces]
    match hc:cutN r with
    | none=>exact⟨uf _,rfl,rfl⟩
    | some (x,z) =>
      obtain⟨h1,h2⟩:=cut_back hc;obtain⟨i1,i2,i3⟩:=znU n z;refine⟨Nat.succ_le_succ i1,?_,?_⟩
      · show r=((x::(pieces n z).1).map ziu).flatten++(pieces n z).2
        rw[List.map_cons,List.flatten_cons,List.append_assoc,←i2];exact h1
      show(x::(pieces n z).1).all zcD=true;rw[List.all_cons,h2,i3];rfl
theorem zu0 {n:Nat} (h:n≤255):(zaL (n:Int)).toNat=n:=by
  unfold zaL;rw[UInt8.toNat_ofNat_of_lt' ybP];omega
theorem zpm {l:List (List UInt8)} (h:zdL l=true):zw (ziE l)=(l,true):=by
  unfold zdL at h;rw[uk,uj] at h;unfold ziE zw;have hp:=znT [] l h.2;rw[List.append_nil] at hp;simp only[];rw[zu0 h.1,hp,ut ⟨rfl,rfl⟩]
theorem zjj {b:List UInt8} (h:(zw b).2=true):ziE (zw b).1=b∧zdL (zw b).1=true:=by
  match b,h with
  | n::r,h =>
    have hn:n.toNat<256:=n.toNat_lt;unfold zw at h ⊢;simp only[] at h ⊢;by_cases q:(pieces n.toNat r).1.length=n.toNat∧(pieces n.toNat r).2=[]
    · rw[ut q]
      obtain⟨i1,i2,i3⟩:=znU n.toNat r;rw[q.2,List.append_nil] at i2;refine⟨?_,?_⟩
      · show zaL ((pieces n.toNat r).1.length:Int)::((pieces n.toNat r).1.map ziu).flatten=n::r
        rw[←i2,q.1];congr 1;apply UInt8.toNat_inj.1;rw[zu0 ya]
      unfold zdL;rw[i3,ui (show(pieces n.toNat r).1.length≤255 by omega)];rfl
    rw[ur q] at h;cases h
  | [],h=>cases h
theorem zm6 (x:List UInt8):(ziu x).length=2+x.length:=by unfold ziu;rw[ue,zE]
theorem zmI:∀l:List (List UInt8),(ziE l).length=1+(l.map fun x=>2+x.length).sum
  | []=>rfl
  | x::l=>by
    have ih:=zmI l;unfold ziE at ih ⊢;rw[List.length_cons,List.map_cons,List.flatten_cons,ue,zm6,List.map_cons,List.sum_cons];rw[List.length_cons] at ih;omega
def zaI (b:List UInt8):Head:=⟨((valU (b.take 4)).toNat:Int),(b.drop 4).take 32,(b.drop 36).take 32,(b.drop 68).take 32,(b.drop 100).take 32,ze8 ((b.drop 132).take 32),UInt32.ofNat (valU ((b.drop 164).take 4)).toNat,valU ((b.drop 168).take 8)⟩
def zbi (b:List UInt8):Bool:=decide (b.length=176)&&decide ((valU (b.take 4)).toNat≤1048576)
def zg3 (b:List UInt8):Head:=if zbi b=true then zaI b else zmp
def ziD (p:Proof):Bool:=decide (1≤p.m∧p.m≤20∧1≤p.k∧p.k≤20∧p.p.length≤100)&&p.p.all fun x=>decide (x.l.length≤32)
def wOk (p:Proof):Bool:=ziD p&&p.p.all fun x=>hOk x.h
def zaU (x:Part):List UInt8:=ziE (zaj x.h::x.l)
def putL (p:Proof):List UInt8:=zaL p.m::zaL p.k::ziE (p.p.map zaU)
def za2 (r:List UInt8):Bool:=(zw r).2&&match (zw r).1 with
  | []=>false
  | h::l=>zbi h&&l.all fun x=>decide (x.length=32)
def zbk (r:List UInt8):Part:=match (zw r).1 with
  | []=>⟨zmp,[]⟩
  | h::l=>⟨zaI h,l⟩
def ze7 (b:List UInt8):Proof:=⟨((b.getD 0 0).toNat:Int),((b.getD 1 0).toNat:Int),(zw (b.drop 2)).1.map zbk⟩
def zcH (b:List UInt8):Bool:=decide (2<b.length)&&(zw (b.drop 2)).2&&(zw (b.drop 2)).1.all za2&&ziD (ze7 b)
theorem u8_nat {n:Int} (h0:0≤n) (h1:n≤255):(zaL n).toNat=n.toNat:=by
  obtain⟨m,rfl⟩:∃m:Nat,n=m:=⟨n.toNat,by omega⟩;rw[zu0 ya];rfl
theorem u8_back (c:UInt8):zaL (c.toNat:Int)=c:=by
  apply UInt8.toNat_inj.1
  have:c.toNat<256:=c.toNat_lt
  rw[zu0 ya]
theorem of32_four (x0 x1 x2 x3 x4 x5 x6 x7 x8 x9 x10 x11 x12 x13 x14 x15 x16 x17 x18 x19 x20 x21 x22 x23 x24 x25 x26 x27 x28 x29 x30 x31:UInt8):ze8 [x0,x1,x2,x3,x4,x5,x6,x7,x8,x9,x10,x11,x12,x13,x14,x15,x16,x17,x18,x19,x20,x21,x22,x23,x24,x25,x26,x27,x28,x29,x30,x31]=[valU [x24,x25,x26,x27,x28,x29,x30,x31],valU [x16,x17,x18,x19,x20,x21,x22,x23],valU [x8,x9,x10,x11,x12,x13,x14,x15],valU [x0,x1,x2,x3,x4,x5,x6,x7]]:=yv
theorem list32 {b:List UInt8} (h:b.length=32):∃x0 x1 x2 x3 x4 x5 x6 x7 x8 x9 x10 x11 x12 x13 x14 x15 x16 x17 x18 x19 x20 x21 x22 x23 x24 x25 x26 x27 x28 x29 x30 x31,b=[x0,x1,x2,x3,x4,x5,x6,x7,x8,x9,x10,x11,x12,x13,x14,x15,x16,x17,x18,x19,x20,x21,x22,x23,x24,x25,x26,x27,x28,x29,x30,x31]:=by
  match b,h with
  | [x0,x1,x2,x3,x4,x5,x6,x7,x8,x9,x10,x11,x12,x13,x14,x15,x16,x17,x18,x19,x20,x21,x22,x23,x24,x25,x26,x27,x28,x29,x30,x31],_=>exact⟨x0,x1,x2,x3,x4,x5,x6,x7,x8,x9,x10,x11,x12,x13,x14,x15,x16,x17,x18,x19,x20,x21,x22,x23,x24,x25,x26,x27,x28,x29,x30,x31,rfl⟩
theorem zqb {b:List UInt8} (h:b.length=32):zeR (ze8 b)=b:=by
  obtain⟨x0,x1,x2,x3,x4,x5,x6,x7,x8,x9,x10,x11,x12,x13,x14,x15,x16,x17,x18,x19,x20,x21,x22,x23,x24,x25,x26,x27,x28,x29,x30,x31,rfl⟩:=list32 h;rw[of32_four,zj9];have e1:=zff [x0,x1,x2,x3,x4,x5,x6,x7] (ug _);have e2:=zff [x8,x9,x10,x11,x12,x13,x14,x15] (ug _);have e3:=zff [x16,x17,x18,x19,x20,x21,x22,x23] (ug _);have e4:=zff [x24,x25,x26,x27,x28,x29,x30,x31] (ug _);have e1:zD (valU [x0,x1,x2,x3,x4,x5,x6,x7]) 8=[x0,x1,x2,x3,x4,x5,x6,x7]:=e1;have e2:zD (valU [x8,x9,x10,x11,x12,x13,x14,x15]) 8=[x8,x9,x10,x11,x12,x13,x14,x15]:=e2;have e3:zD (valU [x16,x17,x18,x19,x20,x21,x22,x23]) 8=[x16,x17,x18,x19,x20,x21,x22,x23]:=e3;have e4:zD (valU [x24,x25,x26,x27,x28,x29,x30,x31]) 8=[x24,x25,x26,x27,x28,x29,x30,x31]:=e4;rw[e1,e2,e3,e4];rfl
theorem of32_bytes {a:Wide} (ha:a.length=4):ze8 (zeR a)=a:=by
  have hl:(zeR a).length=32:=zc5 a;exact bytesW_inj zqW ha (zqb hl)
theorem zh4 {h:Head} (hh:HW h) (ho:hOk h=true):(zaj h).length=176:=by
  obtain⟨h1,h2,h3,h4,h5⟩:=hh;unfold zaj;rw[ut ho];simp[zb6,h1,h2,h3,h4,zc5,zE]
theorem head_parts {h:Head} (hh:HW h):(zb6 h).take 4=zD (zL (IntL.toI i64T h.height)) 4∧((zb6 h).drop 4).take 32=h.prev∧((zb6 h).drop 36).take 32=h.links∧((zb6 h).drop 68).take 32=h.txs∧((zb6 h).drop 100).take 32=h.past∧
    ((zb6 h).drop 132).take 32=zeR h.work∧((zb6 h).drop 164).take 4=zD (zL (IntL.toI u32T h.bits)) 4∧((zb6 h).drop 168).take 8=zD h.nonce 8:=by
  obtain⟨h1,h2,h3,h4,h5⟩:=hh;have l0:=zE (zL (IntL.toI i64T h.height)) 4;have l6:=zE (zL (IntL.toI u32T h.bits)) 4;have l7:=zE h.nonce 8;have l5:=zc5 h.work;unfold zb6;simp only[List.flatten_cons,List.flatten_nil,List.append_nil];generalize zD (zL (IntL.toI i64T h.height)) 4=A at *;generalize zD (zL (IntL.toI u32T h.bits)) 4=F at *;generalize zD h.nonce 8=G at *;generalize zeR h.work=E at *;have d1:(A++(h.prev++(h.links++(h.txs++(h.past++(E++(F++G))))))).drop 4=h.prev++(h.links++(h.txs++(h.past++(E++(F++G))))):=List.drop_left' l0;have d2:(A++(h.prev++(h.links++(h.txs++(h.past++(E++(F++G))))))).drop 36=h.links++(h.txs++(h.past++(E++(F++G)))):=by rw[show 36=4+32 from rfl,←List.drop_drop,d1];exact List.drop_left' h1
  have d3:(A++(h.prev++(h.links++(h.txs++(h.past++(E++(F++G))))))).drop 68=h.txs++(h.past++(E++(F++G))):=by rw[show 68=36+32 from rfl,←List.drop_drop,d2];exact List.drop_left' h2
  have d4:(A++(h.prev++(h.links++(h.txs++(h.past++(E++(F++G))))))).drop 100=h.past++(E++(F++G)):=by rw[show 100=68+32 from rfl,←List.drop_drop,d3];exact List.drop_left' h3
  have d5:(A++(h.prev++(h.links++(h.txs++(h.past++(E++(F++G))))))).drop 132=E++(F++G):=by rw[show 132=100+32 from rfl,←List.drop_drop,d4];exact List.drop_left' h4
  have d6:(A++(h.prev++(h.links++(h.txs++(h.past++(E++(F++G))))))).drop 164=F++G:=by rw[show 164=132+32 from rfl,←List.drop_drop,d5];exact List.drop_left' l5
  have d7:(A++(h.prev++(h.links++(h.txs++(h.past++(E++(F++G))))))).drop 168=G:=by rw[show 168=164+4 from rfl,←List.drop_drop,d6];exact List.drop_left' l6
  rw[d1,d2,d3,d4,d5,d6,d7];exact⟨List.take_left' l0,List.take_left' h1,List.take_left' h2,List.take_left' h3,List.take_left' h4,List.take_left' l5,List.take_left' l6,uc (Nat.le_of_eq l7)⟩
theorem ztQ (n:UInt64) {s:Nat} (hs:s≤8):(valU (zD n s)).toNat=n.toNat%256^s:=by rw[zhg _ (by rw[zE];exact hs),zkh n s hs]
theorem zrZ (n:UInt64):valU (zD n 8)=n:=by
  apply UInt64.toNat_inj.1;have hn:n.toNat<18446744073709551616:=n.toNat_lt;rw[ztQ n (ug _),show(256:Nat)^8=18446744073709551616 from rfl,Nat.mod_eq_of_lt hn]
theorem read_put {h:Head} (hh:HW h) (ho:hOk h=true):zbi (zb6 h)=true∧zaI (zb6 h)=h:=by
  obtain⟨p1,p2,p3,p4,p5,p6,p7,p8⟩:=head_parts hh;have ho2:=hOk_iff.1 ho;have hlen:(zb6 h).length=176:=by
    have:=zh4 hh ho
    unfold zaj at this
    rwa [ut ho] at this
  have hv:(valU ((zb6 h).take 4)).toNat=h.height.toNat:=by
    rw[p1,ztQ _ yn,show(256:Nat)^4=4294967296 from rfl];have e:(zL (IntL.toI i64T h.height)).toNat=h.height.toNat:=zdt (n:=h.height) ho2.1 ya;rw[e];omega
  refine⟨?_,?_⟩
  · unfold zbi
    rw[ui hlen,ui (by rw[hv];omega)];rfl
  unfold zaI;rw[hv,p2,p3,p4,p5,p6,p7,p8,of32_bytes hh.2.2.2.2,zrZ,ztQ _ yn];have eb:(zL (IntL.toI u32T h.bits)).toNat=h.bits.toNat:=by
    have:h.bits.toNat<4294967296:=h.bits.toNat_lt
    exact zdt (n:=(h.bits.toNat:Int)) ya ya
  have eb2:UInt32.ofNat (h.bits.toNat%256^4)=h.bits:=by
    apply UInt32.toNat_inj.1
    have:h.bits.toNat<4294967296:=h.bits.toNat_lt
    rw[show(256:Nat)^4=4294967296 from rfl,Nat.mod_eq_of_lt this,UInt32.toNat_ofNat_of_lt' this]
  have eh:((h.height.toNat:Nat):Int)=h.height:=ya;rw[eb,eb2,eh]
theorem num4 {b:List UInt8} (h:b.length=4):zD (zL (IntL.toI i64T ((valU b).toNat:Int))) 4=b:=by
  have v4:=zhg b ya;have lt4:=zjL b;rw[h,show(256:Nat)^4=4294967296 from rfl] at lt4;have e:zL (IntL.toI i64T ((valU b).toNat:Int))=valU b:=by
    apply UInt64.toNat_inj.1;exact zdt (n:=((valU b).toNat:Int)) ya ya
  rw[e]
  have:=zff b ya
  rwa [h] at this
theorem bits4 {b:List UInt8} (h:b.length=4):zD (zL (IntL.toI u32T (UInt32.ofNat (valU b).toNat))) 4=b:=by
  have v4:=zhg b ya;have lt4:=zjL b;rw[h,show(256:Nat)^4=4294967296 from rfl] at lt4;have e0:(UInt32.ofNat (valU b).toNat).toNat=(valU b).toNat:=UInt32.toNat_ofNat_of_lt' (by show _<4294967296;omega);have e:zL (IntL.toI u32T (UInt32.ofNat (valU b).toNat))=valU b:=by
    apply UInt64.toNat_inj.1;show(zL (((UInt32.ofNat (valU b).toNat).toNat:Nat):Int)).toNat=_;rw[e0];exact zdt (n:=((valU b).toNat:Int)) ya ya
  rw[e]
  have:=zff b ya
  rwa [h] at this
theorem num8 {b:List UInt8} (h:b.length=8):zD (valU b) 8=b:=by
  have:=zff b ya
  rwa [h] at this
theorem zln (b:List UInt8) (i n:Nat):(b.drop i).take n++b.drop (i+n)=b.drop i:=by rw[←List.drop_drop,List.take_append_drop]
theorem zgq {b:List UInt8} (hl:b.length=176) {i n:Nat} (h:i+n≤176):((b.drop i).take n).length=n:=by rw[um,List.length_drop];omega
theorem chunks {b:List UInt8} (hl:b.length=176):b.take 4++((b.drop 4).take 32++((b.drop 36).take 32++((b.drop 68).take 32++((b.drop 100).take 32++((b.drop 132).take 32++((b.drop 164).take 4++(b.drop 168).take 8))))))=b:=by
  have r7:(b.drop 168).take 8=b.drop 168:=uc yaF;rw[r7,zln b 164 4,zln b 132 32,zln b 100 32,zln b 68 32,zln b 36 32,zln b 4 32,List.take_append_drop]
theorem rd_ok {b:List UInt8} (hv:(valU (b.take 4)).toNat≤1048576):0≤(zaI b).height∧(zaI b).height≤1048576:=by
  have e:(zaI b).height=((valU (b.take 4)).toNat:Int):=yaG;rw[e];omega
theorem rd_hw {b:List UInt8} (hl:b.length=176):HW (zaI b):=by
  have w:=zqW (b:=(b.drop 132).take 32);have e1:(zaI b).prev=(b.drop 4).take 32:=yaG;have e2:(zaI b).links=(b.drop 36).take 32:=yaG;have e3:(zaI b).txs=(b.drop 68).take 32:=yaG;have e4:(zaI b).past=(b.drop 100).take 32:=yaG;have e5:(zaI b).work=ze8 ((b.drop 132).take 32):=yaG;unfold HW;rw[e1,e2,e3,e4,e5];exact⟨zgq hl (i:=4) (n:=32) yn,zgq hl (i:=36) (n:=32) yn,zgq hl (i:=68) (n:=32) yn,zgq hl (i:=100) (n:=32) yn,w⟩
theorem put_read {b:List UInt8} (h:zbi b=true):HW (zaI b)∧hOk (zaI b)=true∧zb6 (zaI b)=b:=by
  unfold zbi at h;rw[uk,uj,uj] at h;obtain⟨hl,hv⟩:=h;have t4:(b.take 4).length=4:=yb7;have e1:=num4 t4;have e6:=bits4 (zgq hl (i:=164) (n:=4) yn);have e7:=num8 (zgq hl (i:=168) (n:=8) yn);have e5:=zqb (zgq hl (i:=132) (n:=32) yn);refine⟨rd_hw hl,hOk_iff.2 (rd_ok hv),?_⟩
  have ep : zb6 (zaI b) = zD (zL (IntL.toI i64T ((valU (b.take 4)).toNat : Int))) 4 ++ ((b.drop 4).take 32 ++ ((b.drop 36).take 32 ++ ((b.drop 68).take 32 ++ ((b.drop 100).take 32 ++ (zeR (ze8 ((b.drop 132).take 32)) ++
      (zD (zL (IntL.toI u32T (UInt32.ofNat (valU ((b.drop 164).take 4)).toNat))) 4++zD (valU ((b.drop 168).take 8)) 8)))))):=by
    simp only[zb6,zaI,List.flatten_cons,List.flatten_nil,List.append_nil]
  rw[ep,e1,e5,e6,e7];exact chunks hl
theorem row_ok {x:Part} (hh:HW x.h) (ho:hOk x.h=true) (hi:∀y∈x.l,y.length=32) (hl:x.l.length≤32):zdL (zaj x.h::x.l)=true:=by
  unfold zdL;rw[uk,uj,List.all_cons,uk,List.all_eq_true];refine⟨by simp;omega,ui (by rw[zh4 hh ho];omega),fun y hy=>ui (by rw[hi y hy];omega)⟩
theorem sum_32:∀l:List (List UInt8),(∀y∈l,y.length=32)→(l.map fun x=>2+x.length).sum=34*l.length
  | [],_=>rfl
  | x::l,h=>by
    rw[List.map_cons,List.sum_cons,sum_32 l (fun y hy=>h y (List.mem_cons_of_mem _ hy)),h x (List.mem_cons_self ..),List.length_cons];omega
theorem znV {x:Part} (hh:HW x.h) (ho:hOk x.h=true) (hi:∀y∈x.l,y.length=32):(zaU x).length=179+34*x.l.length:=by
  unfold zaU;rw[zmI,List.map_cons,List.sum_cons,zh4 hh ho,sum_32 _ hi];omega
def PW (p:Proof):Prop:=∀x∈p.p,HW x.h∧∀y∈x.l,y.length=32
theorem zbU {p:Proof} (h:ziD p=true):(1≤p.m∧p.m≤20∧1≤p.k∧p.k≤20∧p.p.length≤100)∧∀x∈p.p,x.l.length≤32:=by
  unfold ziD at h;rw[uk,uj,List.all_eq_true] at h;exact⟨h.1,fun x hx=>of_decide_eq_true (h.2 x hx)⟩
theorem zhJ {p:Proof} (h:wOk p=true):ziD p=true∧∀x∈p.p,hOk x.h=true:=by
  unfold wOk at h;rw[uk,List.all_eq_true] at h;exact h
theorem zmO {p:Proof} (hw:PW p) (h:wOk p=true):zdL (p.p.map zaU)=true:=by
  obtain⟨h1,h2⟩:=zhJ h;obtain⟨h3,h4⟩:=zbU h1;unfold zdL;rw[uk,uj,List.all_eq_true];refine⟨by simp;omega,fun r hr=>?_⟩;obtain⟨x,hx,rfl⟩:=List.mem_map.1 hr
  have:=h4 x hx
  exact ui (by rw[znV (hw x hx).1 (h2 x hx) (hw x hx).2];omega)
theorem zsK {x:Part} (hh:HW x.h) (ho:hOk x.h=true) (hi:∀y∈x.l,y.length=32) (hl:x.l.length≤32):za2 (zaU x)=true∧zbk (zaU x)=x:=by
  have hs:=zpm (row_ok hh ho hi hl);have eb:zaj x.h=zb6 x.h:=by unfold zaj;rw[ut ho]
  obtain⟨r1,r2⟩:=read_put hh ho;unfold za2 zbk zaU;rw[hs];simp only[];rw[eb,r1,r2];refine⟨?_,rfl⟩;rw[Bool.true_and,Bool.true_and,List.all_eq_true];exact fun y hy=>ui (hi y hy)
theorem put_get {p:Proof} (h0:0≤p.m∧p.m≤255∧0≤p.k∧p.k≤255):(((putL p).getD 0 0).toNat:Int)=p.m∧(((putL p).getD 1 0).toNat:Int)=p.k:=by
  have e0:(putL p).getD 0 0=zaL p.m:=rfl;have e1:(putL p).getD 1 0=zaL p.k:=rfl;rw[e0,e1,u8_nat h0.1 h0.2.1,u8_nat h0.2.2.1 h0.2.2.2];omega
theorem proof_back {p:Proof} (hw:PW p) (h:wOk p=true):zcH (putL p)=true∧ze7 (putL p)=p:=by
  obtain⟨h1,h2⟩:=zhJ h;obtain⟨h3,h4⟩:=zbU h1;have hs:=zpm (zmO hw h);have hd:(putL p).drop 2=ziE (p.p.map zaU):=rfl;have hm:(p.p.map zaU).map zbk=p.p:=by
    rw[List.map_map]
    conv=>rhs;rw[←List.map_id p.p]
    exact List.map_congr_left fun x hx=>(zsK (hw x hx).1 (h2 x hx) (hw x hx).2 (h4 x hx)).2
  obtain⟨g1,g2⟩:=put_get (p:=p) ya;have hr:ze7 (putL p)=p:=by
    unfold ze7;rw[hd,hs,g1,g2];show(⟨p.m,p.k,(p.p.map zaU).map zbk⟩:Proof)=p;rw[hm]
  refine⟨?_,hr⟩;unfold zcH;rw[hr,h1,hd,hs,ui (show 2<(putL p).length by unfold putL ziE;simp)];simp only[Bool.true_and,Bool.and_true];rw[List.all_eq_true];intro r hr;obtain⟨x,hx,rfl⟩:=List.mem_map.1 hr;exact(zsK (hw x hx).1 (h2 x hx) (hw x hx).2 (h4 x hx)).1
theorem zmP {r:List UInt8} (h:za2 r=true):HW (zbk r).h∧hOk (zbk r).h=true∧(∀y∈(zbk r).l,y.length=32)∧zaU (zbk r)=r:=by
  unfold za2 at h;rw[uk] at h;obtain⟨h1,h2⟩:=h;obtain⟨e1,e2⟩:=zjj h1;unfold zbk zaU
  match hl:(zw r).1 with
  | []=>rw[hl] at h2;cases h2
  | b::l =>
    rw[hl] at h2 e1;simp only[] at h2 ⊢;rw[uk,List.all_eq_true] at h2;obtain⟨p1,p2,p3⟩:=put_read h2.1;refine⟨p1,p2,fun y hy=>of_decide_eq_true (h2.2 y hy),?_⟩;unfold zaj;rw[ut p2,p3,e1]
theorem zqf {b:List UInt8} (h:zcH b=true):wOk (ze7 b)=true∧PW (ze7 b)∧putL (ze7 b)=b:=by
  unfold zcH at h;rw[uk,uk,uk,uj,List.all_eq_true] at h;obtain⟨⟨⟨h1,h2⟩,h3⟩,h4⟩:=h;obtain⟨e1,e2⟩:=zjj h2;have hp:(ze7 b).p=(zw (b.drop 2)).1.map zbk:=rfl;refine⟨?_,?_,?_⟩
  · unfold wOk
    rw[h4,Bool.true_and,List.all_eq_true];intro x hx;rw[hp] at hx;obtain⟨r,hr,rfl⟩:=List.mem_map.1 hx;exact(zmP (h3 r hr)).2.1
  · intro x hx
    rw[hp] at hx;obtain⟨r,hr,rfl⟩:=List.mem_map.1 hx;exact⟨(zmP (h3 r hr)).1,(zmP (h3 r hr)).2.2.1⟩
  match b,h1 with
  | m::k::t,_ =>
    have hm:((zw t).1.map zbk).map zaU=(zw t).1:=by
      rw[List.map_map]
      conv=>rhs;rw[←List.map_id (zw t).1]
      exact List.map_congr_left fun r hr=>(zmP (h3 r hr)).2.2.2
    show zaL (m.toNat:Int)::zaL (k.toNat:Int)::ziE (((zw t).1.map zbk).map zaU)=m::k::t;rw[u8_back,u8_back,hm];congr 2
  | [],h1=>simp at h1
  | [_],h1=>simp at h1
theorem put_len {p:Proof} (hw:PW p) (h:wOk p=true):(putL p).length=3+(p.p.map fun x=>181+34*x.l.length).sum:=by
  obtain⟨h1,h2⟩:=zhJ h;unfold putL;rw[List.length_cons,List.length_cons,zmI,List.map_map]
  have:p.p.map ((fun x:List UInt8=>2+x.length) ∘ zaU)=p.p.map fun x=>181+34*x.l.length:=List.map_congr_left fun x hx=>by
    show 2+(zaU x).length=_;rw[znV (hw x hx).1 (h2 x hx) (hw x hx).2];omega
  rw[this];omega
theorem zbA {b:List UInt8} {p size:Int} (h:size<0∨8<size∨p<0∨(b.length:Int)<p∨(b.length:Int)-p<size):zdy b p size=false:=by
  unfold zdy;apply uh;omega
theorem zs3 {b:List UInt8} {p size:Int} (h1:¬size<0) (h2:¬8<size) (h3:¬p<0) (h4:¬(b.length:Int)<p) (h5:¬(b.length:Int)-p<size):zdy b p size=true:=by
  unfold zdy;apply ui;omega
theorem zg5 {b:List UInt8} {p size:Int} (h:zdy b p size=false):getU b p size=0:=by unfold getU;rw[h];rfl
theorem zgT {b:List UInt8} {p size:Int} (h:zdy b p size=true):getU b p size=valU ((b.drop p.toNat).take size.toNat):=by unfold getU;rw[ut h]
theorem zuh {b:List UInt8} {p:Int} (h:zdy b p 2=true):(getU b p 2).toNat≤65535:=by
  rw[zgT h,show(2:Int).toNat=2 from rfl];have hl:((b.drop p.toNat).take 2).length≤2:=yb7;have h2:=zhg ((b.drop p.toNat).take 2) ya;have h3:=zjL ((b.drop p.toNat).take 2);have h4:256^((b.drop p.toNat).take 2).length≤256^2:=Nat.pow_le_pow_right yn hl;have h5:(256:Nat)^2=65536:=rfl;omega
theorem zmi {b:List UInt8} {p:Int} (h:cutE b p=false):cutX b p=[]∧zi2 b p=0:=by
  unfold cutX zi2;rw[h];exact⟨rfl,rfl⟩
theorem zi1 {b:List UInt8} {p:Int} (h:cutE b p=true):cutX b p=(b.drop (p.toNat+2)).take (getU b p 2).toNat∧zi2 b p=p+2+(getU b p 2).toNat:=by
  unfold cutX zi2;rw[h];exact⟨rfl,rfl⟩
def zmy (x:List UInt8):List UInt8:=if zcD x=true then ziu x else []
def zjS (l:List (List UInt8)):List UInt8:=if zdL l=true then ziE l else []
theorem zqE {l:List (List UInt8)} (h:255<l.length):zdL l=false:=by unfold zdL;rw[uh ya];rfl
theorem zmJ {l:List (List UInt8)} {k:Nat} {x:List UInt8} (hx:l[k]?=some x) (h:¬zcD x=true):zdL l=false:=by
  unfold zdL;rw[Bool.and_eq_false_iff];right;rw[List.all_eq_false];exact⟨x,ud hx,h⟩
theorem zmK {l:List (List UInt8)} {k:Nat} (h:¬255<l.length) (hb:∀x∈l.take k,zcD x=true) (hk:l.length≤k):zdL l=true:=by
  rw[uc hk] at hb;unfold zdL;rw[ui ya,Bool.true_and,List.all_eq_true];exact hb
def zls (l:List (List UInt8)) (k:Nat):List UInt8:=zaL (IntL.toI i64T (l.length:Int))::((l.take k).map ziu).flatten
theorem zpy {l:List (List UInt8)} {k:Nat} {x:List UInt8} (h:l[k]?=some x):zls l (k+1)=zls l k++ziu x:=by
  unfold zls;rw[un,h];simp
theorem zss {l:List (List UInt8)} {k:Nat} (h:l.length≤k):zls l k=ziE l:=by
  unfold zls ziE;rw[uc h];rfl
theorem zsr {l:List (List UInt8)} {k:Nat} (h:∀x∈l.take k,zcD x=true):(zls l k).length≤1+k*65537:=by
  unfold zls;rw[List.length_cons]
  have:∀(m:List (List UInt8)),(∀x∈m,zcD x=true)→(m.map ziu).flatten.length≤m.length*65537:=by
    intro m
    induction m with
    | nil=>intro _;simp
    | cons x m ih =>
      intro hm;have h1:=ih (fun y hy=>hm y (List.mem_cons_of_mem _ hy));have h2:=of_decide_eq_true (hm x (List.mem_cons_self ..));rw[List.map_cons,List.flatten_cons,ue,zm6,List.length_cons];omega
  have h1:=this (l.take k) h;have h2:(l.take k).length≤k:=yb7;have h3:(l.take k).length*65537≤k*65537:=Nat.mul_le_mul_right _ h2;omega
theorem cloneU8 (l:List UInt8) (hl:l.length*1≤140737488355328∧l.length≤9223372036854775807):Tells P 306 [.val (bsl u8T) l] (.fresh 5 u8T l):=by
 refine zc Tryz.func306 rfl rfl rfl (fun ext w hext=>?_);refine ze (d:=0) rfl zi (fun hsl0=>?_);refine qap ?_;refine qbe ?_;refine zii rfl rfl rfl rfl rfl zed (fun c4 hc4=>?_);refine CN ?_;refine zq (p:=c4=true) rfl yw (fun ht4=>?_) (fun ht4=>?_)
 ·
  obtain rfl:=hc4 ht4;refine qap ?_;refine CN ?_;exact zd rfl rfl (zm rfl)
 refine CSQR ?_;refine zbm (T:=u8T) (xs:=[]) rfl rfl rfl rfl zb4 zaE trivial rfl rfl ?_;refine qau ?_;refine zo rfl rfl rfl rfl rfl rfl rfl zaE ya1 ?_;refine qbJ ?_;exact zd rfl rfl (zf rfl rfl yw)
theorem zty (b:List UInt8) (p size:Int):Tells P 204 [.val (bsl u8T) b,.val i64T p,.val i64T size] (.tup2 (.val u64T (getU b p size)) (.val zs (zdy b p size))):=by
 refine zc Tryz.func204 rfl rfl rfl (fun ext w hext=>?_);refine ze (d:=0) rfl zi (fun hsl0=>?_);refine ze (d:=1) rfl zu (fun hin1=>?_);refine ze (d:=2) rfl zu (fun hin2=>?_);refine CQR ?_;refine A0 aV ?_;refine qaj ?_;refine A0 zbb ?_;refine Sp (d:=12) (p:=size<0) (fun g12=>?_) (fun g12=>?_)
 ·
  refine qau ?_;refine qaE ?_;refine qas ?_;refine qc0 ?_;refine Ct ?_;refine CQR ?_;refine qaI ?_;exact zx rfl rfl (za rfl ((zg5 (zbA (.inl g12))).symm)) (za rfl ((zbA (.inl g12)).symm))
 refine qbR ?_;refine qdo ?_;refine Sp (d:=15) (p:=8<size) (fun g15=>?_) (fun g15=>?_)
 ·
  refine qaf ?_;refine qbB ?_;refine qas ?_;refine qc0 ?_;refine Ct ?_;refine CQR ?_;refine qaI ?_;exact zx rfl rfl (za rfl ((zg5 (zbA (.inr (.inl g15)))).symm)) (za rfl ((zbA (.inr (.inl g15))).symm))
 refine qbA ?_;refine A1 zbb ?_;refine Sp (d:=19) (p:=p<0) (fun g19=>?_) (fun g19=>?_)
 ·
  refine qas ?_;refine qc0 ?_;refine Ct ?_;refine CQR ?_;refine qaI ?_;exact zx rfl rfl (za rfl ((zg5 (zbA (.inr (.inr (.inl g19))))).symm)) (za rfl ((zbA (.inr (.inr (.inl g19)))).symm))
 refine qbA ?_;refine A1 mV ?_;refine A1 (zat rfl rfl zed) ?_;refine qdo ?_;refine Sp (d:=25) (p:=(b.length:Int)<p) (fun g25=>?_) (fun g25=>?_)
 ·
  refine qc0 ?_;refine Ct ?_;refine CQR ?_;refine qaI ?_;exact zx rfl rfl (za rfl ((zg5 (zbA (.inr (.inr (.inr (.inl g25)))))).symm)) (za rfl ((zbA (.inr (.inr (.inr (.inl g25))))).symm))
 refine qbA ?_;refine A1 mV ?_;refine A1 (zat rfl rfl zed) ?_;refine A1 mV ?_;refine A1 za5 ?_;refine qdo ?_;refine qao ?_;refine Cf (p:=(b.length:Int)-p<size) (fun ht34=>?_) (fun ht34=>?_)
 ·
  refine CQR ?_;refine qaI ?_;exact zx rfl rfl (za rfl ((zg5 (zbA (.inr (.inr (.inr (.inr ht34)))))).symm)) (za rfl ((zbA (.inr (.inr (.inr (.inr ht34))))).symm))
 have hok:=zs3 g12 g15 g19 g25 ht34;obtain⟨M,hM⟩:∃M,M=(b.drop p.toNat).take size.toNat:=⟨_,rfl⟩;have hml:M.length=size.toNat:=ycF;refine CSQR ?_;refine qc8 ?_;refine qad ?_;refine qad ?_;refine A0 zcn ?_;refine A0 (zui rfl rfl rfl rfl zb4 yg) ?_;refine zj (d:=40) (y:=M) rfl (by rw[hM,List.drop_take];congr 1;omega) ?_;refine qcr ?_;refine qaP ?_;refine Lp (ι:=Nat) 0 (fun (k:Nat)=>((((Fr.none).set 8 (.val u64T (valU (M.take k)))).set 40 (.val (bsl u8T) M)).set 41 (.val i64T (M.length:Int))).set 42 (.val i64T (k:Int))) (fun (k:Nat)=>Hp.none) (fun (k:Nat)=>k≤M.length) (fun (k:Nat)=>M.length-k) (0) (uf _) ?_;intro k hinv;refine qar ?_;refine Cf (p:=k<M.length) (fun ht43=>?_) (fun ht43=>?_)
 ·
  obtain⟨x,hx⟩:∃x,M[k]?=some x:=⟨_,ub ht43⟩;refine CSQBQR ?_;refine A0 (zr (i:=k) rfl rfl rfl ya zb4 yh) ?_;refine A0 (zh rfl rfl ty_5) ?_;refine A0 aX ?_;refine CNR ?_;refine qau ?_;refine A0 (zlI rfl rfl rfl ym rfl) ?_;refine A0 mX ?_;refine A0 (zfc rfl (zlk) (us_5) rfl) ?_;refine A0 (zs4 rfl rfl rfl) ?_;refine A0 aV ?_;refine qbK ?_;refine zj (d:=8) (y:=valU (M.take (k+1))) rfl (by rw[un,hx];show _=valU (M.take k++[x]);rw[zr0];rfl) ?_;exact Nx (k+1) ya ya
 refine qcu ?_;refine qaI ?_;exact zx rfl rfl (za rfl (by rw[zgT hok,uc ya,hM])) (za rfl (hok.symm))
theorem binBlob_ok (x:List UInt8):Tells P 202 [.val (bsl u8T) x] (.tup2 (.fresh 5 u8T (zmy x)) (.val zs (zcD x))):=by
 refine zc Tryz.func202 rfl rfl rfl (fun ext w hext=>?_);refine ze (d:=0) rfl zi (fun hsl0=>?_);refine qap ?_;refine qaj ?_;refine qcr ?_;refine qbT ?_;refine Cf (p:=65535<x.length) (fun ht6=>?_) (fun ht6=>?_)
 ·
  refine qaT ?_;exact zx rfl rfl ybY (za rfl (by unfold zcD;symm;apply uh;omega))
 have hbo:zcD x=true:=ui ya;have hn:=zE (zL (IntL.toI i64T (x.length:Int))) 2;refine qbw ?_;refine qcr ?_;refine qdq ?_;refine A0 (oCl (zC (zk3 _ 2 yn)) rfl zwe ye) ?_;refine zfx (S:=bsl u8T) (d:=10) rfl ?_;refine qau ?_;refine qcd ?_;refine zaH (zhB [zD (zL (IntL.toI i64T (x.length:Int))) 2,x] (by simp[hn];omega)) rfl zpV yc rfl rfl rfl ?_;refine qcl ?_;exact zx rfl rfl (zf rfl rfl (by unfold zmy;rw[ut hbo];unfold ziu;simp[IntL.toI])) (za rfl (hbo.symm))
theorem binCut_ok (b:List UInt8) (p:Int) (hb:b.length≤1000000000):Tells P 262 [.val (bsl u8T) b,.val i64T p] (.tup3 (.fresh 5 u8T (cutX b p)) (.val i64T (zi2 b p)) (.val zs (cutE b p))):=by
 have hu:=zuh (b:=b) (p:=p);refine zc Tryz.func262 rfl rfl rfl (fun ext w hext=>?_);refine ze (d:=0) rfl zi (fun hsl0=>?_);refine ze (d:=1) rfl zu (fun hin1=>?_);refine qap ?_;refine A0 aV ?_;refine qbr ?_;refine A0 (oCl (zty b p 2) rfl fn_204 yz) ?_;refine qb1 ?_;refine A0 oN ?_;refine zX (d:=18) (p:=zdy b p 2=false) rfl (by cases zdy b p 2<;>rfl) (fun g18=>?_) (fun g18=>?_)
 ·
  have hcn:cutE b p=false:=by unfold cutE;rw[g18];rfl
  refine qau ?_;refine qbc ?_;refine qbB ?_;refine qao ?_;refine Ct ?_;refine qap ?_;refine qaI ?_;exact zb7 rfl rfl ybI (za rfl (by rw[(zmi hcn).2])) (za rfl hcn.symm)
 have hg:zdy b p 2=true:=by simpa using g18
 have hu2:=hu hg;have hgs:0≤p∧p≤b.length∧2≤(b.length:Int)-p:=by have h:=hg;unfold zdy at h;rw[uj] at h;omega
 have hti:IntL.toI u64T (getU b p 2)=((getU b p 2).toNat:Int):=rfl;refine qbR ?_;refine A1 (zhy rfl (ui_3) (zqs) rfl yaI) ?_;refine A1 mV ?_;refine A1 (zat rfl rfl zed) ?_;refine A1 mV ?_;refine A1 za5 ?_;refine A1 za5 ?_;refine qdo ?_;refine qao ?_;refine Cf (p:=(b.length:Int)-p-2<((getU b p 2).toNat:Int)) (fun ht28=>?_) (fun ht28=>?_)
 ·
  have hcn:cutE b p=false:=ycG;refine qap ?_;refine qaI ?_;exact zb7 rfl rfl ybI (za rfl (by rw[(zmi hcn).2])) (za rfl hcn.symm)
 have hce:cutE b p=true:=by unfold cutE;rw[hg,Bool.true_and,uj];omega
 refine qbw ?_;refine A0 zcn ?_;refine qdh ?_;refine A0 aV ?_;refine qbr ?_;refine qad ?_;refine A0 (zvW rfl rfl rfl rfl rfl zb4 yg) ?_;refine zj (d:=40) (y:=cutX b p) rfl yb8 ?_;have hcl:(cutX b p).length≤b.length:=by rw[(zi1 hce).1,um,List.length_drop];omega
 refine zaH (cloneU8 (cutX b p) yap) rfl fn_306 yc rfl rfl rfl ?_;refine qau ?_;refine A0 aO ?_;refine qaI ?_;exact zb7 rfl rfl (zf rfl rfl yw) (za rfl (by rw[(zi1 hce).2,hti])) (za rfl hce.symm)
theorem binRows_ok (l:List (List UInt8)):Tells P 145 [.val (bsl (bsl u8T)) l] (.tup2 (.fresh 5 u8T (zjS l)) (.val zs (zdL l))):=by
 refine zc Tryz.func145 rfl rfl rfl (fun ext w hext=>?_);refine ze (d:=0) rfl zi (fun hsl0=>?_);refine qap ?_;refine qaj ?_;refine qcA ?_;refine qbT ?_;refine Cf (p:=255<l.length) (fun ht11=>?_) (fun ht11=>?_)
 ·
  refine qaT ?_;exact zx rfl rfl (by rw[show zjS l=[] by unfold zjS;rw[ur (by rw[zqE ht11];decide)]];exact zm rfl) (za rfl ((zqE ht11).symm))
 refine qbw ?_;refine qcA ?_;refine qcB ?_;refine qbe ?_;refine qcA ?_;refine qaP ?_;refine zl (n:=0) (y:=zls l 0) rfl (by rfl) ?_;refine Lp (ι:=Nat) 1 (fun (k:Nat)=>(((((Fr.none).set 0 (.val (bsl (bsl u8T)) l)).set 4 (.own 0)).set 16 (.val (bsl (bsl u8T)) l)).set 17 (.val i64T (l.length:Int))).set 18 (.val i64T (k:Int))) (fun (k:Nat)=>(Hp.none).set 0 (.row 5 u8T (zls l k))) (fun (k:Nat)=>k≤l.length∧∀x∈l.take k,zcD x=true) (fun (k:Nat)=>l.length-k) (0) (⟨uf _,fun x hx=>by simp at hx⟩) ?_;intro k hinv;refine qar ?_;refine Cf (p:=k<l.length) (fun ht19=>?_) (fun ht19=>?_)
 ·
  obtain⟨x,hx⟩:∃x,l[k]?=some x:=⟨_,ub ht19⟩;have hnl:=zsr hinv.2;refine CSQBQR ?_;refine A0 (zr (i:=k) rfl rfl rfl ya zfJ yh) ?_;refine qcM ?_;refine qcf ?_;refine A0 (oCl (zbo (binBlob_ok x)) rfl fn_202 ycg) ?_;refine qb1 ?_;refine qaJ ?_;refine zq (p:=¬zcD x=true) rfl (by cases zcD x<;>rfl) (fun ht28=>?_) (fun ht28=>?_)
  ·
   refine qaT ?_;exact zx rfl rfl (by rw[show zjS l=[] by unfold zjS;rw[ur (by rw[zmJ hx ht28];decide)]];exact zm rfl) (za rfl ((zmJ hx ht28).symm))
  have hbo:zcD x=true:=ua ht28;have hbr:zmy x=ziu x:=by unfold zmy;rw[ut hbo]
  have hbx:=of_decide_eq_true hbo;have hbl:=zm6 x;refine CS ?_;refine qbE ?_;refine qau ?_;refine zo rfl rfl rfl rfl rfl rfl rfl zaE (by rw[hbr];simp;omega) ?_;refine A0 aO ?_;refine qbK ?_;refine qbx ?_;refine zl (n:=0) (y:=zls l (k+1)) rfl (by rw[hbr,zpy hx]) ?_;exact Nx (k+1) (⟨by omega,fun y hy=>by rw[un,hx] at hy;rcases List.mem_append.1 hy with h|h;exact hinv.2 y h;simp at h;rw[h];exact hbo⟩) ya
 refine CE ?_;refine qcb ?_;refine qcl ?_;exact zx rfl rfl (zf rfl rfl (by unfold zjS;rw[zmK ht11 hinv.2 ya,ut rfl];exact zss ya)) (za rfl ((zmK ht11 hinv.2 ya).symm))
theorem zhT {J:Job} {hp:Hp} {X:AV} {e:Nat} {α:Type} {T:GoT α} {l:List α} (h:X = .lit (.slice none 0 0)) (el:l=[]):zfY J hp X (.fresh e T l):=by subst el;exact zm h
theorem zn_rows:za7 P 89 nilT ():=zhf zkf yv
theorem drop_two {b:List UInt8} {p:Nat} (h:p+2≤b.length):∃a c r,b.drop p=a::c::r∧r=b.drop (p+2):=by
  obtain⟨a,ha⟩:∃a,b[p]?=some a:=yq;obtain⟨c,hc⟩:∃c,b[p+1]?=some c:=yq;refine⟨a,c,b.drop (p+2),?_,rfl⟩;have h1:b.drop p=a::b.drop (p+1):=by
    obtain⟨h1,e⟩:=ul.1 ha;rw[List.drop_eq_getElem_cons h1,e]
  have h2:b.drop (p+1)=c::b.drop (p+2):=by
    obtain⟨h1,e⟩:=ul.1 hc;rw[List.drop_eq_getElem_cons h1,e]
  rw[h1,h2]
theorem zws {b:List UInt8} {p:Nat} (hp:p≤b.length):cutN (b.drop p)=if cutE b p=true then some (cutX b p,b.drop (zi2 b p).toNat) else none:=by
  by_cases h2:p+2≤b.length
  · obtain⟨a,c,r,e,er⟩:=drop_two h2
    have hg:zdy b p 2=true:=by unfold zdy;rw[uj];omega
    have hu:(getU b p 2).toNat=256*a.toNat+c.toNat:=by
      rw[zgT hg];have e1:(b.drop (p:Int).toNat).take (2:Int).toNat=[a,c]:=by
        rw[show((p:Int)).toNat=p by omega,show(2:Int).toNat=2 from rfl,e];rfl
      rw[e1,zhg [a,c] yw];show 256*(256*0+a.toNat)+c.toNat=_;omega
    have hrl:r.length=b.length-(p+2):=by rw[er,List.length_drop]
    rw[e,cutN];by_cases h3:256*a.toNat+c.toNat≤r.length
    · have hce : cutE b p = true := by
        unfold cutE;rw[hg,Bool.true_and,uj,hu];omega
      obtain⟨c1,c2⟩:=zi1 hce;rw[ut h3,ut hce,c1,c2,hu,show((p:Int)).toNat=p by omega,←er];congr 2;rw[er,List.drop_drop];congr 1
    have hce : ¬ cutE b p = true := by
      unfold cutE;rw[hg,Bool.true_and,uj,hu];omega
    rw[ur h3,ur hce]
  have hg:zdy b p 2=false:=zbA ya;have hce:¬cutE b p=true:=by unfold cutE;rw[hg];simp
  rw[ur hce]
  match hd:b.drop p with
  | []=>rfl
  | [_]=>rfl
  | _::_::r =>
    have:=congrArg List.length hd
    rw[List.length_drop] at this;simp at this;omega
structure SplitAt (b:List UInt8) (N:Nat) (p:Nat) (out:List (List UInt8)):Prop where
  p1:1≤p
  p2:p≤b.length
  n:out.length≤N
  l:(pieces N (b.drop 1)).1=out++(pieces (N-out.length) (b.drop p)).1
  z:(pieces N (b.drop 1)).2=(pieces (N-out.length) (b.drop p)).2
theorem znr {b:List UInt8} {N:Nat} (h:1≤b.length):SplitAt b N 1 []:=⟨ug _,h,uf _,rfl,rfl⟩
theorem zrx {b:List UInt8} {p:Nat} (hp:p≤b.length) (hc:cutE b p=true):∃q:Nat,zi2 b p=(q:Int)∧p<q∧q≤b.length∧(cutX b p).length≤65535:=by
  have hg:zdy b p 2=true:=by
    unfold cutE at hc;rw[uk] at hc;exact hc.1
  have hu:=zuh hg;have hgs:=hg;unfold zdy at hgs;rw[uj] at hgs;have h2:=hc;unfold cutE at h2;rw[uk,uj] at h2;obtain⟨c1,c2⟩:=zi1 hc;refine⟨p+2+(getU b p 2).toNat,by rw[c2];omega,by omega,by omega,?_⟩;rw[c1,um];omega
theorem zu8 {b:List UInt8} {N p:Nat} {out:List (List UInt8)} (h:SplitAt b N p out) (hc:cutE b p=true) (hn:¬out.length=N):SplitAt b N (zi2 b p).toNat (out++[cutX b p]):=by
  obtain⟨q,hq,h1,h2,_⟩:=zrx h.p2 hc;have hN:N-out.length=(N-(out++[cutX b p]).length)+1:=by
    have:=h.n
    rw[ue,List.length_singleton];omega
  have hp:pieces (N-out.length) (b.drop p)=(cutX b p::(pieces (N-(out++[cutX b p]).length) (b.drop (zi2 b p).toNat)).1,(pieces (N-(out++[cutX b p]).length) (b.drop (zi2 b p).toNat)).2):=by
    rw[hN,pieces,zws h.p2,ut hc]
  have hp1:=h.p1;have hnn:=h.n;refine⟨by rw[hq];omega,by rw[hq];omega,by rw[ue,List.length_singleton];omega,?_,?_⟩
  · rw[h.l,hp,List.append_assoc];rfl
  rw[h.z,hp]
theorem zaZ {b:List UInt8} {N p:Nat} {out:List (List UInt8)} (h:SplitAt b N p out) (hc:cutE b p=false∨out.length=N):pieces N (b.drop 1)=(out,b.drop p):=by
  have hp:pieces (N-out.length) (b.drop p)=([],b.drop p):=by
    by_cases e:out.length=N
    · rw[show N-out.length=0 by omega];rfl
    have hn:=h.n;rw[show N-out.length=(N-out.length-1)+1 by omega,pieces,zws h.p2,ur (by rw[hc.resolve_right e];decide)]
  have h1:=h.l;have h2:=h.z;rw[hp] at h1 h2;rw[List.append_nil] at h1;exact Prod.ext h1 h2
theorem za0 {b:List UInt8} {n0:UInt8} {p:Nat} {out:List (List UInt8)} (h0:b[0]?=some n0) (h:pieces n0.toNat (b.drop 1)=(out,b.drop p)):zw b=if out.length=n0.toNat∧b.drop p=[] then (out,true) else ([],false):=by
  match b,h0 with
  | n::r,h0 =>
    have e:n=n0:=by simpa using h0
    subst e;have h:pieces n.toNat r=(out,(n::r).drop p):=h;unfold zw;simp only[];rw[h]
theorem zuD (b:List UInt8) (hb:b.length≤1000000000):Tells P 147 [.val (bsl u8T) b] (.tup2 (.fresh 26 (sl u8T) (zw b).1) (.val zs (zw b).2)):=by
 refine zc Tryz.func147 rfl rfl rfl (fun ext w hext=>?_);refine ze (d:=0) rfl zi (fun hsl0=>?_);refine qca ?_;refine qc8 ?_;refine xp ?_;refine qcr ?_;refine A0 zbZ ?_;refine CN ?_;refine zq (p:=b.length=0) rfl yN (fun ht10=>?_) (fun ht10=>?_)
 ·
  refine qaT ?_;exact zx rfl rfl (by rw[List.length_eq_zero_iff.1 ht10];exact zm rfl) (za rfl (by rw[List.length_eq_zero_iff.1 ht10];rfl))
 obtain⟨n0,hn0⟩:∃n0,b[0]?=some n0:=yq;have hn8:n0.toNat<256:=n0.toNat_lt;have hti8:IntL.toI u8T n0=(n0.toNat:Int):=rfl;refine CSQR ?_;refine z8 zn_rows rfl rfl rfl rfl ?_;refine CN ?_;refine aw_nilbox 1 26 (sl u8T) rfl ?_;refine CQR ?_;refine z8 ze_3 rfl rfl rfl rfl ?_;refine zg rfl rfl rfl rfl rfl (Lens.self _) ty_3 rfl ?_;refine CNQQR ?_;refine xp ?_;refine zak rfl rfl rfl rfl Tryz.func203 fn_203 rfl rfl (fun ia2 iok2=>?_);refine qca ?_;refine CNQR ?_;refine qdr ?_;refine A0 aC ?_;refine CN ?_;refine zeG rfl ?_;refine CNB ?_;refine zk7 rfl rfl rfl Tryz.func261 fn_261 rfl rfl yaa (fun fid3 ca3 lN3 DN3 cok3 rc3 hrc3=>?_);refine CQR ?_;refine qbQ ?_;refine zbc 2 7 8 rfl rfl rfl rfl rfl rfl ?_;refine Lp (ι:=Nat×List (List UInt8)) 8 (fun(p,out)=>((Fr.none.set 0 (.lit (.func (.yield lN3) #[] #[]))).set 1 (.ptr 4 0)).set 3 (.val i64T (p:Int))) (fun(p,out)=>((((((Hp.none.set 0 (.box 26 (bsl u8T) b)).set 1 (.parts 89 [.own 7])).set 3 (.box 3 i64T (p:Int))).set 4 (.box 26 (bsl u8T) b)).set 7 (.row 26 (sl u8T) out)).set 5 (.objAt DN3 (.deferred (some [])))).set 6 (.objAt lN3 (rc3 .ready none))) (fun(p,out)=>SplitAt b n0.toNat p out) (fun(p,out)=>b.length-p) ((1,[])) (znr ya) ?_;intro⟨p,out⟩ hinv;dsimp only at hinv;refine CB ?_;refine CQR ?_;refine xp ?_;refine qau ?_;refine A0 (oCl (zpl (binCut_ok b p hb)) rfl fn_262 ye) ?_;refine qa6 ?_;refine A0 e32 ?_;refine A0 aV ?_;refine A0 aV ?_;refine qaj ?_;refine A0 oN ?_;refine zX (d:=15) (p:=cutE b p=false) rfl (by cases cutE b p<;>rfl) (fun g15=>?_) (fun g15=>?_)
 ·
  refine qau ?_;refine qab ?_;refine qbB ?_;refine qao ?_;refine Ct ?_;refine zka (nL:=6) rfl hrc3 rfl yn ?_;refine CI ?_;refine qaL ?_;refine G0 zgB ?_;refine zbW (d:=33) (p:=¬out.length=n0.toNat) rfl (by rw[←decide_not,uo,hti8];simp only[IntL.toI,id_eq];omega) (fun g33=>?_) (fun g33=>?_)
  ·
   refine G0 mV ?_;refine qcF ?_;refine G2 ?_;refine qcg ?_;refine Ct ?_;refine qaT ?_;refine zaX (zds (nD:=5) rfl rfl rfl ?_);exact zkc rfl rfl (zhT rfl (by rw[za0 hn0 (zaZ hinv (.inl g15)),ur (fun h=>g33 h.1)])) (za rfl (by rw[za0 hn0 (zaZ hinv (.inl g15)),ur (fun h=>g33 h.1)]))
  refine G0 mV ?_;refine G1 (oLs rfl rfl rfl ty_3) ?_;refine G1 (oLs rfl rfl rfl zhK) ?_;refine G1 (zat rfl rfl zed) ?_;refine G1 zgB ?_;refine qcg ?_;refine zq (p:=¬p=b.length) rfl y9 (fun ht39=>?_) (fun ht39=>?_)
  ·
   refine qaT ?_;refine zaX (zds (nD:=5) rfl rfl rfl ?_);exact zkc rfl rfl (zhT rfl ybl) (za rfl ybl)
  refine CSQR ?_;refine A0 yau ?_;refine qcl ?_;refine zaX (zds (nD:=5) rfl rfl rfl ?_);exact zkc rfl rfl (zf rfl rfl ybv) (za rfl ybv)
 have hce:cutE b p=true:=by simpa using g15
 obtain⟨q,hq,hpq,hqb,hxl⟩:=zrx hinv.p2 hce;have hol:=hinv.n;refine qau ?_;refine A1 mL ?_;refine A1 mV ?_;refine A1 mV ?_;refine aw_unguard rfl rfl rfl rfl rfl rfl ?_;refine zk5 (nL:=6) rfl rfl rfl rfl rfl hrc3 rfl rfl rfl (fun ya4 yok4=>?_);refine CQR ?_;refine qbX ?_;refine qac ?_;refine zk8 (nL:=6) hrc3 rfl ?_;refine CB ?_;refine qaL ?_;refine G0 zbZ ?_;refine GK.nil ?_;refine Cf (p:=out.length=n0.toNat) (fun ht21=>?_) (fun ht21=>?_)
 ·
  refine zrG (nL:=6) rfl hrc3 rfl ?_;refine A1 oN ?_;refine qao ?_;refine Ct ?_;refine zka (nL:=6) rfl hrc3 rfl yn ?_;refine CE ?_;refine qaL ?_;refine G0 zgB ?_;refine zbW (d:=33) (p:=¬out.length=n0.toNat) rfl (by rw[←decide_not,uo,hti8];simp only[IntL.toI,id_eq];omega) (fun g33=>?_) (fun g33=>?_)
  ·
   refine G0 mV ?_;refine qcF ?_;refine G2 ?_;refine qcg ?_;refine Ct ?_;refine qaT ?_;refine zaX (zds (nD:=5) rfl rfl rfl ?_);exact zkc rfl rfl (zhT rfl (by rw[za0 hn0 (zaZ hinv (.inr ht21)),ur (fun h=>g33 h.1)])) (za rfl (by rw[za0 hn0 (zaZ hinv (.inr ht21)),ur (fun h=>g33 h.1)]))
  refine G0 mV ?_;refine G1 (oLs rfl rfl rfl ty_3) ?_;refine G1 (oLs rfl rfl rfl zhK) ?_;refine G1 (zat rfl rfl zed) ?_;refine G1 zgB ?_;refine qcg ?_;refine zq (p:=¬p=b.length) rfl y9 (fun ht39=>?_) (fun ht39=>?_)
  ·
   refine qaT ?_;refine zaX (zds (nD:=5) rfl rfl rfl ?_);exact zkc rfl rfl (zhT rfl ybi) (za rfl ybi)
  refine CSQR ?_;refine A0 yau ?_;refine qcl ?_;refine zaX (zds (nD:=5) rfl rfl rfl ?_);exact zkc rfl rfl (zf rfl rfl ybt) (za rfl ybt)
 refine CSQR ?_;refine A0 yau ?_;refine qau ?_;refine A0 (zag (T:=(sl u8T)) (xs:=[_]) rfl zfJ ze6 yx rfl rfl) ?_;refine zo rfl rfl rfl rfl rfl rfl rfl ze6 yy ?_;refine zaG rfl rfl rfl rfl rfl rfl rfl rfl rfl rfl zqt ?_;refine CNR ?_;refine qau ?_;refine zg rfl rfl rfl rfl rfl (Lens.self _) ty_3 rfl ?_;refine CN ?_;refine CI ?_;refine zfg (nL:=6) hrc3 rfl ?_;refine A1 oN ?_;refine qao ?_;refine Cg ?_;refine CS ?_;refine CR ?_;refine qau ?_;refine qac ?_;refine CI ?_;refine zbc 8 7 9 rfl rfl rfl rfl rfl rfl ?_;refine zJ (n:=3) (y:=(((zi2 b p).toNat:Nat):Int)) rfl (by rw[hq];omega) ?_;refine zj (d:=3) (y:=(((zi2 b p).toNat:Nat):Int)) rfl (by rw[hq];omega) ?_;exact Nx (((zi2 b p).toNat,out++[cutX b p])) (zu8 hinv hce ht21) (by show b.length-(zi2 b p).toNat<b.length-p;omega)
theorem zvU {l:List UInt8} {n:Nat} (h:l.length=n) (hn:n≤8):getU l 0 (n:Int)=valU l:=by
  have hg:zdy l 0 (n:Int)=true:=by unfold zdy;rw[uj];omega
  rw[zgT hg,show(0:Int).toNat=0 from rfl,List.drop_zero,show((n:Int)).toNat=n by omega,uc ya]
theorem u32_of {l:List UInt8} (h:l.length≤4):zd8 (IntL.toI u64T (valU l))=UInt32.ofNat (valU l).toNat:=by
  unfold zd8;have e:IntL.toI u64T (valU l)=((valU l).toNat:Int):=rfl;have h1:=zhg l ya;have h2:=zjL l;have h3:256^l.length≤256^4:=Nat.pow_le_pow_right yn h;have h4:(256:Nat)^4=4294967296:=rfl;rw[e];congr 1;omega
theorem dd (b:List UInt8) (i j k:Nat) (h:i+j=k):(b.drop i).drop j=b.drop k:=by rw[List.drop_drop,h]
theorem num4_at {X:List UInt8} (h:4≤X.length):getU (X.take (Int.toNat 4)) 0 4=valU (X.take 4):=zvU (l:=X.take 4) (n:=4) yb7 yn
theorem num8_at {X:List UInt8} (h:8≤X.length):getU (X.take (Int.toNat 8)) 0 8=valU (X.take 8):=zvU (l:=X.take 8) (n:=8) yb7 yn
theorem zfG {l:List UInt8} (h:l.length≤4):IntKind.i64.wrap (IntL.toI u64T (valU l))=((valU l).toNat:Int):=by
  have e:IntL.toI u64T (valU l)=((valU l).toNat:Int):=rfl;have h1:=zhg l ya;have h2:=zjL l;have h3:256^l.length≤256^4:=Nat.pow_le_pow_right yn h;have h4:(256:Nat)^4=4294967296:=rfl;rw[e];exact zah ya
theorem head_mk {x y:Head} (h1:x.height=y.height) (h2:x.prev=y.prev) (h3:x.links=y.links) (h4:x.txs=y.txs) (h5:x.past=y.past) (h6:x.work=y.work) (h7:x.bits=y.bits) (h8:x.nonce=y.nonce):x=y:=by
  cases x;cases y;simp only at h1 h2 h3 h4 h5 h6 h7 h8;subst h1 h2 h3 h4 h5 h6 h7 h8;rfl
def D1 (b:List UInt8):=b.drop (Int.toNat 4)
def D2 (b:List UInt8):=(D1 b).drop (Int.toNat 32)
def D3 (b:List UInt8):=(D2 b).drop (Int.toNat 32)
def D4 (b:List UInt8):=(D3 b).drop (Int.toNat 32)
def D5 (b:List UInt8):=(D4 b).drop (Int.toNat 32)
def D6 (b:List UInt8):=(D5 b).drop (Int.toNat 32)
def D7 (b:List UInt8):=(D6 b).drop (Int.toNat 4)
theorem d2 (b:List UInt8):D2 b=b.drop 36:=dd b 4 32 36 rfl
theorem d3 (b:List UInt8):D3 b=b.drop 68:=by unfold D3;rw[d2];exact dd b 36 32 68 rfl
theorem d4 (b:List UInt8):D4 b=b.drop 100:=by unfold D4;rw[d3];exact dd b 68 32 100 rfl
theorem d5 (b:List UInt8):D5 b=b.drop 132:=by unfold D5;rw[d4];exact dd b 100 32 132 rfl
theorem d6 (b:List UInt8):D6 b=b.drop 164:=by unfold D6;rw[d5];exact dd b 132 32 164 rfl
theorem d7 (b:List UInt8):D7 b=b.drop 168:=by unfold D7;rw[d6];exact dd b 164 4 168 rfl
theorem rd_is {b:List UInt8} (hl:b.length=176) {x:Head} (h1:x.height=IntKind.i64.wrap (IntL.toI u64T (getU (b.take (Int.toNat 4)) 0 4))) (h2:x.prev=(D1 b).take (Int.toNat 32)) (h3:x.links=(D2 b).take (Int.toNat 32)) (h4:x.txs=(D3 b).take (Int.toNat 32)) (h5:x.past=(D4 b).take (Int.toNat 32))
    (h6:x.work=ze8 ((D5 b).take (Int.toNat 32))) (h7:x.bits=zd8 (IntL.toI u64T (getU ((D6 b).take (Int.toNat 4)) 0 4))) (h8:x.nonce=getU ((D7 b).take (Int.toNat 8)) 0 8):x=zaI b:=by
  rw[num4_at ya,zfG yb7] at h1;rw[d2] at h3;rw[d3] at h4;rw[d4] at h5;rw[d5] at h6;rw[d6,num4_at yaF,u32_of yb7] at h7;rw[d7,num8_at yaF] at h8;exact head_mk (h1.trans yaG) (h2.trans ybV) (h3.trans ybV) (h4.trans ybV) (h5.trans ybV) (h6.trans ybV) (h7.trans yaG) (h8.trans yaG)
theorem zmL {b:List UInt8} (h:¬zbi b=true):zg3 b=zmp:=by unfold zg3;rw[ur h]
theorem zkC {b:List UInt8} (h:zbi b=true):zg3 b=zaI b:=by unfold zg3;rw[ut h]
theorem zt4 (b:List UInt8):Tells P 95 [.val (bsl u8T) b] (.tup2 (.val zbx (zg3 b)) (.val zs (zbi b))):=by
 refine zc Tryz.func95 rfl rfl rfl (fun ext w hext=>?_);refine ze (d:=0) rfl zi (fun hsl0=>?_);refine CQR ?_;refine qcm ?_;refine qaj ?_;refine qcr ?_;refine qaO ?_;refine zq (p:=¬b.length=176) rfl y9 (fun ht8=>?_) (fun ht8=>?_)
 ·
  have hno:¬zbi b=true:=by unfold zbi;rw[uk,uj];exact fun h=>ht8 h.1
  refine CQR ?_;refine A0 (zB rfl znd zpc .nil rfl) ?_;refine qaH ?_;refine qac ?_;exact zn rfl rfl (zt rfl rfl zaM ((zmL hno).symm)) (zS (za rfl ((Bool.eq_false_iff.2 hno).symm)))
 have hl:b.length=176:=ua ht8;refine qbw ?_;refine A0 (zB rfl ze_195 bd_195 (.cons zmZ zjy zhK rfl .nil) rfl) ?_;refine xb ?_;refine A0 aP ?_;refine CNQR ?_;refine qcm ?_;refine CNQR ?_;refine A0 mP ?_;refine zak rfl rfl rfl rfl Tryz.func148 fn_148 rfl rfl (fun ia1 iok1=>?_);refine CQR ?_;refine qah ?_;refine A0 mP ?_;refine qau ?_;refine zak rfl rfl rfl rfl Tryz.func205 zmh rfl rfl (fun ia2 iok2=>?_);refine qaZ ?_;refine A0 (zhy rfl (ui_3) (zqs) rfl yaI) ?_;refine A0 (oFp zc9) ?_;refine zg rfl rfl rfl rfl rfl zap ty_3 rfl ?_;refine CNQR ?_;refine A0 mP ?_;refine zak rfl rfl rfl rfl Tryz.func149 ztb rfl rfl (fun ia3 iok3=>?_);refine qbD ?_;refine A0 mP ?_;refine zak rfl rfl rfl rfl Tryz.func205 zmh rfl rfl (fun ia4 iok4=>?_);refine qax ?_;refine xV ?_;refine qc3 ?_;refine A0 mP ?_;refine zak rfl rfl rfl rfl Tryz.func149 ztb rfl rfl (fun ia5 iok5=>?_);refine qbD ?_;refine A0 mP ?_;refine zak rfl rfl rfl rfl Tryz.func205 zmh rfl rfl (fun ia6 iok6=>?_);refine qax ?_;refine xV ?_;refine qc3 ?_;refine A0 mP ?_;refine zak rfl rfl rfl rfl Tryz.func149 ztb rfl rfl (fun ia7 iok7=>?_);refine qbD ?_;refine A0 mP ?_;refine zak rfl rfl rfl rfl Tryz.func205 zmh rfl rfl (fun ia8 iok8=>?_);refine qax ?_;refine xV ?_;refine qc3 ?_;refine A0 mP ?_;refine zak rfl rfl rfl rfl Tryz.func149 ztb rfl rfl (fun ia9 iok9=>?_);refine qbD ?_;refine A0 mP ?_;refine zak rfl rfl rfl rfl Tryz.func205 zmh rfl rfl (fun ia10 iok10=>?_);refine qax ?_;refine xV ?_;refine qc3 ?_;refine A0 (oFp zfv) ?_;refine zg rfl rfl rfl rfl rfl zb8 zab rfl ?_;refine A0 (oFp zex) ?_;refine zg rfl rfl rfl rfl rfl zbg zab rfl ?_;refine A0 (oFp zfu) ?_;refine zg rfl rfl rfl rfl rfl zcF zab rfl ?_;refine A0 (oFp zft) ?_;refine zg rfl rfl rfl rfl rfl zb9 zab rfl ?_;refine CNQR ?_;refine A0 mP ?_;refine zak rfl rfl rfl rfl Tryz.func149 ztb rfl rfl (fun ia11 iok11=>?_);refine qbD ?_;refine A0 mP ?_;refine zak rfl rfl rfl rfl Tryz.func205 zmh rfl rfl (fun ia12 iok12=>?_);refine qax ?_;refine xV ?_;refine qc3 ?_;refine A0 (oCl (zvD _) rfl fn_150 yc) ?_;refine A0 (oFp zg7) ?_;refine zg rfl rfl rfl rfl rfl zcT zal rfl ?_;refine CNQR ?_;refine A0 mP ?_;refine zak rfl rfl rfl rfl Tryz.func148 fn_148 rfl rfl (fun ia13 iok13=>?_);refine CQR ?_;refine qah ?_;refine A0 mP ?_;refine qau ?_;refine zak rfl rfl rfl rfl Tryz.func205 zmh rfl rfl (fun ia14 iok14=>?_);refine qaZ ?_;refine A0 (g_cv32 rfl (ui_50) (zqs) rfl) ?_;refine A0 (oFp zce) ?_;refine zg rfl rfl rfl rfl rfl zaq zbp rfl ?_;refine CNQR ?_;refine A0 mP ?_;refine zak rfl rfl rfl rfl Tryz.func148 fn_148 rfl rfl (fun ia15 iok15=>?_);refine CQR ?_;refine qah ?_;refine A0 mP ?_;refine qau ?_;refine zak rfl rfl rfl rfl Tryz.func205 zmh rfl rfl (fun ia16 iok16=>?_);refine qaZ ?_;refine A0 (oFp zfs) ?_;refine zg rfl rfl rfl rfl rfl zbK za9 rfl ?_;refine CNQ ?_;refine CQ ?_;refine zJ (n:=2) (y:=zaI b) rfl (rd_is hl yam yam yam yam yam yam yam yam) ?_;refine CR ?_;refine qbL ?_;refine qbT ?_;refine Cf (p:=1048576<(zaI b).height) (fun ht42=>?_) (fun ht42=>?_)
 ·
  have hno:¬zbi b=true:=fun h=>by have:=(rd_ok (b:=b) (by unfold zbi at h;rw[uk,uj,uj] at h;exact h.2)).2;omega
  refine CQR ?_;refine A0 (zB rfl znd zpc .nil rfl) ?_;refine qaH ?_;refine qac ?_;exact zn rfl rfl (zt rfl rfl zaM ((zmL hno).symm)) (zS (za rfl ((Bool.eq_false_iff.2 hno).symm)))
 have hrh:(zaI b).height=((valU (b.take 4)).toNat:Int):=yaG;have hyes:zbi b=true:=by unfold zbi;rw[uk,uj,uj];exact⟨hl,by omega⟩
 refine CSQR ?_;refine qcq ?_;refine qaH ?_;refine qac ?_;exact zn rfl rfl (zt rfl rfl zaM ((zkC hyes).symm)) (zS (za rfl (hyes.symm)))
abbrev noV:Value:=.iface 145 (.agg #[])
theorem fine_idle (b:Nat) (w:World):CallsDIn Fence.wide 0 P 86 #[.pointer (some ⟨b,0,none⟩)] .returning w fun e u w'=>e = .returned (.tuple #[])∧u = .returning∧w'=w:=by
  have hn:Tryz.f86.ntmps=7:=rfl;refine callsDIn_of_wpSIn Tryz.func86 rfl trivial fun c₀ cs hu=>?_
  rw[hn];apply wpSIn_seq;apply wpSIn_region;simp[wpOpsSIn,go_sem,recoverD,hu,Exit.thenS];apply wpSIn_seq;apply wpSIn_region;simp[wpOpsSIn,go_sem,recoverD,hu,Exit.thenS];refine wpSIn_cond (t:=false) (by simp[Act.eval,Array.replicate]) ?_;simp only[Bool.false_eq_true,if_false];refine wpSIn_of_wpIn rfl (wpIn_skip ?_);cases c₀
  simp_all [bodyPostS,results]
theorem zuk (b : Nat) (w : World) (x : Bool) (hw : w.heap[b]? = some (.cells #[.bool x] 4 (0, 0))) : CallsDIn Fence.wide 0 P 86 #[.pointer (some ⟨b, 0, none⟩)] (.panicking [{ v := noV, recovered := false }]) w
    fun e u w'=>e = .returned (.tuple #[])∧u = .panicking [{ v:=noV,recovered:=true }]∧w'=w.putObj b (.cells #[.bool false] 4 (0,0)):=by
  have hn:Tryz.f86.ntmps=7:=rfl;refine callsDIn_of_wpSIn Tryz.func86 rfl trivial fun c₀ cs hu=>?_
  rw[hn];apply wpSIn_seq;apply wpSIn_region;simp[wpOpsSIn,go_sem,recoverD,hu,Exit.thenS];apply wpSIn_seq;apply wpSIn_region;simp[wpOpsSIn,go_sem,recoverD,hu,Exit.thenS];refine wpSIn_cond (t:=true) (by simp[Act.eval,Array.replicate]) ?_;simp only[if_true];apply wpSIn_seq;apply wpSIn_region;simp[wpOpsSIn,go_sem,recoverD,hu,Exit.thenS];have hta:∀w,(Instr.typeAssert noV 20 145 false).run P w = .ok (.agg #[]) w:=fun w=>by kernel_rfl
  have hc:w.cell? { block:=b,off:=0 }=some (.bool x):=by simp[World.cell?,hw]
  have hz:w.frozen? { block:=b,off:=0 }=false:=by simp[World.frozen?,hw]
  have hs:w.setCell { block:=b,off:=0 } (.bool false)=w.putObj b (.cells #[.bool false] 4 (0,0)):=by
    unfold World.setCell World.putObj;congr 1;apply Array.ext_getElem?;intro i;rw[Array.getElem?_modify,Array.getElem?_setIfInBounds];by_cases e:b=i
    · subst e
      have hlt:b<w.heap.size:=(Array.getElem?_eq_some_iff.1 hw).1;rw[ut rfl,ut rfl,ut hlt,hw];rfl
    rw[ur e,ur e]
  rw[hta];simp only[Result.andThen_ok];apply wpSIn_region;simp[wpOpsSIn,go_sem,hc,hz,hs,bodyPostS,results]
theorem zgU:Catches P 86 4 noV:=⟨fn_86,fine_idle,zuk⟩
theorem zcd (b:Bool):zoX P 89 [.val zs b] (b=true) noV (.lit (.tuple #[])):=by
 refine ziW Tryz.func89 rfl rfl rfl (fun ext w hext=>?_);refine qa7 ?_;refine qaJ ?_;refine zq (p:=¬b=true) rfl (by cases b<;>rfl) (fun ht3=>?_) (fun ht3=>?_)
 ·
  refine CR ?_;refine A0 (zv0 rfl zu_145 su_145) ?_;refine A0 (g_mkif rfl rfl yv) ?_;refine aw_panic rfl rfl rfl ?_;exact zoW (ht3)
 refine CS ?_;exact aw_fall (zwG rfl rfl rfl (ua ht3))
theorem zqD (l:List (List UInt8)):zoX P 90 [.val (bsl (bsl u8T)) l] (zdL l=true) noV (.fresh 5 u8T (ziE l)):=by
 refine ziW Tryz.func90 rfl rfl rfl (fun ext w hext=>?_);refine ze (d:=0) rfl zi (fun hsl0=>?_);refine qb0 ?_;refine qau ?_;refine zgu (binRows_ok l) rfl fn_145 yc zgm rfl rfl rfl ?_;refine A0 yr ?_;refine qaa ?_;refine A0 aO ?_;refine qcf ?_;refine zbu (zcd (zdL l)) rfl zgC rfl ycg (fun hm=>?_) (fun hm=>?_)
 ·
  exact zoW (hm)
 refine A0 (oCl ((zcd (zdL l)).1 hm) rfl zgC ycg) ?_;refine CNQR ?_;refine A0 mO ?_;refine qbJ ?_;exact zrH rfl rfl hm (zf rfl rfl (by unfold zjS;rw[ut hm]))
theorem zkm (b:List UInt8) (hb:b.length≤1000000000):zoX P 94 [.val (bsl u8T) b] ((zw b).2=true) noV (.fresh 26 (sl u8T) (zw b).1):=by
 refine ziW Tryz.func94 rfl rfl rfl (fun ext w hext=>?_);refine ze (d:=0) rfl zi (fun hsl0=>?_);refine qb0 ?_;refine qau ?_;refine zgu (zuD b hb) rfl fn_147 yc zgm rfl rfl rfl ?_;refine A0 yr ?_;refine qaa ?_;refine A0 aO ?_;refine qcf ?_;refine zbu (zcd (zw b).2) rfl zgC rfl ycg (fun hm=>?_) (fun hm=>?_)
 ·
  exact zoW (hm)
 refine A0 (oCl ((zcd (zw b).2).1 hm) rfl zgC ycg) ?_;refine CNQR ?_;refine A0 mO ?_;refine qbJ ?_;exact zrH rfl rfl hm (zf rfl rfl rfl)
theorem zkD (p:Proof):zoX P 87 [.rptr paperT p] (ziD p=true) noV (.lit (.tuple #[])):=by
 refine ziW Tryz.func87 rfl rfl rfl (fun ext w hext=>?_);refine CQR ?_;refine A0 mR ?_;refine A0 (zfb rfl rfl) ?_;refine A0 (oFr zd5 zdT) ?_;refine A0 (oFr zcQ zc2) ?_;refine qaR ?_;refine A0 zer ?_;refine Sp (d:=9) (p:=1≤p.m) (fun g9=>?_) (fun g9=>?_)
 ·
  refine qau ?_;refine A1 mR ?_;refine A1 (zfb rfl rfl) ?_;refine A1 (oFr zd5 zdT) ?_;refine A1 (oFr zcQ zc2) ?_;refine qcQ ?_;refine A1 zfp ?_;refine Sp (d:=16) (p:=p.m≤20) (fun g16=>?_) (fun g16=>?_)
  ·
   refine qaf ?_;refine A1 mR ?_;refine A1 (zfb rfl rfl) ?_;refine A1 (oFr zd5 zdT) ?_;refine A1 (oFr zey zgy) ?_;refine qcQ ?_;refine A1 zer ?_;refine Sp (d:=24) (p:=1≤p.k) (fun g24=>?_) (fun g24=>?_)
   ·
    refine qaf ?_;refine A1 mR ?_;refine A1 (zfb rfl rfl) ?_;refine A1 (oFr zd5 zdT) ?_;refine A1 (oFr zey zgy) ?_;refine qcQ ?_;refine A1 zfp ?_;refine Sp (d:=32) (p:=p.k≤20) (fun g32=>?_) (fun g32=>?_)
    ·
     refine qaf ?_;refine A1 mR ?_;refine A1 (zfb rfl rfl) ?_;refine A1 (oFr zd5 zdT) ?_;refine A1 (oFr zcC zgx) ?_;refine A1 (zh rfl rfl zhi) ?_;refine A1 yaM ?_;refine A1 zfp ?_;refine A0 oK ?_;refine zbu (zcd (decide ((p.p.length:Int)≤100))) rfl zgC rfl yc (fun hm=>?_) (fun hm=>?_)
     ·
      exact zoW (fun h=>hm (ui (by have:=(zbU h).1;omega)))
     refine A0 (oCl ((zcd (decide ((p.p.length:Int)≤100))).1 hm) rfl zgC yc) ?_;refine CNQR ?_;refine A0 mR ?_;refine A0 (zfb rfl rfl) ?_;refine A0 (oFr zd5 zdT) ?_;refine A0 (oFr zcC zgx) ?_;refine A0 (zh rfl rfl zhi) ?_;refine A0 yaM ?_;refine qaP ?_;refine Lp (ι:=Nat) 0 (fun i=>((Fr.none.set 48 (.val (sl zbL) p.p)).set 49 (.val i64T (p.p.length:Int))).set 50 (.val i64T (i:Int))) (fun i=>Hp.none) (fun i=>i≤p.p.length∧∀x∈p.p.take i,x.l.length≤32) (fun i=>p.p.length-i) (0) (⟨uf _,fun x hx=>by simp at hx⟩) ?_;intro i hinv;refine qar ?_;refine Cf (p:=i<p.p.length) (fun ht51=>?_) (fun ht51=>?_)
     ·
      have hlb:(p.p.length:Int)≤100:=of_decide_eq_true hm;obtain⟨x,hx⟩:∃x,p.p[i]?=some x:=⟨_,ub ht51⟩;refine CSQBQR ?_;refine A0 (zr (i:=i) rfl rfl rfl ya zkr yh) ?_;refine A0 (zh rfl rfl ziA) ?_;refine z8 zlf rfl rfl rfl rfl ?_;refine qbs ?_;refine CNR ?_;refine A0 (oFp zcP) ?_;refine A0 (oLb zdg zcG) ?_;refine qb3 ?_;refine A0 zfp ?_;refine zbu (zcd (decide ((x.l.length:Int)≤32))) rfl zgC rfl yc (fun hm2=>?_) (fun hm2=>?_)
      ·
       exact zoW (fun h=>hm2 (ui (by have:=(zbU h).2 x (ud hx);omega)))
      refine A0 (oCl ((zcd (decide ((x.l.length:Int)≤32))).1 hm2) rfl zgC yc) ?_;refine qbK ?_;exact Nx (i+1) (⟨by omega,fun y hy=>by rw[un,hx] at hy;rcases List.mem_append.1 hy with h|h;exact hinv.2 y h;simp at h;rw[h];have:=of_decide_eq_true hm2;omega⟩) ya
     refine CE ?_;exact aw_fall (zwG rfl rfl rfl (by unfold ziD;rw[uk,uj,List.all_eq_true];exact⟨⟨g9,g16,g24,g32,by have:=of_decide_eq_true hm;omega⟩,fun y hy=>ui (hinv.2 y (by rw[uc ya];exact hy))⟩))
    refine qaf ?_;refine qbc ?_;refine A2 ?_;refine A0 oK ?_;refine zbu (zcd false) rfl zgC rfl yc (fun hm=>?_) (fun h=>absurd h yn);exact zoW (fun h=>by have:=(zbU h).1;omega)
   refine qaf ?_;refine qbc ?_;refine qaf ?_;refine qbc ?_;refine A2 ?_;refine A0 oK ?_;refine zbu (zcd false) rfl zgC rfl yc (fun hm=>?_) (fun h=>absurd h yn);exact zoW (fun h=>by have:=(zbU h).1;omega)
  refine qaf ?_;refine qbc ?_;refine qaf ?_;refine qbc ?_;refine qaf ?_;refine qbc ?_;refine A2 ?_;refine A0 oK ?_;refine zbu (zcd false) rfl zgC rfl yc (fun hm=>?_) (fun h=>absurd h yn);exact zoW (fun h=>by have:=(zbU h).1;omega)
 refine qau ?_;refine qbc ?_;refine qaf ?_;refine qbc ?_;refine qaf ?_;refine qbc ?_;refine qaf ?_;refine qbc ?_;refine A2 ?_;refine A0 oK ?_;refine zbu (zcd false) rfl zgC rfl yc (fun hm=>?_) (fun h=>absurd h yn);exact zoW (fun h=>by have:=(zbU h).1;omega)
theorem hd_rel {U N:Nat→Prop} {w:World} {h:Head} {cs:List Value} (hr:zbx.rel U N w h cs):HW h:=by
  obtain⟨_,_,_,_,_,_,_,h1,_,_,_,h2,_,_,_,h3,_,_,_,h4,_,_,_,h5,_⟩:=hr;exact⟨h1.1,h2.1,h3.1,h4.1,h5.1⟩
theorem is_rel {U N:Nat→Prop} {w:World} {b:Bool} {l:List Ab.Id} {cs:List Value} (hr:(slT b idT).rel U N w l cs):∀y∈l,y.length=32:=fun x hx=>by
  obtain⟨ad,cap,_,_,_,h3⟩:=hr;obtain⟨_,ds,_,_,hr,_⟩:=h3 (List.ne_nil_of_mem hx);obtain⟨c,hc⟩:=zjm hr x hx;exact hc.1
theorem fact_pw {p:Proof} {ρ:Nat→Value} {B:Nat→Prop} {U N:Nat→Prop} {w:World} {v:Value} (h:(AV.val zax p).rel ρ B U N w v):PW p:=by
  obtain⟨cs,⟨c1,c2,_,_,c3,c4,_,_,a,cap,_,_,_,h3⟩,_⟩:=h;intro x hx;obtain⟨i,hi⟩:=List.getElem?_of_mem hx;obtain⟨ad,ds,_,_,hr,_⟩:=h3 (List.ne_nil_of_mem hx);obtain⟨d1,d2,_,hh,hl⟩:=hr.get hi;exact⟨hd_rel hh,is_rel hl⟩
theorem putL_is (p:Proof):putL p=zaL (IntL.toI i64T p.m)::zaL (IntL.toI i64T p.k)::ziE (p.p.map zaU):=rfl
theorem wok_of {p:Proof} (hs:ziD p=true) (h:∀x∈p.p,hOk x.h=true):wOk p=true:=by unfold wOk;rw[hs,Bool.true_and,List.all_eq_true];exact h
theorem sum_le {α:Type} (f:α→Nat) (c:Nat):∀l:List α,(∀x∈l,f x≤c)→(l.map f).sum≤l.length*c
  | [],_=>by simp
  | x::l,h=>by
    rw[List.map_cons,List.sum_cons,List.length_cons,Nat.add_mul,Nat.one_mul];have h1:=sum_le f c l (fun y hy=>h y (List.mem_cons_of_mem _ hy));have h2:=h x (List.mem_cons_self ..);omega
theorem put_bd {p:Proof} (hw:PW p) (h:wOk p=true):(putL p).length≤126903:=by
  obtain⟨h1,h2⟩:=zbU (zhJ h).1;rw[put_len hw h];have h3:=sum_le (fun x:Part=>181+34*x.l.length) 1269 p.p (fun x hx=>by have:=h2 x hx;omega);have h4:p.p.length*1269≤100*1269:=Nat.mul_le_mul_right _ h1.2.2.2.2;omega
theorem rows_bd {p:Proof} (hw:PW p) (h:wOk p=true):(ziE (p.p.map zaU)).length≤126901:=by
  have:=put_bd hw h
  rw[putL_is,List.length_cons,List.length_cons] at this;omega
def zjB (p:Proof):List UInt8:=if wOk p=true then putL p else []
theorem zsE (p:Proof) (hw:PW p):zoX P 44 [.rptr paperT p] (wOk p=true) noV (.fresh 5 u8T (putL p)):=by
 refine ziW Tryz.func44 rfl rfl rfl (fun ext w hext=>?_);refine qb0 ?_;refine A0 mR ?_;refine zbu (zkD p) rfl fn_87 rfl ⟨(zz rfl),trivial⟩ (fun hs=>?_) (fun hs=>?_)
 ·
  exact zoW (fun h=>hs (zhJ h).1)
 refine A0 (oCl ((zkD p).1 hs) rfl fn_87 ⟨(zz rfl),trivial⟩) ?_;refine CNQR ?_;refine A0 aL ?_;refine CNQQR ?_;refine A0 mR ?_;refine A0 (zfb rfl rfl) ?_;refine A0 (oFr zd5 zdT) ?_;refine A0 (oFr zcC zgx) ?_;refine A0 (zh rfl rfl zhi) ?_;refine A0 yaM ?_;refine qaP ?_;have hlb:=(zbU hs).1;refine zbd (T:=bsl u8T) (d:=3) 26 rfl ?_;refine Lp (ι:=Nat) 1 (fun i=>((((Fr.none.set 0 (.rptr paperT p)).set 3 (.own 0)).set 17 (.val (sl zbL) p.p)).set 18 (.val i64T (p.p.length:Int))).set 19 (.val i64T (i:Int))) (fun i=>Hp.none.set 0 (.row 26 (bsl u8T) ((p.p.take i).map zaU))) (fun i=>i≤p.p.length∧∀x∈p.p.take i,hOk x.h=true) (fun i=>p.p.length-i) (0) (⟨uf _,fun x hx=>by simp at hx⟩) ?_;intro i hinv;refine qar ?_;refine Cf (p:=i<p.p.length) (fun ht20=>?_) (fun ht20=>?_)
 ·
  obtain⟨x,hx⟩:∃x,p.p[i]?=some x:=⟨_,ub ht20⟩;refine CSQBQR ?_;refine A0 (zr (i:=i) rfl rfl rfl ya zkr yh) ?_;refine A0 (zh rfl rfl ziA) ?_;refine z8 zlf rfl rfl rfl rfl ?_;refine qbs ?_;refine CNQR ?_;refine A0 (oFp zew) ?_;refine A0 (oLb zeK zaM) ?_;refine A0 (oCl (zbo (hput_ok x.h)) rfl fn_88 yc) ?_;refine qa6 ?_;refine A0 aV ?_;refine qaA ?_;refine zbu (zcd (hOk x.h)) rfl zgC rfl yc (fun hm=>?_) (fun hm=>?_)
  ·
   exact zoW (fun h=>hm ((zhJ h).2 x (ud hx)))
  refine A0 (oCl ((zcd (hOk x.h)).1 hm) rfl zgC yc) ?_;refine qcZ ?_;refine zfx (S:=bsl u8T) (d:=31) rfl ?_;refine zbm (T:=(bsl u8T)) (xs:=[_]) rfl rfl rfl rfl zfJ ze6 yx rfl rfl ?_;refine A0 aO ?_;refine CNQQR ?_;refine A0 (oFp zcP) ?_;refine A0 (oLb zdg zcG) ?_;refine qb3 ?_;refine qaP ?_;have hxl:=(zbU hs).2 x (ud hx);refine Lp (ι:=Nat) 3 (fun j=>((((((((Fr.none.set 0 (.rptr paperT p)).set 3 (.own 0)).set 8 (.own 2)).set 17 (.val (sl zbL) p.p)).set 18 (.val i64T (p.p.length:Int))).set 19 (.val i64T (i:Int))).set 34 (.val (sl idT) x.l)).set 35 (.val i64T (x.l.length:Int))).set 36 (.val i64T (j:Int))) (fun j=>(Hp.none.set 0 (.row 26 (bsl u8T) ((p.p.take i).map zaU))).set 2 (.row 26 (bsl u8T) (zaj x.h::x.l.take j))) (fun j=>j≤x.l.length) (fun j=>x.l.length-j) (0) (uf _) ?_;intro j hj;refine qar ?_;refine Cf (p:=j<x.l.length) (fun ht37=>?_) (fun ht37=>?_)
  ·
   obtain⟨y,hy⟩:∃y,x.l[j]?=some y:=⟨_,ub ht37⟩;refine CSQBQR ?_;refine A0 (zr (i:=j) rfl rfl rfl ya zek yh) ?_;refine A0 (zh rfl rfl zab) ?_;refine qaB ?_;refine qaq ?_;refine zeF (d:=10) rfl rfl (Lens.self _) ?_;refine qbE ?_;refine qbH ?_;refine qcV ?_;refine zo rfl rfl rfl rfl rfl rfl rfl ze6 (by simp[um];omega) ?_;refine A0 aO ?_;refine qbK ?_;refine zbc 4 2 5 rfl rfl rfl rfl rfl rfl ?_;refine zl (n:=2) (y:=zaj x.h::x.l.take (j+1)) rfl (by rw[un,hy];rfl) ?_;exact Nx (j+1) ya ya
  refine CE ?_;have hr1:=row_ok (hw x (ud hx)).1 hm (hw x (ud hx)).2 ((zbU hs).2 x (ud hx));refine zl (n:=2) (y:=zaj x.h::x.l) rfl yO ?_;refine qbE ?_;refine A0 mO ?_;refine A0 (oCl (zC ((zqD (zaj x.h::x.l)).1 hr1)) rfl fn_90 ⟨(zI rfl rfl),trivial⟩) ?_;refine zfx (S:=bsl u8T) (d:=47) rfl ?_;refine qcV ?_;refine zo rfl rfl rfl rfl rfl rfl rfl ze6 (by simp[um];omega) ?_;refine A0 aO ?_;refine qbK ?_;refine zbc 3 0 4 rfl rfl rfl rfl rfl rfl ?_;refine zl (n:=0) (y:=(p.p.take (i+1)).map zaU) rfl ybC ?_;exact Nx (i+1) (⟨by omega,fun y hy=>by rw[un,hx] at hy;rcases List.mem_append.1 hy with h|h;exact hinv.2 y h;simp at h;rw[h];exact hm⟩) ya
 refine CE ?_;refine CQ ?_;have hwk:=wok_of hs (fun y hy=>hinv.2 y (by rw[uc ya];exact hy));have hbd:=rows_bd hw hwk;refine zl (n:=0) (y:=p.p.map zaU) rfl yO ?_;refine zH [some 1,some 1,some 1,some 1,some 1,some 1,some 1,some 1,some 1,some 1,some 1,some 1,none,some 2,some 2,none,some 1] mixed yd ?_;refine X0 mR ?_;refine X0 (zfb rfl rfl) ?_;refine X0 (oFr zd5 zdT) ?_;refine X0 (oFr zcQ zc2) ?_;refine X0 (zh rfl rfl ty_3) ?_;refine X0 (zh6 rfl (ui_5) (us_3) rfl) ?_;refine X0 mR ?_;refine X0 (zfb rfl rfl) ?_;refine X0 (oFr zd5 zdT) ?_;refine X0 (oFr zey zgy) ?_;refine X0 (zh rfl rfl ty_3) ?_;refine X0 (zh6 rfl (ui_5) (us_3) rfl) ?_;refine XK.e (fun fr' hfr kk H=>by exact zbm (T:=u8T) (xs:=[_,_]) rfl rfl rfl rfl zb4 zaE ⟨rfl,((hfr 56 yd).trans rfl),rfl,((hfr 62 yd).trans rfl),trivial⟩ rfl rfl (zM H)) ?_;refine XK.g2 (g_mo (.inl rfl) rfl) (g_mo (.inl rfl) rfl) rfl rfl rfl ?_;refine XK.g2 (zdC (zC ((zqD (p.p.map zaU)).1 (zmO hw hwk))) rfl fn_90 ⟨(zI rfl rfl),trivial⟩ rfl) (zdC (zC ((zqD (p.p.map zaU)).1 (zmO hw hwk))) rfl fn_90 ⟨(zI rfl rfl),trivial⟩ rfl) rfl rfl rfl ?_;refine XK.e (fun fr' hfr kk H=>by exact zo rfl rfl rfl rfl ((hfr 63 yd).trans rfl) rfl ((hfr 65 yd).trans rfl) zaE (by simp[um];omega) (zM H)) ?_;refine X0 aO ?_;refine XK.nil' ?_;exact zrH rfl rfl hwk (zf rfl rfl rfl)
theorem pput_ok (p:Proof):Tells P 18 [.val zax p] (.tup2 (.val (sl u8T) (zjB p)) (.val zs (wOk p))):=by
 refine zc Tryz.func18 rfl rfl rfl (fun ext w hext=>?_);refine ze (d:=0) rfl fact_pw (fun hw=>?_);refine qca ?_;refine qah ?_;refine qbC ?_;refine A0 (zB rfl ze_86 bd_86 (.cons zd5 zdT zbD rfl .nil) rfl) ?_;refine xb ?_;refine zjx zp_84 rfl rfl rfl rfl rfl rfl ?_;refine zaG rfl rfl rfl rfl rfl rfl rfl rfl rfl rfl zr3 ?_;refine CNQR ?_;refine z8 ze_26 rfl rfl rfl rfl ?_;refine CNQR ?_;refine A0 (g_mkf (caps:=[_,_]) rfl rfl) ?_;refine zak rfl rfl rfl rfl Tryz.func42 fn_42 rfl rfl (fun ia2 iok2=>?_);refine CQR ?_;refine z8 ze_4 rfl rfl rfl rfl ?_;refine CNQR ?_;refine qdr ?_;refine zwA rfl rfl rfl rfl rfl rfl rfl (fun bD=>?_);refine CNQR ?_;refine A0 mC ?_;refine zlT rfl rfl rfl rfl rfl Tryz.func43 fn_43 rfl rfl y8 (fun ia3 iok3=>?_);refine CR ?_;refine A0 yaR ?_;refine zbu (zsE p hw) rfl fn_44 rfl yck (fun hm=>?_) (fun hm=>?_)
 ·
  refine ap_inl ?_;refine ap_fine (n:=4) zgU rfl rfl rfl ty_4 ?_;refine qah ?_;refine xp ?_;refine qau ?_;refine qaI ?_;exact zx rfl rfl (za rfl (by unfold zjB;rw[ur hm])) (za rfl (Bool.eq_false_iff.2 hm).symm)
 refine A0 (oCl (zC ((zsE p hw).1 hm)) rfl fn_44 yck) ?_;refine zg rfl rfl rfl rfl rfl (Lens.self _) zhK rfl ?_;refine CN ?_;refine zi9 rfl ?_;refine CNQR ?_;refine zqh rfl rfl rfl rfl rfl ty_4 rfl ?_;refine CN ?_;refine zqi zgU rfl rfl rfl ty_4 ?_;refine qah ?_;refine xp ?_;refine qau ?_;refine qaI ?_;exact zx rfl rfl (za rfl (by unfold zjB;rw[ut hm])) (za rfl hm.symm)
def zsD (b:List UInt8):Proof:=if zcH b=true then ze7 b else zdI
theorem zeq {b:List UInt8} (h:zcH b=false):zsD b=zdI:=by unfold zsD;rw[h];rfl
theorem znP {b:List UInt8} (h:zcH b=true):zsD b=ze7 b:=by unfold zsD;rw[ut h]
theorem no_len {b:List UInt8} (h:¬decide ((2:Int)<(b.length:Int))=true):zcH b=false:=by
  unfold zcH;rw[uj] at h;rw[uh ya];rfl
theorem no_split {b:List UInt8} (h:¬(zw (b.drop 2)).2=true):zcH b=false:=by
  unfold zcH;rw[Bool.eq_false_iff.2 h,Bool.and_false];rfl
theorem zqZ {b r:List UInt8} (hr:r∈(zw (b.drop 2)).1) (h:¬za2 r=true):zcH b=false:=by
  unfold zcH
  have:(zw (b.drop 2)).1.all za2=false:=List.all_eq_false.2 ⟨r,hr,h⟩
  rw[this,Bool.and_false];rfl
theorem no_size {b:List UInt8} (h:¬ziD (ze7 b)=true):zcH b=false:=by
  unfold zcH;rw[Bool.eq_false_iff.2 h,Bool.and_false]
theorem pno_split {r:List UInt8} (h:¬(zw r).2=true):¬za2 r=true:=fun hp=>by
  unfold za2 at hp;rw[uk] at hp;exact h hp.1
theorem pno_nil {r:List UInt8} (h:¬decide ((0:Int)<((zw r).1.length:Int))=true):¬za2 r=true:=fun hp=>by
  unfold za2 at hp;rw[uj] at h
  have:(zw r).1=[]:=List.length_eq_zero_iff.1 ya
  rw[this] at hp;simp at hp
theorem pno_head {r x:List UInt8} (hx:(zw r).1[0]?=some x) (h:¬zbi x=true):¬za2 r=true:=fun hp=>by
  unfold za2 at hp;cases hl:(zw r).1 with
  | nil=>rw[hl] at hx;simp at hx
  | cons z l =>
    rw[hl] at hx hp;simp at hx;subst hx;simp only[uk] at hp;exact h hp.2.1
theorem pno_id {r y:List UInt8} (hy:y∈(zw r).1.drop 1) (h:¬decide ((y.length:Int)=32)=true):¬za2 r=true:=fun hp=>by
  unfold za2 at hp;rw[uj] at h;cases hl:(zw r).1 with
  | nil=>rw[hl] at hy;simp at hy
  | cons z l =>
    rw[hl] at hy hp;simp only[uk,List.all_eq_true,uj] at hp;exact h (by have:=hp.2.2 y hy;omega)
theorem part_yes {r x:List UInt8} (h1:(zw r).2=true) (hx:(zw r).1[0]?=some x) (h2:zbi x=true) (h3:∀y∈(zw r).1.drop 1,y.length=32):za2 r=true∧(⟨zg3 x,(zw r).1.drop 1⟩:Part)=zbk r:=by
  unfold za2 zbk;cases hl:(zw r).1 with
  | nil=>rw[hl] at hx;simp at hx
  | cons z l =>
    rw[hl] at hx h3;simp at hx;subst hx;refine⟨?_,?_⟩
    · simp only[uk,List.all_eq_true,uj]
      exact⟨h1,h2,fun y hy=>h3 y hy⟩
    rw[zkC h2];rfl
theorem mem_sum {α:Type} (f:α→Nat) {x:α}:∀{l:List α},x∈l→f x≤(l.map f).sum
  | y::l,h=>by
    rw[List.map_cons,List.sum_cons];rcases List.mem_cons.1 h with e|h
    · rw[e];omega
    have:=mem_sum f h;omega
theorem zst {b r:List UInt8} (h:(zw b).2=true) (hr:r∈(zw b).1):r.length≤b.length:=by
  have e:=(zjj h).1;have h1:=zmI (zw b).1;rw[e] at h1;have h2:2+r.length≤_:=mem_sum (fun x:List UInt8=>2+x.length) hr;omega
theorem zqF {b:List UInt8} (h:(zw b).2=true):(zw b).1.length≤255:=by
  have:=(zjj h).2
  unfold zdL at this;rw[uk,uj] at this;exact this.1
theorem zuV {b:List UInt8} (h1:decide ((2:Int)<(b.length:Int))=true) (h2:(zw (b.drop 2)).2=true) (h3:∀r∈(zw (b.drop 2)).1,za2 r=true) (h4:ziD (ze7 b)=true):zcH b=true:=by
  unfold zcH;rw[uj] at h1;rw[h2,h4,ui ya,List.all_eq_true.2 h3];rfl
theorem zvr {b:List UInt8} {b0 b1:UInt8} (h0:b[0]?=some b0) (h1:b[1]?=some b1):(⟨(b0.toNat:Int),(b1.toNat:Int),(zw (b.drop 2)).1.map zbk⟩:Proof)=ze7 b:=by
  unfold ze7;rw[uq,uq,h0,h1];rfl
theorem zn_paper:za7 P 86 zvu (0,0,()):=zau (zam zda (zam zda zkf)) yv
def partN:GoT (Head×Unit):=zcs zbx nilT
theorem zqk:za7 P 55 partN (zmp,()):=zau (zam zix zkf) yv
theorem zpn {h:Head}:zhc partN (h,()) [.val zbx h,.lit (.slice none 0 0)]:=zcA zcV zns
theorem zsU {h:Head} {l:List Ab.Id}:zlc zbL (⟨h,l⟩:Part) [.val zbx h] idT l:=zvN (zge zoc)
theorem zp2 (x:UInt8):IntKind.i64.wrap (IntL.toI u8T x)=(x.toNat:Int):=by
  have h:x.toNat<256:=x.toNat_lt;have e:IntL.toI u8T x=(x.toNat:Int):=rfl;rw[e];exact zah ya
theorem zvv (b:List UInt8) (hb:b.length≤1000000000):Tells P 20 [.val (bsl u8T) b] (.tup2 (.val zax (zsD b)) (.val zs (zcH b))):=by
 refine zc Tryz.func20 rfl rfl rfl (fun ext w hext=>?_);refine ze (d:=0) rfl zi (fun hsl0=>?_);refine qae ?_;refine qb6 ?_;refine qah ?_;refine A0 (zB rfl zn_paper bd_86 .nil rfl) ?_;refine xb ?_;refine zjx zp_84 rfl rfl rfl rfl rfl rfl ?_;refine zaG rfl rfl rfl rfl rfl rfl rfl rfl rfl rfl zr3 ?_;refine CN ?_;refine zdQ 2 (x:=(0,0,())) zf4 rfl ?_;refine zcR 2 55 zbL [.val i64T 0,.val i64T 0] rfl yT ?_;refine CQQR ?_;refine A0 (g_mkf (caps:=[_,_]) rfl rfl) ?_;refine zak rfl rfl rfl rfl Tryz.func42 fn_42 rfl rfl (fun ia3 iok3=>?_);refine CQR ?_;refine z8 ze_4 rfl rfl rfl rfl ?_;refine CNQR ?_;refine qdr ?_;refine zwA rfl rfl rfl rfl rfl rfl rfl (fun bD=>?_);refine CNQR ?_;refine A0 mC ?_;refine zlT rfl rfl rfl rfl rfl Tryz.func47 fn_47 rfl rfl y8 (fun ia4 iok4=>?_);refine CR ?_;refine A0 yaR ?_;refine xp ?_;refine zak rfl rfl rfl rfl Tryz.func48 fn_48 rfl rfl (fun ia5 iok5=>?_);refine qa7 ?_;refine qcr ?_;refine A0 zjC ?_;refine zbu (zcd (decide ((2:Int)<(b.length:Int)))) rfl zgC rfl yc (fun hm1=>?_) (fun hm1=>?_)
 ·
  have hno:=no_len hm1;refine qbm ?_;refine Ct ?_;refine CQR ?_;refine xO ?_;refine qcw ?_;exact zn rfl rfl (zt rfl rfl zbD ((zeq hno).symm)) (zS (za rfl (hno.symm)))
 refine A0 (oCl ((zcd (decide ((2:Int)<(b.length:Int)))).1 hm1) rfl zgC yc) ?_;refine CNQ ?_;have hbl:2<b.length:=by have:=of_decide_eq_true hm1;omega
 obtain⟨b0,hb0⟩:∃x,b[0]?=some x:=yq;obtain⟨b1,hb1⟩:∃x,b[1]?=some x:=yq;have hb08:b0.toNat<256:=b0.toNat_lt;have hb18:b1.toNat<256:=b1.toNat_lt;refine zH [some 1,some 1000001,some 1,some 1,some 1,some 1,some 1,some 1,some 1,some 1000001,some 1,some 1,some 1,none,some 1,some 1,some 1,none] mixed yd ?_;refine X0 mP ?_;refine XK.ga (fun _=>g_mp (.inl rfl) rfl) rfl rfl rfl ?_;refine X0 mV ?_;refine X0 (zr (i:=0) rfl rfl rfl ya zb4 yh) ?_;refine X0 (zh rfl rfl ty_5) ?_;refine X0 (zhy rfl (ui_3) (us_5) rfl (by exact zp2 _)) ?_;refine X0 mV ?_;refine X0 (zr (i:=1) rfl rfl rfl ya zb4 yh) ?_;refine X0 (zh rfl rfl ty_5) ?_;refine XK.ga (fun _=>zhy rfl (ui_3) (us_5) rfl (by exact zp2 _)) rfl rfl rfl ?_;refine xg ?_;refine X0 (oFp zd5) ?_;refine X0 (oFp zcQ) ?_;refine XK.e (x:=.idk) (fun fr' hfr kk H=>by exact zaG rfl rfl rfl ((hfr 28 yd).trans rfl) rfl rfl ((hfr 21 yd).trans rfl) rfl rfl rfl ty_3 (zM H)) ?_;refine xg ?_;refine X0 (oFp zd5) ?_;refine X0 (oFp zey) ?_;refine XK.e (x:=.idk) (fun fr' hfr kk H=>by exact zaG rfl rfl rfl ((hfr 31 yd).trans rfl) rfl rfl ((hfr 25 yd).trans rfl) rfl rfl rfl ty_3 (zM H)) ?_;refine XK.nil' ?_;refine qaF ?_;refine A0 (ziT rfl rfl rfl zb4 yg) ?_;refine zbu (zkm (b.drop 2) yy) rfl fn_94 rfl yc (fun hs1=>?_) (fun hs1=>?_)
 ·
  have hno:=no_split hs1;refine qbm ?_;refine Ct ?_;refine CQR ?_;refine xO ?_;refine qcw ?_;exact zn rfl rfl (zt rfl rfl zbD ((zeq hno).symm)) (zS (za rfl (hno.symm)))
 refine A0 (oCl (zC ((zkm (b.drop 2) yy).1 hs1)) rfl fn_94 yc) ?_;obtain⟨R,hR⟩:∃R,R=(zw (b.drop 2)).1:=⟨_,rfl⟩;have hRl:R.length≤255:=hR▸zqF hs1;refine zj (d:=34) (y:=R) rfl (by rw[hR]) ?_;refine qcA ?_;refine qaP ?_;refine zbc 4 6 7 rfl rfl rfl rfl rfl rfl ?_;refine Lp (ι:=Nat) 7 (fun i=>(((Fr.none.set 0 (.ptr 2 0)).set 34 (.val (sl (sl u8T)) R)).set 35 (.val i64T (R.length:Int))).set 36 (.val i64T (i:Int))) (fun i=>((((Hp.none.set 1 (.box 25 zax zdI)).set 2 (.parts 86 [.val i64T (b0.toNat:Int),.val i64T (b1.toNat:Int),.own 6])).set 3 (.parts 84 [.ptr 2 0])).set 6 (.row 55 zbL ((R.take i).map zbk))).set 5 (.objAt bD (.cells #[.bool false] 4 (0,0)))) (fun i=>i≤R.length∧∀r∈R.take i,za2 r=true) (fun i=>R.length-i) (0) (⟨uf _,fun x hx=>by simp at hx⟩) ?_;intro i hi;refine qar ?_;refine Cf (p:=i<R.length) (fun ht37=>?_) (fun ht37=>?_)
 ·
  obtain⟨r,hr⟩:∃r,R[i]?=some r:=⟨_,ub ht37⟩;have hrm:r∈(zw (b.drop 2)).1:=by rw[←hR];exact ud hr
  have hrl:=zst hs1 hrm;rw[List.length_drop] at hrl;refine CSQBQR ?_;refine A0 (zr (i:=i) rfl rfl rfl ya zfJ yh) ?_;refine qcM ?_;refine qcf ?_;refine zbu (zkm r ya) rfl fn_94 rfl ycg (fun hs2=>?_) (fun hs2=>?_)
  ·
   have hno:=zqZ hrm (pno_split hs2);refine qbm ?_;refine Ct ?_;refine CQR ?_;refine xO ?_;refine qcw ?_;exact zn rfl rfl (zt rfl rfl zbD ((zeq hno).symm)) (zS (za rfl (hno.symm)))
  refine A0 (oCl (zC ((zkm r ya).1 hs2)) rfl fn_94 ycg) ?_;refine qaA ?_;refine qcA ?_;refine A0 zjC ?_;refine zbu (zcd (decide ((0:Int)<((zw r).1.length:Int)))) rfl zgC rfl yc (fun hm2=>?_) (fun hm2=>?_)
  ·
   have hno:=zqZ hrm (pno_nil hm2);refine qbm ?_;refine Ct ?_;refine CQR ?_;refine xO ?_;refine qcw ?_;exact zn rfl rfl (zt rfl rfl zbD ((zeq hno).symm)) (zS (za rfl (hno.symm)))
  refine A0 (oCl ((zcd (decide ((0:Int)<((zw r).1.length:Int)))).1 hm2) rfl zgC yc) ?_;have hlp:1≤(zw r).1.length:=by have:=of_decide_eq_true hm2;omega
  obtain⟨x,hx⟩:∃x,(zw r).1[0]?=some x:=⟨_,ub (by have:=of_decide_eq_true hm2;omega)⟩;refine qcZ ?_;refine A0 (zr (i:=0) rfl rfl rfl ya zfJ yh) ?_;refine qcM ?_;refine A0 (oCl (zt4 x) rfl fn_95 ycg) ?_;refine qa6 ?_;refine qcm ?_;refine qaH ?_;refine qaA ?_;refine zbu (zcd (zbi x)) rfl zgC rfl yc (fun hm3=>?_) (fun hm3=>?_)
  ·
   have hno:=zqZ hrm (pno_head hx hm3);refine qbm ?_;refine Ct ?_;refine CQR ?_;refine xO ?_;refine qcw ?_;exact zn rfl rfl (zt rfl rfl zbD ((zeq hno).symm)) (zS (za rfl (hno.symm)))
  refine A0 (oCl ((zcd (zbi x)).1 hm3) rfl zgC yc) ?_;refine CNQR ?_;refine qcq ?_;refine A0 (zB rfl zqk zrD (.cons zew (Lens.fst _ _) zaM rfl .nil) rfl) ?_;refine z8 zqk rfl rfl rfl rfl ?_;refine qbs ?_;refine CN ?_;refine zdQ 8 (x:=(zg3 x,())) zpn rfl ?_;refine zcR 8 46 idT [.val zbx (zg3 x)] rfl yby ?_;refine qaF ?_;refine A0 (ziT rfl rfl rfl zfJ yg) ?_;obtain⟨L,hL⟩:∃L,L=(zw r).1.drop 1:=⟨_,rfl⟩;have hLl:L.length≤255:=by rw[hL,List.length_drop];have:=zqF hs2;omega
  refine zj (d:=58) (y:=L) rfl (by rw[hL];rfl) ?_;refine qcA ?_;refine qaP ?_;refine Lp (ι:=Nat) 10 (fun j=>(((((((Fr.none.set 0 (.ptr 2 0)).set 9 (.ptr 8 0)).set 34 (.val (sl (sl u8T)) R)).set 35 (.val i64T (R.length:Int))).set 36 (.val i64T (i:Int))).set 58 (.val (sl (sl u8T)) L)).set 59 (.val i64T (L.length:Int))).set 60 (.val i64T (j:Int))) (fun j=>((((((Hp.none.set 1 (.box 25 zax zdI)).set 2 (.parts 86 [.val i64T (b0.toNat:Int),.val i64T (b1.toNat:Int),.own 6])).set 3 (.parts 84 [.ptr 2 0])).set 6 (.row 55 zbL ((R.take i).map zbk))).set 5 (.objAt bD (.cells #[.bool false] 4 (0,0)))).set 8 (.parts 55 [.val zbx (zg3 x),.own 9])).set 9 (.row 46 idT (L.take j))) (fun j=>j≤L.length∧∀y∈L.take j,y.length=32) (fun j=>L.length-j) (0) (⟨uf _,fun x hx=>by simp at hx⟩) ?_;intro j hj;refine qar ?_;refine Cf (p:=j<L.length) (fun ht61=>?_) (fun ht61=>?_)
  ·
   obtain⟨y,hy⟩:∃y,L[j]?=some y:=⟨_,ub ht61⟩;refine CSQBQR ?_;refine A0 (zr (i:=j) rfl rfl rfl ya zfJ yh) ?_;refine qcM ?_;refine qcf ?_;refine qbO ?_;refine A0 zbZ ?_;refine zbu (zcd (decide ((y.length:Int)=32))) rfl zgC rfl yc (fun hm4=>?_) (fun hm4=>?_)
   ·
    have hno:=zqZ hrm (pno_id (hL▸ud hy) hm4);refine qbm ?_;refine Ct ?_;refine CQR ?_;refine xO ?_;refine qcw ?_;exact zn rfl rfl (zt rfl rfl zbD ((zeq hno).symm)) (zS (za rfl (hno.symm)))
   refine A0 (oCl ((zcd (decide ((y.length:Int)=32))).1 hm4) rfl zgC yc) ?_;refine CN ?_;refine zH [some 1,some 1,some 1,some 1,some 1,some 1,none,some 1,none] mixed yd ?_;refine X0 (oFp zcP) ?_;refine X0 (zae rfl rfl rfl rfl rfl zcG) ?_;refine X0 mX ?_;refine X0 (g_s2a (T:=u8T) (n:=32) 5 yn rfl rfl yv (by have:=of_decide_eq_true hm4;omega)) ?_;refine X0 (zh rfl rfl zab) ?_;refine X0 (zag (T:=idT) (xs:=[_]) rfl zek zeP yx rfl rfl) ?_;refine XK.e (fun fr' hfr kk H=>by exact zo rfl rfl rfl rfl ((hfr 69 yd).trans rfl) rfl ((hfr 73 yd).trans rfl) zeP (by simp[um];omega) (zM H)) ?_;refine X0 (oFp zcP) ?_;refine XK.e (x:=.idk) (fun fr' hfr kk H=>by exact zaG rfl rfl rfl ((hfr 75 yd).trans rfl) rfl rfl ((hfr 74 yd).trans rfl) rfl rfl rfl zcG (zM H)) ?_;refine qaX ?_;refine qan ?_;refine zbc 10 9 11 rfl rfl rfl rfl rfl rfl ?_;refine zl (n:=9) (y:=L.take (j+1)) rfl (by rw[un,hy];rfl) ?_;exact Nx (j+1) (⟨by omega,fun z hz=>by rw[un,hy] at hz;rcases List.mem_append.1 hz with h|h;exact hj.2 z h;simp at h;rw[h];have:=of_decide_eq_true hm4;omega⟩) ya
  refine CE ?_;have hLj:L.take j=L:=uc ya;have hpy:=part_yes hs2 hx hm3 (by rw[←hL,←hLj];exact hj.2);refine zl (n:=9) (y:=L) rfl (by rw[hLj]) ?_;refine zgY 8 9 [.val zbx (zg3 x)] (z:=(⟨zg3 x,L⟩:Part)) (R:=zbL) rfl rfl rfl zsU ?_;refine zJ (n:=8) (y:=(⟨zg3 x,(zw r).1.drop 1⟩:Part)) rfl (by rw[hL]) ?_;refine zH [some 1000001,some 1,some 1,some 1,some 1,some 1,some 1,some 1,none,some 1,some 1,some 1,none] mixed yd ?_;refine XK.ga (fun _=>g_mp (.inl rfl) rfl) rfl rfl rfl ?_;refine X0 mP ?_;refine xg ?_;refine X0 (oFp zd5) ?_;refine X0 (oFp zcC) ?_;refine X0 (zae rfl rfl rfl rfl rfl zhi) ?_;refine X0 (oLs rfl rfl rfl ziA) ?_;refine qdg ?_;refine XK.e (fun fr' hfr kk H=>by exact zo rfl rfl rfl rfl ((hfr 82 yd).trans rfl) rfl ((hfr 84 yd).trans rfl) znG (by simp[um];omega) (zM H)) ?_;refine xg ?_;refine X0 (oFp zd5) ?_;refine X0 (oFp zcC) ?_;refine XK.e (x:=.idk) (fun fr' hfr kk H=>by exact zaG rfl rfl rfl ((hfr 88 yd).trans rfl) rfl rfl ((hfr 85 yd).trans rfl) rfl rfl rfl zhi (zM H)) ?_;refine qaX ?_;refine qan ?_;refine zbc 10 6 11 rfl rfl rfl rfl rfl rfl ?_;refine zl (n:=6) (y:=(R.take (i+1)).map zbk) rfl (by rw[un,hr,List.map_append,hpy.2];rfl) ?_;exact Nx (i+1) (⟨by omega,fun y hy=>by rw[un,hr] at hy;rcases List.mem_append.1 hy with h|h;exact hi.2 y h;simp at h;rw[h];exact hpy.1⟩) ya
 refine CE ?_;have hRi:R.take i=R:=uc ya;refine zl (n:=6) (y:=(zw (b.drop 2)).1.map zbk) rfl (by rw[hRi,hR]) ?_;refine zgY 2 6 [.val i64T (b0.toNat:Int),.val i64T (b1.toNat:Int)] (z:=(⟨(b0.toNat:Int),(b1.toNat:Int),(zw (b.drop 2)).1.map zbk⟩:Proof)) (R:=zax) rfl rfl rfl zhw ?_;refine zJ (n:=2) (y:=ze7 b) rfl (zvr hb0 hb1) ?_;refine CR ?_;refine A0 mP ?_;refine zbu (zkD (ze7 b)) rfl fn_87 rfl yck (fun hs3=>?_) (fun hs3=>?_)
 ·
  have hno:=no_size hs3;refine qbm ?_;refine Ct ?_;refine CQR ?_;refine xO ?_;refine qcw ?_;exact zn rfl rfl (zt rfl rfl zbD ((zeq hno).symm)) (zS (za rfl (hno.symm)))
 refine A0 (oCl ((zkD (ze7 b)).1 hs3) rfl fn_87 yck) ?_;have hok:=zuV hm1 hs1 (fun r hr=>hi.2 r (by rw[hRi,hR];exact hr)) hs3;refine CN ?_;refine zi9 rfl ?_;refine CN ?_;refine zi9 rfl ?_;refine CNQR ?_;refine zqh rfl rfl rfl rfl rfl ty_4 rfl ?_;refine CN ?_;refine zqi zgU rfl rfl rfl ty_4 ?_;refine qaJ ?_;refine Cg ?_;refine CSQR ?_;refine A0 yaR ?_;refine xc ?_;refine A0 (oFp zd5) ?_;refine qbC ?_;refine qcw ?_;exact zn rfl rfl (zt rfl rfl zbD ((znP hok).symm)) (zS (za rfl (hok.symm)))
theorem easy_pw:PW ziZ:=by
  intro x hx;have hx:x=⟨zlP,[]⟩∨x=⟨zdh.h,[id0]⟩:=by simpa [ziZ] using hx
  rcases hx with rfl|rfl
  · exact⟨by refine⟨?_,?_,?_,?_,?_⟩<;>kernel_rfl,fun y hy=>by cases hy⟩
  refine⟨by refine⟨?_,?_,?_,?_,?_⟩<;>kernel_rfl,fun y hy=>?_⟩;rw[List.mem_singleton.1 hy];kernel_rfl
theorem zkV:wOk ziZ=true:=yv
theorem zte:(zjB ziZ).length=399:=by
  unfold zjB;rw[ut zkV,put_len easy_pw zkV];rfl
theorem zru:zcH (zjB ziZ)=true∧ze7 (zjB ziZ)=ziZ:=by
  unfold zjB;rw[ut zkV];exact proof_back easy_pw zkV
theorem zuq:zR [zc0,zdh] 1 1=[0,1]:=by
  unfold zR;rw[zoD];rfl
theorem zwp:wiE [zc0,zdh] 1 1 0=0:=by
  unfold wiE;rw[ur (fun h=>h zkW),ur yn]
theorem easy_wi:wiOf [zc0,zdh] 1 1 0=ziZ:=by
  have h:=build_is zkW;rw[easy_pr] at h;have hb:=zm5 zkW;unfold wiOf;rw[ut zwp,h];unfold zgD wayL;rw[ut ((zmV (zfN hb) 0).2 (by rw[zuq];decide))]
theorem awake17_ok:Tells P 11 [] (.val zs true):=by
 refine zc Tryz.func11 rfl rfl rfl (fun ext w hext=>?_);have hx1:ziZ.p[1]?=some (⟨zdh.h,[id0]⟩:Part):=rfl;refine CQR ?_;refine qah ?_;refine A0 (oCl (two_ok) rfl fn_29 trivial) ?_;refine A0 (oCl (zpG [zc0,zdh] 1 1 znw) rfl fn_14 yz) ?_;refine A0 mX ?_;refine qco ?_;refine zj (d:=12) (y:=ziZ) rfl (easy_pr) ?_;refine qc5 ?_;refine zj (d:=13) (y:=(0:Int)) rfl (zkW) ?_;refine qb6 ?_;refine qam ?_;refine qah ?_;refine A0 (oCl (two_ok) rfl fn_29 trivial) ?_;refine A0 (oCl (zsI [zc0,zdh] 1 1 0 znw) rfl fn_16 y5) ?_;refine A0 mX ?_;refine qco ?_;refine zj (d:=17) (y:=ziZ) rfl (easy_wi) ?_;refine qc5 ?_;refine zj (d:=18) (y:=(0:Int)) rfl (zwp) ?_;refine qb6 ?_;refine qam ?_;refine qah ?_;refine qbC ?_;refine A0 (oCl (pput_ok ziZ) rfl fn_18 yc) ?_;refine qa6 ?_;refine zj (d:=23) (y:=true) rfl (zkV) ?_;refine A0 aV ?_;refine qaA ?_;refine A0 (oCl (zvv (zjB ziZ) (by rw[zte];decide)) rfl fn_20 yc) ?_;refine A0 mX ?_;refine qco ?_;refine zj (d:=27) (y:=ziZ) rfl ((znP zru.1).trans zru.2) ?_;refine qc5 ?_;refine zj (d:=28) (y:=true) rfl (zru.1) ?_;refine qb6 ?_;refine qam ?_;refine qaA ?_;refine A0 zbZ ?_;refine zfE (d:=30) rfl (rfl) ?_;refine qbR ?_;refine A1 zbZ ?_;refine zfE (d:=33) rfl (rfl) ?_;refine qaf ?_;refine qdc ?_;refine A1 (zat rfl rfl zdN) ?_;refine A1 zbZ ?_;refine zfE (d:=39) rfl (rfl) ?_;refine qaf ?_;refine qdc ?_;refine A1 (zat rfl rfl zdN) ?_;refine A1 zbZ ?_;refine zfE (d:=45) rfl (rfl) ?_;refine qbA ?_;refine zfE (d:=48) rfl (rfl) ?_;refine qbA ?_;refine zfE (d:=51) rfl (rfl) ?_;refine qaf ?_;refine A1 (oLs rfl rfl rfl zbD) ?_;refine A1 (oLs rfl rfl rfl zbD) ?_;refine A1 (oCl (zve ziZ ziZ) rfl fn_23 ye) ?_;refine zfE (d:=56) rfl yw ?_;refine qbA ?_;refine A1 (zat rfl rfl zed) ?_;refine qdo ?_;refine zfE (d:=61) rfl (by rw[zte];rfl) ?_;refine qaf ?_;refine qdc ?_;refine A1 (zr (i:=1) rfl rfl rfl ya zkr yh) ?_;refine A1 (oFr zew zeK) ?_;refine A1 (oFr zc9 zap) ?_;refine qcQ ?_;refine A1 zbZ ?_;refine qaS ?_;exact zd rfl rfl (za rfl (rfl))
theorem uu_26:P.underlying 26=some (.slice 5):=yv
theorem zvw {p:Proof} (h:wOk p=true):zjB p=putL p:=by unfold zjB;rw[ut h]
theorem zlz {p:Proof} (h:¬wOk p=true):zjB p=[]:=by unfold zjB;rw[ur h]
theorem zto (v:List Int) (m k:Int):∀(i:Nat) (x:Int),x∈(zaA v m k i).2↔∃j,j<i∧x∈upOf v (zaA v m k j).1 ((v.length:Int)-k) (31-(j:Int))
  | 0,x=>⟨fun h=>(by cases h),fun h=>(by obtain⟨j,h,_⟩:=h;omega)⟩
  | i+1,x=>by
    have e:(zaA v m k (i+1)).2=(upOf v (zaA v m k i).1 ((v.length:Int)-k) (31-(i:Int))).foldl zdA (zaA v m k i).2:=rfl;rw[e,zgk,zto v m k i x]
    constructor
    · rintro (⟨j,h1,h2⟩|h)
      · exact⟨j,by omega,h2⟩
      exact⟨i,by omega,h⟩
    rintro ⟨j,h1,h2⟩
    by_cases c:j=i
    · subst c;exact .inr h2
    exact .inl ⟨j,by omega,h2⟩
theorem ztq {v:List Int} {m k:Int} (hk:k<v.length) (hm:1≤m):∀i:Nat,(zaA v m k i).1≤(v.length:Int)-k-1
  | 0=>by show(0:Int)≤_;omega
  | i+1=>by
    obtain⟨L,hL⟩:∃L,L=upOf v (zaA v m k i).1 ((v.length:Int)-k) (31-(i:Int)):=⟨_,rfl⟩;by_cases c:m<L.length
    · obtain⟨z,hz⟩:∃z,L[L.length-m.toNat]?=some z:=yq
      rw[←zdP hL hz c];have hzm:=ud hz;rw[hL] at hzm;obtain⟨j,rfl,_,h5,_⟩:=zec.1 hzm;omega
    rw[←zeC hL c];exact ztq hk hm i
theorem prefix_iff {v:List Int} {m k:Int} (h:mayP v m k=true) {x:Int}:x∈(zai v m k).1↔∃j,j<32∧x∈upOf v (zaA v m k j).1 ((v.length:Int)-k) (31-(j:Int)):=by
  unfold zai;rw[ut h];exact zmC.trans (zto v m k 32 x)
theorem ztB (v:List Int) (n:Int):∀j,(∀c,zbC v n j<c→c≤j→0<n∧v.getD c 0<n)∧(zbC v n j=0∨¬(0<n∧v.getD (zbC v n j) 0<n))
  | 0=>⟨fun c h1 h2=>by have:zbC v n 0=0:=rfl;omega,.inl rfl⟩
  | j+1=>by
    by_cases h:0<n∧v.getD (j+1) 0<n
    · have e:zbC v n (j+1)=zbC v n j:=by show(if _ then _ else _)=_;rw[ut h]
      obtain⟨h1,h2⟩:=ztB v n j;rw[e];refine⟨fun c g1 g2=>?_,h2⟩;by_cases z:c=j+1
      · rw[z];exact h
      exact h1 c g1 ya
    have e:zbC v n (j+1)=j+1:=by show(if _ then _ else _)=_;rw[ur h]
    rw[e];exact⟨fun c g1 g2=>by omega,.inr h⟩
theorem rget_step {M:List UInt8} {k:Nat} {x:UInt8} (hx:M[k]?=some x) (hk:k<8):(256:UInt64)*valU (M.take k)+zL (IntL.toI u8T x)=valU (M.take (k+1)):=by
  have hkl:=(ul.1 hx).1;have e:M.take (k+1)=M.take k++[x]:=by rw[un,hx];rfl
  have hl:(M.take k).length=k:=yb7;have h1:=zhg (M.take k) ya;have h2:=zhg (M.take k++[x]) (by rw[ue,hl];simp;omega);have h3:=zjL (M.take k++[x]);rw[ue,hl] at h3;have h4:256^(k+[x].length)≤256^8:=Nat.pow_le_pow_right yn yy;rw[zhh] at h2 h3;have h5:(zL (IntL.toI u8T x)).toNat=x.toNat:=by
    have:x.toNat<256:=x.toNat_lt
    exact zdt (n:=(x.toNat:Int)) ya ya
  apply UInt64.toNat_inj.1;rw[e,h2,UInt64.toNat_add,UInt64.toNat_mul,h5,h1];have h6:(256:Nat)^8=18446744073709551616:=rfl;have h7:(256:UInt64).toNat=256:=rfl;rw[h7];omega
theorem num_one {n:Nat} (h:n≤255):zD (zL (IntL.toI i64T (n:Int))) 1=[zaL (IntL.toI i64T (n:Int))]:=by
  have h1:=zkh (zL (IntL.toI i64T (n:Int))) 1 yn;have h2:=zE (zL (IntL.toI i64T (n:Int))) 1;have h3:(zL (IntL.toI i64T (n:Int))).toNat=n:=zdt (n:=(n:Int)) ya ya;have h4:(zaL (IntL.toI i64T (n:Int))).toNat=n:=u8_nat (n:=(n:Int)) ya ya
  match hm:zD (zL (IntL.toI i64T (n:Int))) 1,h2 with
  | [c],_ =>
    rw[hm] at h1;have h1:256*0+c.toNat=_:=h1
    have:c=zaL (IntL.toI i64T (n:Int)):=by
      apply UInt8.toNat_inj.1;rw[h4,←h3];omega
    rw[this]
theorem get_one {b:List UInt8} (h:zdy b 0 1=true):∃n0,b[0]?=some n0∧(getU b 0 1).toNat=n0.toNat:=by
  have hg:=h;unfold zdy at hg;rw[uj] at hg
  match b,hg with
  | n0::r,_ =>
    refine⟨n0,rfl,?_⟩;rw[zgT h];show(valU [n0]).toNat=_;rw[zhg [n0] yw];show 256*0+n0.toNat=_;omega
theorem znt {b:List UInt8} (h:zdy b 0 1=false):zw b=([],false):=by
  cases b with
  | nil=>rfl
  | cons n r =>
    unfold zdy at h;rw[decide_eq_false_iff_not] at h;exact absurd (⟨by omega,by omega,by omega,by omega,by rw[List.length_cons];omega⟩) h
theorem cvi_n {u:UInt64} {n:Nat} (h:IntL.toI u64T u=(n:Int)) (hn:n<4294967296):IntKind.i64.wrap (IntL.toI u64T u)=(n:Int):=by
  rw[h];exact zah ya
theorem znL (b:List UInt8) (p size:Int):Tells P 96 [.val (bsl u8T) b,.val i64T p,.val i64T size] (.tup2 (.val u64T (getU b p size)) (.val zs (zdy b p size))):=by
 refine zc Tryz.func96 rfl rfl rfl (fun ext w hext=>?_);refine ze (d:=0) rfl zi (fun hsl0=>?_);refine ze (d:=1) rfl zu (fun hin1=>?_);refine ze (d:=2) rfl zu (fun hin2=>?_);refine CQR ?_;refine A0 aV ?_;refine qaj ?_;refine A0 zbb ?_;refine Sp (d:=11) (p:=size<0) (fun g11=>?_) (fun g11=>?_)
 ·
  refine qau ?_;refine qaE ?_;refine qas ?_;refine qc0 ?_;refine Ct ?_;refine CQR ?_;refine qaI ?_;exact zx rfl rfl (za rfl ((zg5 (zbA (.inl g11))).symm)) (za rfl ((zbA (.inl g11)).symm))
 refine qbR ?_;refine qdo ?_;refine Sp (d:=14) (p:=8<size) (fun g14=>?_) (fun g14=>?_)
 ·
  refine qaf ?_;refine qbB ?_;refine qas ?_;refine qc0 ?_;refine Ct ?_;refine CQR ?_;refine qaI ?_;exact zx rfl rfl (za rfl ((zg5 (zbA (.inr (.inl g14)))).symm)) (za rfl ((zbA (.inr (.inl g14))).symm))
 refine qbA ?_;refine A1 zbb ?_;refine Sp (d:=18) (p:=p<0) (fun g18=>?_) (fun g18=>?_)
 ·
  refine qas ?_;refine qc0 ?_;refine Ct ?_;refine CQR ?_;refine qaI ?_;exact zx rfl rfl (za rfl ((zg5 (zbA (.inr (.inr (.inl g18))))).symm)) (za rfl ((zbA (.inr (.inr (.inl g18)))).symm))
 refine qbA ?_;refine A1 mV ?_;refine A1 (zat rfl rfl zed) ?_;refine qdo ?_;refine Sp (d:=24) (p:=(b.length:Int)<p) (fun g24=>?_) (fun g24=>?_)
 ·
  refine qc0 ?_;refine Ct ?_;refine CQR ?_;refine qaI ?_;exact zx rfl rfl (za rfl ((zg5 (zbA (.inr (.inr (.inr (.inl g24)))))).symm)) (za rfl ((zbA (.inr (.inr (.inr (.inl g24))))).symm))
 refine qbA ?_;refine A1 (zat rfl rfl zed) ?_;refine A1 mV ?_;refine A1 za5 ?_;refine A1 mV ?_;refine A1 zbb ?_;refine qao ?_;refine Cf (p:=(b.length:Int)-p<size) (fun ht33=>?_) (fun ht33=>?_)
 ·
  refine CQR ?_;refine qaI ?_;exact zx rfl rfl (za rfl ((zg5 (zbA (.inr (.inr (.inr (.inr ht33)))))).symm)) (za rfl ((zbA (.inr (.inr (.inr (.inr ht33))))).symm))
 have hok:=zs3 g11 g14 g18 g24 ht33;obtain⟨M,hM⟩:∃M,M=(b.drop p.toNat).take size.toNat:=⟨_,rfl⟩;have hml:M.length=size.toNat:=ycF;refine CSQR ?_;refine qcc ?_;refine Lp (ι:=Nat) 0 (fun (k:Nat)=>(((((Fr.none).set 0 (.val (bsl u8T) b)).set 1 (.val i64T p)).set 2 (.val i64T size)).set 8 (.val u64T (valU (M.take k)))).set 9 (.val i64T (k:Int))) (fun (k:Nat)=>Hp.none) (fun (k:Nat)=>k≤M.length) (fun (k:Nat)=>M.length-k) (0) (uf _) ?_;intro k hinv;refine qaW ?_;refine qav ?_;refine zq (p:=k<M.length) rfl yax (fun ht36=>?_) (fun ht36=>?_)
 ·
  obtain⟨x,hx⟩:∃x,M[k]?=some x:=⟨_,ub ht36⟩;have hbx:b[p.toNat+k]?=some x:=by rw[hM,List.getElem?_take,ut ya,List.getElem?_drop] at hx;exact hx
  refine qa8 ?_;refine CR ?_;refine qau ?_;refine A0 (zh5 rfl rfl rfl) ?_;refine qad ?_;refine qau ?_;refine A0 (zo9 rfl rfl rfl (show _=(((p.toNat+k:Nat):Int):Int) from(zah ya).trans ya)) ?_;refine A0 (zr (i:=p.toNat+k) rfl rfl rfl ya zb4 yh) ?_;refine A0 (zh rfl rfl ty_5) ?_;refine A0 (zfc rfl (zlk) (us_5) rfl) ?_;refine xd ?_;refine A0 aV ?_;refine qaK ?_;refine zj (d:=8) (y:=valU (M.take (k+1))) rfl (rget_step hx ya) ?_;exact Nx (k+1) ya ya
 refine qcu ?_;refine qaI ?_;exact zx rfl rfl (za rfl (by rw[zgT hok,uc ya,hM])) (za rfl (hok.symm))
theorem rblob_ok (x:List UInt8):Tells P 93 [.val (bsl u8T) x] (.tup2 (.fresh 5 u8T (zmy x)) (.val zs (zcD x))):=by
 refine zc Tryz.func93 rfl rfl rfl (fun ext w hext=>?_);refine ze (d:=0) rfl zi (fun hsl0=>?_);refine qap ?_;refine qaj ?_;refine qcr ?_;refine qbT ?_;refine Cf (p:=65535<x.length) (fun ht6=>?_) (fun ht6=>?_)
 ·
  refine qaT ?_;exact zx rfl rfl ybY (za rfl (by unfold zcD;symm;apply uh;omega))
 have hbo:zcD x=true:=ui ya;have hn:=zE (zL (IntL.toI i64T (x.length:Int))) 2;refine qbw ?_;refine qcr ?_;refine qdq ?_;refine zaH (zjW (zL (IntL.toI i64T (x.length:Int))) 2 yn) rfl zuj ye rfl rfl rfl ?_;refine qau ?_;refine zo rfl rfl rfl rfl rfl rfl rfl zaE (by rw[hn];omega) ?_;refine qcl ?_;exact zx rfl rfl (zf rfl rfl (by unfold zmy;rw[ut hbo];rfl)) (za rfl (hbo.symm))
theorem rcut_ok (b:List UInt8) (p:Int) (hb:b.length≤1000000000):Tells P 97 [.val (bsl u8T) b,.val i64T p] (.tup3 (.fresh 5 u8T (cutX b p)) (.val i64T (zi2 b p)) (.val zs (cutE b p))):=by
 have hu:=zuh (b:=b) (p:=p);refine zc Tryz.func97 rfl rfl rfl (fun ext w hext=>?_);refine ze (d:=0) rfl zi (fun hsl0=>?_);refine ze (d:=1) rfl zu (fun hin1=>?_);refine qap ?_;refine A0 aV ?_;refine qbr ?_;refine A0 (oCl (znL b p 2) rfl fn_96 yz) ?_;refine qb1 ?_;refine A0 oN ?_;refine zX (d:=16) (p:=zdy b p 2=false) rfl (by cases zdy b p 2<;>rfl) (fun g16=>?_) (fun g16=>?_)
 ·
  have hcn:cutE b p=false:=by unfold cutE;rw[g16];rfl
  refine qau ?_;refine qbc ?_;refine qbB ?_;refine qao ?_;refine Ct ?_;refine qap ?_;refine qaI ?_;exact zb7 rfl rfl ybI (za rfl (by rw[(zmi hcn).2])) (za rfl hcn.symm)
 have hg:zdy b p 2=true:=by simpa using g16
 have hu2:=hu hg;have hgs:0≤p∧p≤b.length∧2≤(b.length:Int)-p:=by have h:=hg;unfold zdy at h;rw[uj] at h;omega
 have hti:IntL.toI u64T (getU b p 2)=((getU b p 2).toNat:Int):=rfl;refine qbR ?_;refine A1 (zat rfl rfl zed) ?_;refine A1 mV ?_;refine A1 za5 ?_;refine A1 za5 ?_;refine A1 mV ?_;refine A1 (zhy rfl (ui_3) (zqs) rfl yaI) ?_;refine A1 zbb ?_;refine qao ?_;refine Cf (p:=(b.length:Int)-p-2<((getU b p 2).toNat:Int)) (fun ht26=>?_) (fun ht26=>?_)
 ·
  have hcn:cutE b p=false:=ycG;refine qap ?_;refine qaI ?_;exact zb7 rfl rfl ybI (za rfl (by rw[(zmi hcn).2])) (za rfl hcn.symm)
 have hce:cutE b p=true:=by unfold cutE;rw[hg,Bool.true_and,uj];omega
 refine qcz ?_;refine A0 zcn ?_;refine qdh ?_;refine A0 (zui rfl rfl rfl rfl zb4 yg) ?_;refine zj (d:=35) (y:=cutX b p) rfl yb8 ?_;have hcl:(cutX b p).length≤b.length:=by rw[(zi1 hce).1,um,List.length_drop];omega
 refine zcE rfl rfl rfl rfl rfl rfl zaE yy ?_;refine qdh ?_;refine A0 aO ?_;refine qaI ?_;exact zb7 rfl rfl (zf rfl rfl yw) (za rfl (by rw[(zi1 hce).2,hti])) (za rfl hce.symm)
theorem zvg (l:List (List UInt8)):Tells P 46 [.val (bsl (bsl u8T)) l] (.tup2 (.fresh 5 u8T (zjS l)) (.val zs (zdL l))):=by
 refine zc Tryz.func46 rfl rfl rfl (fun ext w hext=>?_);refine ze (d:=0) rfl zi (fun hsl0=>?_);refine qap ?_;refine qaj ?_;refine qcA ?_;refine qbT ?_;refine Cf (p:=255<l.length) (fun ht10=>?_) (fun ht10=>?_)
 ·
  refine qaT ?_;exact zx rfl rfl (by rw[show zjS l=[] by unfold zjS;rw[ur (by rw[zqE ht10];decide)]];exact zm rfl) (za rfl ((zqE ht10).symm))
 refine qbw ?_;refine qcA ?_;refine qdq ?_;refine zaH (zjW (zL (IntL.toI i64T (l.length:Int))) 1 yn) rfl zuj ye rfl rfl rfl ?_;refine A0 aO ?_;refine qaw ?_;refine zl (n:=0) (y:=zls l 0) rfl (by rw[num_one ya];rfl) ?_;refine Lp (ι:=Nat) 1 (fun (k:Nat)=>(((Fr.none).set 0 (.val (bsl (bsl u8T)) l)).set 4 (.own 0)).set 5 (.val i64T (k:Int))) (fun (k:Nat)=>(Hp.none).set 0 (.row 5 u8T (zls l k))) (fun (k:Nat)=>k≤l.length∧∀x∈l.take k,zcD x=true) (fun (k:Nat)=>l.length-k) (0) (⟨uf _,fun x hx=>by simp at hx⟩) ?_;intro k hinv;refine qaW ?_;refine qcA ?_;refine qav ?_;refine Cf (p:=k<l.length) (fun ht18=>?_) (fun ht18=>?_)
 ·
  obtain⟨x,hx⟩:∃x,l[k]?=some x:=⟨_,ub ht18⟩;have hnl:=zsr hinv.2;refine qdm ?_;refine A0 (zr (i:=k) rfl rfl rfl ya zfJ yh) ?_;refine qcM ?_;refine A0 (oCl (zbo (rblob_ok x)) rfl fn_93 ycg) ?_;refine qb1 ?_;refine qaJ ?_;refine zq (p:=¬zcD x=true) rfl (by cases zcD x<;>rfl) (fun ht30=>?_) (fun ht30=>?_)
  ·
   refine qaT ?_;exact zx rfl rfl (by rw[show zjS l=[] by unfold zjS;rw[ur (by rw[zmJ hx ht30];decide)]];exact zm rfl) (za rfl ((zmJ hx ht30).symm))
  have hbo:zcD x=true:=ua ht30;have hbr:zmy x=ziu x:=by unfold zmy;rw[ut hbo]
  have hbx:=of_decide_eq_true hbo;have hbl:=zm6 x;refine CS ?_;refine qbE ?_;refine qau ?_;refine zo rfl rfl rfl rfl rfl rfl rfl zaE (by rw[hbr];simp;omega) ?_;refine qcH ?_;refine qbx ?_;refine zl (n:=0) (y:=zls l (k+1)) rfl (by rw[hbr,zpy hx]) ?_;exact Nx (k+1) (⟨by omega,fun y hy=>by rw[un,hx] at hy;rcases List.mem_append.1 hy with h|h;exact hinv.2 y h;simp at h;rw[h];exact hbo⟩) ya
 refine CE ?_;refine qcb ?_;refine qcl ?_;exact zx rfl rfl (zf rfl rfl (by unfold zjS;rw[zmK ht10 hinv.2 ya,ut rfl];exact zss ya)) (za rfl ((zmK ht10 hinv.2 ya).symm))
theorem zsn (b:List UInt8) (hb:b.length≤1000000000):Tells P 49 [.val (bsl u8T) b] (.tup2 (.fresh 26 (sl u8T) (zw b).1) (.val zs (zw b).2)):=by
 refine zc Tryz.func49 rfl rfl rfl (fun ext w hext=>?_);refine ze (d:=0) rfl zi (fun hsl0=>?_);refine qap ?_;refine qaA ?_;refine A0 (oCl (znL b 0 1) rfl fn_96 yz) ?_;refine qb1 ?_;refine A0 oN ?_;refine zX (d:=18) (p:=zdy b 0 1=false) rfl (by cases zdy b 0 1<;>rfl) (fun g18=>?_) (fun g18=>?_)
 ·
  refine CN ?_;refine Ct ?_;refine qaT ?_;exact zx rfl rfl (zhT rfl (by rw[znt g18])) (za rfl (by rw[znt g18]))
 obtain⟨n0,hn0,hgn⟩:=get_one (by simpa using g18);have hn8:n0.toNat<256:=n0.toNat_lt;have hbl:1≤b.length:=by have:=(ul.1 hn0).1;omega
 have hti:IntL.toI u64T (getU b 0 1)=(n0.toNat:Int):=by show(((getU b 0 1).toNat:Nat):Int)=_;rw[hgn]
 refine CN ?_;refine Cg ?_;refine CSQR ?_;refine A0 aL ?_;refine CNQR ?_;refine qcc ?_;refine zbd (T:=sl u8T) (d:=6) 26 rfl ?_;refine Lp (ι:=Nat×List (List UInt8)) 1 (fun(p,out)=>((((Fr.none.set 0 (.val (bsl u8T) b)).set 4 (.val u64T (getU b 0 1))).set 6 (.own 0)).set 7 (.val i64T (p:Int))).set 8 (.val i64T (out.length:Int))) (fun(p,out)=>Hp.none.set 0 (.row 26 (sl u8T) out)) (fun(p,out)=>SplitAt b n0.toNat p out) (fun(p,out)=>n0.toNat-out.length) ((1,[])) (znr hbl) ?_;intro⟨p,out⟩ hinv;dsimp only at hinv;refine qaW ?_;refine A0 (zhy rfl (ui_3) (zqs) rfl (cvi_n hti ya)) ?_;refine qav ?_;refine Cf (p:=out.length<n0.toNat) (fun ht22=>?_) (fun ht22=>?_)
 ·
  refine qdm ?_;refine A0 (oCl (zpl (rcut_ok b (p:Int) hb)) rfl fn_97 ye) ?_;refine qa6 ?_;refine A0 e32 ?_;refine A0 aV ?_;refine A0 aV ?_;refine qaj ?_;refine qaJ ?_;refine zq (p:=cutE b p=false) rfl (by cases cutE b p<;>rfl) (fun ht33=>?_) (fun ht33=>?_)
  ·
   refine qaT ?_;exact zx rfl rfl (zhT rfl yce) (za rfl yce)
  have hce:cutE b p=true:=by simpa using ht33
  obtain⟨q,hq,hpq,hqb,hxl⟩:=zrx hinv.p2 hce;refine CSQR ?_;refine A0 mO ?_;refine qau ?_;refine A0 (zag (T:=(sl u8T)) (xs:=[_]) rfl zfJ ze6 yx rfl rfl) ?_;refine zo rfl rfl rfl rfl rfl rfl rfl ze6 yy ?_;refine A0 aO ?_;refine CNR ?_;refine qau ?_;refine A0 aV ?_;refine qaK ?_;refine qbx ?_;refine zj (d:=7) (y:=(((zi2 b p).toNat:Nat):Int)) rfl (by rw[hq];omega) ?_;refine zj (d:=8) (y:=((out++[cutX b p]).length:Int)) rfl (by rw[ue];simp) ?_;exact Nx (((zi2 b p).toNat,out++[cutX b p])) (zu8 hinv hce ya) (by show n0.toNat-(out++[cutX b p]).length<n0.toNat-out.length;rw[ue];simp;omega)
 have hon:=hinv.n;refine CE ?_;refine qaW ?_;refine qcr ?_;refine qaO ?_;refine zq (p:=¬p=b.length) rfl y9 (fun ht42=>?_) (fun ht42=>?_)
 ·
  refine qaT ?_;exact zx rfl rfl (zhT rfl ybb) (za rfl ybb)
 refine CSQR ?_;refine A0 mO ?_;refine qcl ?_;exact zx rfl rfl (zf rfl rfl ybo) (za rfl ybo)
end Go.Proofs.YtjjlfapfjjkomaaGreat
