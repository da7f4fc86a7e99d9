/- Parts of the proof: the layer that reads Go values as data, and what the functions of the program tell. -/
import Derived.Test.YtgoebfjaaklopaaGreatK6
set_option linter.unusedVariables false
set_option linter.unusedSimpArgs false
set_option maxRecDepth 20000
namespace Go.Proofs.YtgoebfjaaklopaaGreat
open Go.Ab Go.RowKit
def incW (w:Wide):Wide:=w.set 0 (w.getD 0 default+1)
theorem zkL {w:Wide} (h:w.length=4):(incW w).length=4:=by unfold incW;rw[List.length_set];exact h
theorem incW_n {w:Wide} (h:w.length=4) (he:nW w%2=0):nW (incW w)=nW w+1:=by
  obtain⟨a0,a1,a2,a3,rfl⟩:=zfi h;have h0:a0.toNat<18446744073709551616:=a0.toNat_lt;unfold nW at he;simp only[List.getD_cons_zero,List.getD_cons_succ] at he;show nW [a0+1,a1,a2,a3]=_;unfold nW;simp only[List.getD_cons_zero,List.getD_cons_succ];have e:(a0+1).toNat=a0.toNat+1:=by
    rw[UInt64.toNat_add];show(a0.toNat+1)%18446744073709551616=_;omega
  rw[e];omega
theorem hiBit_n {w:Wide} (h:w.length=4):9223372036854775808≤(w.getD 3 default).toNat↔57896044618658097711785492504343953926634992332820282019728792003956564819968≤nW w:=by
  obtain⟨a0,a1,a2,a3,rfl⟩:=zfi h;have h0:a0.toNat<18446744073709551616:=a0.toNat_lt;have h1:a1.toNat<18446744073709551616:=a1.toNat_lt;have h2:a2.toNat<18446744073709551616:=a2.toNat_lt;have h3:a3.toNat<18446744073709551616:=a3.toNat_lt;unfold nW;simp only[List.getD_cons_zero,List.getD_cons_succ];omega
def dvX (s:Wide×Wide×Wide):Wide:=if 9223372036854775808≤(s.1.getD 3 default).toNat then incW (addW s.2.2 s.2.2) else addW s.2.2 s.2.2
def dvC (b:Wide) (s:Wide×Wide×Wide):Prop:=zf5 s.2.2 s.2.2=false∨0≤cmpW (dvX s) b
instance (b:Wide) (s:Wide×Wide×Wide):Decidable (dvC b s):=inferInstanceAs (Decidable (_∨_))
def zqc (b:Wide) (s:Wide×Wide×Wide):Wide×Wide×Wide:=if dvC b s then (addW s.1 s.1,incW (addW s.2.1 s.2.1),subW (dvX s) b) else (addW s.1 s.1,addW s.2.1 s.2.1,dvX s)
def dvI (a b:Wide):Nat→Wide×Wide×Wide
  | 0=>(a,zax,zax)
  | i+1=>zqc b (dvI a b i)
structure DvInv (A B P:Nat) (M:Nat) (s:Wide×Wide×Wide):Prop where
  l1:s.1.length=4
  l2:s.2.1.length=4
  l3:s.2.2.length=4
  n1:nW s.1=M
  n2:nW s.2.1=P/B
  n3:nW s.2.2=P%B
theorem dv_step {A B P M bit:Nat} {b:Wide} {s:Wide×Wide×Wide} (hb:b.length=4) (hB:nW b=B) (hp:0<B) (hM:M<W256) (hbit:bit=if 57896044618658097711785492504343953926634992332820282019728792003956564819968≤M then 1 else 0) (hP:2*P+bit<W256) (h:DvInv A B P M s):DvInv A B (2*P+bit) (2*M%W256) (zqc b s):=by
  obtain⟨l1,l2,l3,n1,n2,n3⟩:=h;have hBlt:B<W256:=by rw[←hB];exact zpC hb
  have hr:P%B<B:=Nat.mod_lt _ hp;have hq:B*(P/B)+P%B=P:=Nat.div_add_mod P B;have hqle:P/B≤P:=Nat.div_le_self P B;obtain⟨x1,x2⟩:=zqQ l3 l3;rw[n3] at x1 x2;have hX:(dvX s).length=4∧nW (dvX s)=(2*(P%B)+bit)%W256:=by
    have ev:nW (addW s.2.2 s.2.2)%2=0:=by rw[x1];unfold W256;omega
    unfold dvX;by_cases c:9223372036854775808≤(s.1.getD 3 default).toNat
    · rw[ut c]
      have c':=(hiBit_n l1).1 c;rw[n1] at c';rw[ut c'] at hbit;refine⟨zkL (za0 l3 l3),?_⟩;rw[incW_n (za0 l3 l3) ev,x1,hbit];unfold W256;omega
    rw[ur c];have c':¬_:=fun h=>c ((hiBit_n l1).2 h)
    rw[n1] at c';rw[ur c'] at hbit;refine⟨za0 l3 l3,?_⟩;rw[x1,hbit];congr 1;omega
  obtain⟨xl,xn⟩:=hX;have o1:=zj8 l2 l2;rw[n2] at o1;have o1':nW (addW s.2.1 s.2.1)=2*(P/B):=by
    rw[o1,show P/B+P/B=2*(P/B) by omega,Nat.mod_eq_of_lt ya]
  have a1:nW (addW s.1 s.1)=2*M%W256:=by rw[zj8 l1 l1,n1];congr 1;omega
  have hbit1:bit≤1:=by rw[hbit];split<;>omega
  have hdiv:∀q r,B*q+r=2*P+bit→r<B→(2*P+bit)/B=q∧(2*P+bit)%B=r:=fun q r e hlt=>by
    rw[←e];refine⟨?_,?_⟩
    · rw[Nat.add_comm,Nat.add_mul_div_left _ _ hp,Nat.div_eq_of_lt hlt,Nat.zero_add]
    rw[Nat.add_comm,Nat.add_mul_mod_self_left,Nat.mod_eq_of_lt hlt]
  have hcase:dvC b s↔B≤2*(P%B)+bit:=by
    unfold dvC;rw[zmi xl hb,hB,xn];have hx2:zf5 s.2.2 s.2.2=false↔W256≤P%B+P%B:=by
      cases e:zf5 s.2.2 s.2.2 with
      | true=>have:=x2.1 e;simp;omega
      | false =>
        refine⟨fun _=>?_,fun _=>rfl⟩;rcases Nat.lt_or_ge (P%B+P%B) W256 with h|h
        · have:=x2.2 h;rw[e] at this;cases this
        exact h
    rw[hx2];have hlt2:2*(P%B)+bit<2*B:=ya
    constructor
    · rintro (h|h)
      · omega
      by_cases c1:2*(P%B)+bit<W256
      · rw[Nat.mod_eq_of_lt c1] at h
        split at h
        · omega
        omega
      omega
    intro h;by_cases c1:2*(P%B)+bit<W256
    · right
      rw[Nat.mod_eq_of_lt c1]
      split
      · omega
      split<;>omega
    left
    unfold W256 at *;omega
  unfold zqc;have hmul:B*(2*(P/B))=2*(B*(P/B)):=by rw[Nat.mul_left_comm]
  by_cases c:dvC b s
  · rw[ut c]
    have c':=hcase.1 c;have hm1:B*(2*(P/B)+1)=2*(B*(P/B))+B:=by rw[Nat.mul_add,hmul,Nat.mul_one]
    obtain⟨e1,e2⟩:=hdiv (2*(P/B)+1) (2*(P%B)+bit-B) ya ya;refine⟨za0 l1 l1,zkL (za0 l2 l2),zkz xl hb,a1,?_,?_⟩
    · show nW (incW (addW s.2.1 s.2.1))=_
      rw[incW_n (za0 l2 l2) (by rw[o1'];omega),o1',e1]
    show nW (subW (dvX s) b)=_;rw[(zsa xl hb).1,xn,hB,e2];by_cases c1:2*(P%B)+bit<W256
    · rw[Nat.mod_eq_of_lt c1]
      rw[show 2*(P%B)+bit+W256-B=(2*(P%B)+bit-B)+W256 by omega,Nat.add_mod_right,Nat.mod_eq_of_lt ya]
    have h2:2*(P%B)+bit<2*W256:=ya;rw[show(2*(P%B)+bit)%W256=2*(P%B)+bit-W256 by rw[Nat.mod_eq_sub_mod ya,Nat.mod_eq_of_lt ya]];rw[show 2*(P%B)+bit-W256+W256-B=2*(P%B)+bit-B by omega,Nat.mod_eq_of_lt ya]
  rw[ur c];have c':¬B≤2*(P%B)+bit:=fun h=>c (hcase.2 h)
  obtain⟨e1,e2⟩:=hdiv (2*(P/B)) (2*(P%B)+bit) ya ya;refine⟨za0 l1 l1,za0 l2 l2,xl,a1,?_,?_⟩
  · show nW (addW s.2.1 s.2.1)=_
    rw[o1',e1]
  show nW (dvX s)=_;rw[xn,e2,Nat.mod_eq_of_lt ya]
theorem dv_bit {A k i:Nat} (_hA:A<2^256) (hk:k+1+i=256):A/2^k=2*(A/2^(k+1))+(if 2^255≤A*2^i%2^256 then 1 else 0):=by
  have e1:A/2^(k+1)=A/2^k/2:=by rw[Nat.pow_succ,Nat.div_div_eq_div_mul]
  have e2:A*2^i%2^256=A%2^(k+1)*2^i:=by
    rw[←hk,Nat.pow_add,Nat.mul_mod_mul_right]
  have e3:A%2^(k+1)=A/2^k%2*2^k+A%2^k:=by
    rw[Nat.pow_succ,Nat.mod_mul,Nat.add_comm,Nat.mul_comm (2^k)]
  have e4:(2:Nat)^255=2^k*2^i:=by rw[←Nat.pow_add];congr 1;omega
  have hlt:A%2^k<2^k:=Nat.mod_lt _ (Nat.two_pow_pos k);rw[e1,e2,e4];have hiff:2^k*2^i≤A%2^(k+1)*2^i↔A/2^k%2=1:=by
    rw[Nat.mul_le_mul_right_iff (Nat.two_pow_pos i),e3];rcases Nat.mod_two_eq_zero_or_one (A/2^k) with h|h
    · rw[h];constructor
      · intro h';omega
      intro h';omega
    rw[h];constructor
    · intro _;rfl
    intro _;omega
  by_cases c:A/2^k%2=1
  · rw[ut (hiff.2 c)];omega
  rw[ur (fun h=>c (hiff.1 h))];omega
theorem dv_inv {a b:Wide} (ha:a.length=4) (hb:b.length=4) (h:b≠zax):∀i,i≤256→DvInv (nW a) (nW b) (nW a/2^(256-i)) (nW a*2^i%2^256) (dvI a b i):=by
  have hA:nW a<2^256:=zpC ha;have hp:=nW_pos hb h;intro i
  induction i with
  | zero =>
    intro _;have e:nW a/2^(256-0)=0:=Nat.div_eq_of_lt hA;rw[e,Nat.pow_zero,Nat.mul_one,Nat.mod_eq_of_lt hA];exact⟨ha,rfl,rfl,rfl,by show nW zax=_;rw[zoc,Nat.zero_div],by show nW zax=_;rw[zoc,Nat.zero_mod]⟩
  | succ i ih =>
    intro hi;have h1:=ih ya;have e:=dv_bit (k:=255-i) (i:=i) hA ya;rw[show 255-i+1=256-i by omega] at e;have hlt:nW a/2^(255-i)<W256:=Nat.lt_of_le_of_lt (Nat.div_le_self _ _) hA;have hM:nW a*2^i%2^256<W256:=Nat.mod_lt _ yp;have e2:nW a*2^(i+1)%2^256=2*(nW a*2^i%2^256)%W256:=by
      rw[Nat.pow_succ,←Nat.mul_assoc,Nat.mul_comm _ 2];show _=2*(nW a*2^i%2^256)%2^256;rw[Nat.mul_mod_mod]
    rw[show 256-(i+1)=255-i by omega,e2,e];rw[e] at hlt;exact dv_step hb rfl hp hM rfl hlt h1
theorem dv_all {a b:Wide} (ha:a.length=4) (hb:b.length=4) (h:b≠zax):(dvI a b 256).2.1=divW a b∧(dvI a b 256).2.2=remW a b:=by
  obtain⟨_,l2,l3,_,n2,n3⟩:=dv_inv ha hb h 256 (ug _);obtain⟨d1,d2,d3,d4⟩:=nW_div ha hb h;rw[Nat.sub_self,Nat.pow_zero,Nat.div_one] at n2 n3;exact⟨zgE l2 d1 (n2.trans d3.symm),zgE l3 d2 (n3.trans d4.symm)⟩
theorem dvX_len {x y z:Wide} (h:z.length=4):(dvX (x,y,z)).length=4:=by
  unfold dvX
  split
  · exact zkL (za0 h h)
  exact za0 h h
theorem zdh {a b x y z X:Wide} {k:Nat} (h:k≤256∧dvI a b k=(x,y,z)∧x.length=4∧y.length=4∧z.length=4) (hb:b.length=4) (hXl:X.length=4) (hk:k+1≤256) (hX:X=dvX (x,y,z)) (hc:zf5 z z=false∨0≤cmpW X b) :
    k+1≤256∧dvI a b (k+1)=(addW x x,incW (addW y y),subW X b)∧(addW x x).length=4∧(incW (addW y y)).length=4∧(subW X b).length=4:=by
  refine⟨hk,?_,za0 h.2.2.1 h.2.2.1,zkL (za0 h.2.2.2.1 h.2.2.2.1),zkz hXl hb⟩;rw[dvI,h.2.1];unfold zqc;rw[ut (by unfold dvC;rw[←hX];exact hc),←hX]
theorem zhw {a b x y z X:Wide} {k:Nat} (h:k≤256∧dvI a b k=(x,y,z)∧x.length=4∧y.length=4∧z.length=4) (hXl:X.length=4) (hk:k+1≤256) (hX:X=dvX (x,y,z)) (h1:¬zf5 z z=false) (h2:¬0≤cmpW X b) :
    k+1≤256∧dvI a b (k+1)=(addW x x,addW y y,X)∧(addW x x).length=4∧(addW y y).length=4∧X.length=4:=by
  refine⟨hk,?_,za0 h.2.2.1 h.2.2.1,za0 h.2.2.2.1 h.2.2.2.1,hXl⟩;rw[dvI,h.2.1];unfold zqc;rw[ur (by unfold dvC;rw[←hX];exact fun h=>h.elim h1 h2),←hX]
def allW:Wide:=[maxU,maxU,maxU,maxU]
theorem allW_n:nW allW=W256-1:=by
  show nW [maxU,maxU,maxU,maxU]=_;unfold nW;simp only[List.getD_cons_zero,List.getD_cons_succ,maxU_n];rfl
theorem notW_n {t:Wide} (ht:t.length=4):nW [~~~ t.getD 0 default,~~~ t.getD 1 default,~~~ t.getD 2 default,~~~ t.getD 3 default]=W256-1-nW t:=by
  obtain⟨a0,a1,a2,a3,rfl⟩:=zfi ht;have e:∀x:UInt64,(~~~ x).toNat=18446744073709551615-x.toNat:=fun x=>by rw[UInt64.toNat_not];rfl
  have h0:a0.toNat<18446744073709551616:=a0.toNat_lt;have h1:a1.toNat<18446744073709551616:=a1.toNat_lt;have h2:a2.toNat<18446744073709551616:=a2.toNat_lt;have h3:a3.toNat<18446744073709551616:=a3.toNat_lt;unfold nW W256;simp only[List.getD_cons_zero,List.getD_cons_succ,e];omega
theorem zpc {a n:Nat} (hn:0<n):(a+1)/n=a/n+if a%n+1=n then 1 else 0:=by
  have h:=Nat.div_add_mod a n;have hlt:=Nat.mod_lt a hn;by_cases c:a%n+1=n
  · rw[ut c]
    have e:a+1=n*(a/n+1):=by rw[Nat.mul_add,Nat.mul_one];omega
    rw[e,Nat.mul_div_cancel_left _ hn]
  rw[ur c];have e:a+1=(a%n+1)+n*(a/n):=ya;rw[e,Nat.add_mul_div_left _ _ hn,Nat.div_eq_of_lt ya,Nat.zero_add];rfl
theorem zrO {t:Wide} (ht:t.length=4) (h:zf5 t (ofW 1)=true) :
    (addW (remW allW (addW t (ofW 1))) (ofW 1)=addW t (ofW 1)→addW (divW allW (addW t (ofW 1))) (ofW 1)=zkn t)∧(addW (remW allW (addW t (ofW 1))) (ofW 1)≠addW t (ofW 1)→divW allW (addW t (ofW 1))=zkn t):=by
  have h1:nW (ofW 1)=1:=rfl;have l1:(ofW 1).length=4:=rfl;obtain⟨n1,n2⟩:=zqQ ht l1;have hlt:=n2.1 h;rw[h1] at n1 hlt;rw[Nat.mod_eq_of_lt hlt] at n1;have nl:=za0 ht l1;obtain⟨nx,hnx⟩:∃nx,nx=addW t (ofW 1):=⟨_,rfl⟩;have hw:zkn t=addW (divW [~~~ t.getD 0 default,~~~ t.getD 1 default,~~~ t.getD 2 default,~~~ t.getD 3 default] nx) (ofW 1):=by unfold zkn;rw[ut h,hnx]
  rw[←hnx] at n1 nl ⊢;have hz:nx≠zax:=fun e=>by rw[e,zoc] at n1;omega
  have hp:0<nW nx:=ya;obtain⟨d1,d2,d3,d4⟩:=nW_div (a:=allW) rfl nl hz;obtain⟨e1,e2,e3,_⟩:=nW_div (a:=[~~~ t.getD 0 default,~~~ t.getD 1 default,~~~ t.getD 2 default,~~~ t.getD 3 default]) rfl nl hz;rw[notW_n ht] at e3;have hk:W256-1-nW t=W256-nW nx:=ya;rw[hk] at e3;have hdiv:(W256-nW nx)/nW nx+1=W256/nW nx:=by
    rw[←Nat.div_eq_sub_div hp ya]
  have hsd:=zpc (a:=W256-1) hp;rw[show W256-1+1=W256 from rfl] at hsd;rw[allW_n] at d3 d4;have hrl:(W256-1)%nW nx<nW nx:=Nat.mod_lt _ hp;have hcond:addW (remW allW nx) (ofW 1)=nx↔(W256-1)%nW nx+1=nW nx:=by
    have hr:=zj8 d2 l1;rw[d4,h1,Nat.mod_eq_of_lt ya] at hr
    constructor
    · intro e;rw[←hr,e]
    intro e;exact zgE (za0 d2 l1) nl (hr.trans e)
  have hwl:(zkn t).length=4:=by rw[hw];exact za0 e1 l1
  have hwn:nW (zkn t)=W256/nW nx%W256:=by rw[hw,zj8 e1 l1,e3,h1,hdiv]
  constructor
  · intro c
    rw[ut (hcond.1 c)] at hsd;refine zgE (za0 d1 l1) hwl ?_;rw[zj8 d1 l1,d3,h1,hwn,hsd]
  intro c;rw[ur (fun e=>c (hcond.2 e)),Nat.add_zero] at hsd;refine zgE d1 hwl ?_;rw[d3,hwn,hsd,Nat.mod_eq_of_lt];exact Nat.lt_of_le_of_lt (Nat.div_le_self _ _) yp
theorem rdivW_ok (a b:Wide):Tells P 181 [.val zL a,.val zL b] (.tup3 (.val zL (divW a b)) (.val zL (remW a b)) (.val zu (divOk b))):=by
 refine zc Tryz.func181 rfl rfl rfl (fun ext w hext=>?_);refine ze (d:=0) rfl zaC (fun ha=>?_);refine ze (d:=1) rfl zaC (fun hb=>?_);refine qaw ?_;refine qau ?_;refine qau ?_;refine qcH ?_;refine qay ?_;refine xa ?_;refine A0 (zfY rfl rfl rfl (zsH)) ?_;refine CN ?_;refine zk (p:=b=zax) rfl yx (fun ht14=>?_) (fun ht14=>?_)
 ·
  refine CQR ?_;refine xa ?_;refine xa ?_;refine qag ?_;refine qag ?_;refine qad ?_;exact zkU rfl rfl (zC rfl rfl zV (by unfold divW divP;rw[ut ht14])) (zC rfl rfl zV (by unfold remW divP;rw[ut ht14])) (zX (zb rfl (by unfold divOk;symm;exact uh (fun h=>h ht14))))
 refine CSQR ?_;refine qau ?_;refine CNQR ?_;refine qau ?_;refine qa2 ?_;refine Lp (ι:=Nat×Wide×Wide×Wide) 6 (fun(k,x,y,z)=>(((((((Fr.none.set 2 (.ptr 0 0)).set 3 (.ptr 1 0)).set 4 (.ptr 2 0)).set 5 (.ptr 3 0)).set 6 (.val zu false)).set 7 (.ptr 4 0)).set 8 (.ptr 5 0)).set 9 (.val i64T (k:Int))) (fun(k,x,y,z)=>(((((Hp.none.set 0 (.box 30 zL x)).set 1 (.box 30 zL b)).set 2 (.box 30 zL zax)).set 3 (.box 30 zL zax)).set 4 (.box 30 zL y)).set 5 (.box 30 zL z)) (fun(k,x,y,z)=>k≤256∧dvI a b k=(x,y,z)∧x.length=4∧y.length=4∧z.length=4) (fun(k,x,y,z)=>256-k) ((0,a,zax,zax)) (⟨uf _,rfl,ha,rfl,rfl⟩) ?_;intro⟨k,x,y,z⟩ hinv;dsimp only at hinv;refine qaK ?_;refine qa1 ?_;refine Cf (p:=k<256) (fun ht18=>?_) (fun ht18=>?_)
 ·
  obtain⟨X,hX⟩:∃X,X=dvX (x,y,z):=⟨_,rfl⟩;have hXl:X.length=4:=by rw[hX];exact dvX_len hinv.2.2.2.2
  refine CSQBQR ?_;refine qcS ?_;refine A0 (oCl (zcR z z) rfl zjI yf) ?_;refine qcl ?_;refine qcH ?_;refine A0 (zs (i:=3) rfl rfl rfl yh zaO ya) ?_;refine A0 (zl rfl rfl rfl (Lens.elem (i:=3) ya u64T) zaQ) ?_;refine qbP ?_;refine zk (p:=9223372036854775808≤(x.getD 3 default).toNat) rfl (by rw[uo];show(9223372036854775808:Int)≤((x.getD 3 default).toNat:Int)↔_;omega) (fun ht29=>?_) (fun ht29=>?_)
  ·
   refine CR ?_;refine qav ?_;refine CNQ ?_;refine zJ (n:=6) (y:=X) rfl (by rw[hX];unfold dvX;first|(rw[ut ht29];rfl)|(rw[ur ht29])) ?_;refine CR ?_;refine qcS ?_;refine A0 (oCl (zcR x x) rfl zjI yf) ?_;refine qaM ?_;refine qag ?_;refine CNQR ?_;refine qcS ?_;refine A0 (oCl (zcR y y) rfl zjI yf) ?_;refine qaM ?_;refine qag ?_;refine CNQR ?_;refine qay ?_;refine qag ?_;refine qbX ?_;refine A0 oN ?_;refine qa9 ?_;refine zad (d:=49) (p:=zf5 z z=false) rfl (by cases zf5 z z<;>rfl) (fun g49=>?_) (fun g49=>?_)
   ·
    refine qac ?_;refine qaZ ?_;refine Ct ?_;refine CQR ?_;refine qcS ?_;refine A0 (oCl (zkC X b) rfl zss yf) ?_;refine qaM ?_;refine qag ?_;refine CNR ?_;refine qav ?_;refine qb3 ?_;refine zJ (n:=4) (y:=incW (addW y y)) rfl rfl ?_;exact Nx ((k+1,addW x x,incW (addW y y),subW X b)) yD yaD
   refine A1 (oLs rfl rfl rfl zV) ?_;refine A1 (oLs rfl rfl rfl zV) ?_;refine A1 (oCl (ziI _ _) rfl fn_51 yf) ?_;refine A1 zec ?_;refine qar ?_;refine Cf (p:=0≤cmpW X b) (fun ht54=>?_) (fun ht54=>?_)
   ·
    refine CQR ?_;refine qcS ?_;refine A0 (oCl (zkC X b) rfl zss yf) ?_;refine qaM ?_;refine qag ?_;refine CNR ?_;refine qav ?_;refine qb3 ?_;refine zJ (n:=4) (y:=incW (addW y y)) rfl rfl ?_;exact Nx ((k+1,addW x x,incW (addW y y),subW X b)) yD yaD
   refine qbZ ?_;exact Nx ((k+1,addW x x,addW y y,X)) yD yaD
  refine CS ?_;refine CQ ?_;refine zJ (n:=6) (y:=X) rfl (by rw[hX];unfold dvX;first|(rw[ut ht29];rfl)|(rw[ur ht29])) ?_;refine CR ?_;refine qcS ?_;refine A0 (oCl (zcR x x) rfl zjI yf) ?_;refine qaM ?_;refine qag ?_;refine CNQR ?_;refine qcS ?_;refine A0 (oCl (zcR y y) rfl zjI yf) ?_;refine qaM ?_;refine qag ?_;refine CNQR ?_;refine qay ?_;refine qag ?_;refine qbX ?_;refine A0 oN ?_;refine qa9 ?_;refine zad (d:=49) (p:=zf5 z z=false) rfl (by cases zf5 z z<;>rfl) (fun g49=>?_) (fun g49=>?_)
  ·
   refine qac ?_;refine qaZ ?_;refine Ct ?_;refine CQR ?_;refine qcS ?_;refine A0 (oCl (zkC X b) rfl zss yf) ?_;refine qaM ?_;refine qag ?_;refine CNR ?_;refine qav ?_;refine qb3 ?_;refine zJ (n:=4) (y:=incW (addW y y)) rfl rfl ?_;exact Nx ((k+1,addW x x,incW (addW y y),subW X b)) yD yaD
  refine A1 (oLs rfl rfl rfl zV) ?_;refine A1 (oLs rfl rfl rfl zV) ?_;refine A1 (oCl (ziI _ _) rfl fn_51 yf) ?_;refine A1 zec ?_;refine qar ?_;refine Cf (p:=0≤cmpW X b) (fun ht54=>?_) (fun ht54=>?_)
  ·
   refine CQR ?_;refine qcS ?_;refine A0 (oCl (zkC X b) rfl zss yf) ?_;refine qaM ?_;refine qag ?_;refine CNR ?_;refine qav ?_;refine qb3 ?_;refine zJ (n:=4) (y:=incW (addW y y)) rfl rfl ?_;exact Nx ((k+1,addW x x,incW (addW y y),subW X b)) yD yaD
  refine qbZ ?_;exact Nx ((k+1,addW x x,addW y y,X)) yD yaD
 refine CE ?_;refine CQ ?_;refine zn [some 1,some 1000001,none,none,some 1] mixed yc ?_;refine qcm ?_;refine XK.gf (t:=8) rfl rfl (fun _ he=>zl rfl rfl he (Lens.self _) zV) ⟨hpB rfl rfl,trivial⟩ rfl rfl rfl ?_;refine XK.e (x:=.idk) (fun fr' hfr kk H=>by exact zg rfl rfl rfl ((hfr 4 yc).trans rfl) rfl (Lens.self _) zV ((hfr 65 yc).trans rfl) (zp H)) ?_;refine XK.e (x:=.idk) (fun fr' hfr kk H=>by exact zg rfl rfl rfl ((hfr 5 yc).trans rfl) rfl (Lens.self _) zV ((hfr 66 yc).trans rfl) (zp H)) ?_;refine X0 aV ?_;refine xP ?_;exact zkU rfl rfl (zC rfl rfl zV (by rw[←(dv_all ha hb ht14).1,show 256=k by omega,hinv.2.1])) (zC rfl rfl zV (by rw[←(dv_all ha hb ht14).2,show 256=k by omega,hinv.2.1])) (zX (zb rfl (by unfold divOk;symm;exact ui ht14)))
theorem rworkW_ok (t:Wide):Tells P 135 [.val zL t] (.val zL (zkn t)):=by
 refine zc Tryz.func135 rfl rfl rfl (fun ext w hext=>?_);refine ze (d:=0) rfl zaC (fun ha=>?_);refine qaf ?_;refine qau ?_;refine CNQR ?_;refine A0 (zgq (T:=u64T) (xs:=[_,_,_,_]) rfl zaO zf7 yaK rfl) ?_;refine qau ?_;refine qag ?_;refine CNQ ?_;refine xy ?_;refine XK.gf (t:=1) rfl rfl (fun _ he=>zl rfl rfl he (Lens.self _) zV) ⟨hpB rfl rfl,trivial⟩ rfl rfl rfl ?_;refine XK.ga (fun _=>zb7 (zjv 1) rfl znt ye rfl) rfl rfl rfl ?_;refine XK.ga (fun _=>zb7 (zcR t (ofW 1)) rfl zjI yf rfl) rfl rfl rfl ?_;refine xw ?_;refine xx ?_;refine xq ?_;refine XK.e (fun fr' hfr kk H=>by exact zP zf7 rfl rfl rfl rfl (zp H)) ?_;refine XK.e (x:=.idk) (fun fr' hfr kk H=>by exact zg rfl rfl rfl ((hfr 4 yc).trans rfl) rfl (Lens.self _) zV ((hfr 16 yc).trans rfl) (zp H)) ?_;refine X0 aV ?_;refine xP ?_;refine qaK ?_;refine qaQ ?_;refine zk (p:=¬zf5 t (ofW 1)=true) rfl (by cases zf5 t (ofW 1)<;>rfl) (fun ht19=>?_) (fun ht19=>?_)
 ·
  refine CQR ?_;refine A0 (oCl (zjv 1) rfl znt ye) ?_;refine qag ?_;refine CN ?_;exact zq rfl rfl rfl rfl zV (by unfold zkn;rw[ur ht19])
 refine CSQR ?_;refine qcS ?_;refine A0 (oCl (rdivW_ok allW (addW t (ofW 1))) rfl fn_181 yf) ?_;refine qaM ?_;refine A0 e32 ?_;refine qau ?_;refine qau ?_;refine qag ?_;refine qag ?_;refine qaJ ?_;refine xy ?_;refine XK.gf (t:=7) rfl rfl (fun _ he=>zl rfl rfl he (Lens.self _) zV) ⟨hpB rfl rfl,trivial⟩ rfl rfl rfl ?_;refine XK.ga (fun _=>zb7 (zjv 1) rfl znt ye rfl) rfl rfl rfl ?_;refine XK.ga (fun _=>zb7 (zcR (remW allW (addW t (ofW 1))) (ofW 1)) rfl zjI yf rfl) rfl rfl rfl ?_;refine xw ?_;refine xx ?_;refine xq ?_;refine XK.e (fun fr' hfr kk H=>by exact zP zf7 rfl rfl rfl rfl (zp H)) ?_;refine XK.e (x:=.idk) (fun fr' hfr kk H=>by exact zg rfl rfl rfl ((hfr 9 yc).trans rfl) rfl (Lens.self _) zV ((hfr 32 yc).trans rfl) (zp H)) ?_;refine X0 aV ?_;refine xP ?_;refine CQQR ?_;refine qcS ?_;refine A0 (zfY rfl rfl rfl (zsH)) ?_;refine CN ?_;refine zk (p:=addW (remW allW (addW t (ofW 1))) (ofW 1)=addW t (ofW 1)) rfl yx (fun ht36=>?_) (fun ht36=>?_)
 ·
  refine zn [some 1,some 1,some 1,some 1,some 1,some 1000001,none] mixed yc ?_;refine qcm ?_;refine X0 (oCl (zjv 1) rfl znt ye) ?_;refine X0 (oCl (zcR (divW allW (addW t (ofW 1))) (ofW 1)) rfl zjI yf) ?_;refine qc0 ?_;refine xq ?_;refine XK.e (x:=.idk) (fun fr' hfr kk H=>by exact zg rfl rfl rfl ((hfr 6 yc).trans rfl) rfl (Lens.self _) zV ((hfr 41 yc).trans rfl) (zp H)) ?_;refine xc ?_;refine qbs ?_;exact zq rfl rfl rfl rfl zV ((zrO ha (ua ht19)).1 ht36)
 refine CSQR ?_;refine qay ?_;refine qag ?_;refine CN ?_;exact zq rfl rfl rfl rfl zV ((zrO ha (ua ht19)).2 ht36)
theorem zj3 (h:Head):Tells P 87 [.val zbU h] (.val zL (zcF h)):=by
 refine zc Tryz.func87 rfl rfl rfl (fun ext w hext=>?_);refine qaf ?_;refine qau ?_;refine CNQR ?_;refine A0 (oFp zcf) ?_;refine A0 (oLb zan zaY) ?_;refine A0 (oCl (zjr h.bits) rfl fn_124 ye) ?_;refine qcl ?_;refine qah ?_;refine qaQ ?_;refine zk (p:=¬zay h.bits=true) rfl ybA (fun ht12=>?_) (fun ht12=>?_)
 ·
  refine qaL ?_;refine CN ?_;exact zq rfl rfl rfl rfl zV (by unfold zcF;rw[ur ht12]<;>rfl)
 refine CSQR ?_;refine qay ?_;refine A0 (oCl (rworkW_ok (tgtW h.bits)) rfl fn_135 ye) ?_;refine qag ?_;refine CN ?_;exact zq rfl rfl rfl rfl zV (by unfold zcF;rw[ut (ua ht12)])
set_option maxRecDepth 20000
theorem rpush_prev {h w:Head}:zdn h=zdn w↔h.height=w.height∧h.prev=w.prev∧h.bits=w.bits:=by
  unfold zdn
  constructor
  · intro e
    injection e with e1 e2 e3 e4 e5 e6 e7 e8;exact⟨e1,e2,e7⟩
  rintro ⟨e1,e2,e3⟩
  rw[e1,e2,e3]
theorem rpush_root {t:Tip} {b:Block} (h1:b.h.height=(za5 t b.t b.h.nonce).height∧b.h.prev=(za5 t b.t b.h.nonce).prev∧b.h.bits=(za5 t b.t b.h.nonce).bits) (h2:b.h.links=(za5 t b.t b.h.nonce).links) :
    b.h=za5 t b.t b.h.nonce↔b.h.txs=(za5 t b.t b.h.nonce).txs∧b.h.past=(za5 t b.t b.h.nonce).past∧b.h.work=(za5 t b.t b.h.nonce).work:=by
  obtain⟨w,hw⟩:∃w,w=za5 t b.t b.h.nonce:=⟨_,rfl⟩;have hn:b.h.nonce=w.nonce:=by rw[hw];rfl
  rw[←hw] at h1 h2 ⊢;obtain⟨e1,e2,e3⟩:=h1
  constructor
  · intro e;rw[e];exact⟨rfl,rfl,rfl⟩
  rintro ⟨f1,f2,f3⟩
  generalize b.h=x at *;cases x;cases w;simp only at *;subst e1 e2 e3 h2 f1 f2 f3 hn;rfl
theorem zbl {t:Tip} {b:Block} {w:Head} (hw:w=za5 t b.t b.h.nonce):zbw t b =
    if 48≤b.h.height then 3 else if ¬(b.h.height=w.height∧b.h.prev=w.prev∧b.h.bits=w.bits) then 5 else
    if ¬b.h.links=w.links∨¬b.l=zdE t then 6 else if ¬(b.h.txs=w.txs∧b.h.past=w.past∧b.h.work=w.work) then 7 else
    if ¬zcd b.h=true then 4 else (zw t.c b.t).2:=by
  subst hw;unfold zbw;simp only[rpush_prev];by_cases h1:48≤b.h.height
  · rw[ut h1,ut h1]
  rw[ur h1,ur h1];by_cases h2:b.h.height=(za5 t b.t b.h.nonce).height∧b.h.prev=(za5 t b.t b.h.nonce).prev∧b.h.bits=(za5 t b.t b.h.nonce).bits
  · have h2':¬¬(b.h.height=(za5 t b.t b.h.nonce).height∧b.h.prev=(za5 t b.t b.h.nonce).prev∧b.h.bits=(za5 t b.t b.h.nonce).bits):=fun h=>h h2
    rw[ur h2',ur h2'];by_cases h3:¬b.h.links=(za5 t b.t b.h.nonce).links∨¬b.l=zdE t
    · rw[ut h3,ut h3]
    rw[ur h3,ur h3];have h3':b.h.links=(za5 t b.t b.h.nonce).links:=ua fun h=>h3 (.inl h)
    simp only[rpush_root h2 h3']
  rw[ut h2,ut h2]
theorem zcK {t:Tip} {b:Block} {e:Int} (h:zbw t b=e) (he:e≠0):t=zfR t b:=by unfold zfR;rw[h,ur he]
theorem rpush_ok0 {t:Tip} {b:Block} (h:zbw t b=0):(⟨b,zbx t.p (zgW b.h),(zw t.c b.t).1⟩:Tip)=zfR t b:=by unfold zfR;rw[ut h]
theorem zpr (h:Head):Tells P 129 [.val zbU h] (.val zao (zgW h)):=by
 refine zc Tryz.func129 rfl rfl rfl (fun ext w hext=>?_);refine qaf ?_;refine qbI ?_;refine CNQ ?_;refine zn [some 1,some 1,some 1,some 1,some 1,none] mixed yc ?_;refine xE ?_;refine X0 (oCl (zdq h) rfl zpY ye) ?_;refine xE ?_;refine X0 (oCl (zj3 h) rfl fn_87 ye) ?_;refine X0 (oCl (rmleaf_ok (zR h) (zcF h)) rfl fn_171 yf) ?_;refine XK.e (x:=.idk) (fun fr' hfr kk H=>by exact zg rfl rfl rfl ((hfr 2 yc).trans rfl) rfl (Lens.self _) zaV ((hfr 7 yc).trans rfl) (zp H)) ?_;refine xc ?_;exact zq rfl rfl rfl rfl zaV (rfl)
theorem zj4 (bits:UInt32):Tells P 79 [.val u32T bits] (.tup2 (.val tipT (zaw bits)) (.val zu (zay bits))):=by
 refine zc Tryz.func79 rfl rfl rfl (fun ext w hext=>?_);refine CQR ?_;refine xd ?_;refine qaS ?_;refine A0 (oCl (zjr bits) rfl fn_124 ye) ?_;refine qcl ?_;refine qah ?_;refine qaQ ?_;refine zk (p:=¬zay bits=true) rfl ya7 (fun ht13=>?_) (fun ht13=>?_)
 ·
  refine CQR ?_;refine xF ?_;refine qap ?_;refine qad ?_;exact zx rfl rfl (zC rfl rfl zaP (by unfold zaw;rw[ur ht13])) (zX (zb rfl (by simpa using ht13)))
 refine CSQR ?_;refine A0 (oCl (zj2 [] yp) rfl fn_125 ybD) ?_;refine A0 (oCl (zm8 [] yp) rfl fn_126 ybD) ?_;refine A0 (oCl (zlm [] yp) rfl fn_127 ybD) ?_;refine A0 (g_field rfl rfl zdg zcy zT) ?_;refine qa9 ?_;refine A0 (z7 rfl ze_33 bd_33 (.cons zes zbb zT rfl (.cons zfH zcX zT rfl (.cons zfG zcr zT rfl (.cons zcf zan zaY rfl .nil)))) rfl) ?_;refine qcR ?_;refine qb8 ?_;refine CNQ ?_;refine xg ?_;refine xE ?_;refine X0 (z7 rfl zje bd_37 (.cons zah zE za4 rfl .nil) rfl) ?_;refine xE ?_;refine X0 (oCl (zpr (zhT bits)) rfl fn_129 ye) ?_;refine X0 (oCl (ziE [] (zgW (zhT bits)) yp) rfl fn_128 ybF) ?_;refine X0 (z7 rfl zep zi6 (.cons zdU zbL zbg rfl (.cons zfD zfK zko rfl .nil)) rfl) ?_;refine XK.e (x:=.idk) (fun fr' hfr kk H=>by exact zg rfl rfl rfl ((hfr 2 yc).trans rfl) rfl (Lens.self _) zaP ((hfr 26 yc).trans rfl) (zp H)) ?_;refine X0 aV ?_;refine xc ?_;exact zx rfl rfl (zC rfl rfl zaP (by unfold zaw;rw[ut (ua ht13)];rfl)) (zX (zb rfl ((ua ht13).symm)))
theorem zna (t:Tip):Tells P 131 [.val tipT t] (.fresh 27 idT (zdE t)):=by
 refine zc Tryz.func131 rfl rfl rfl (fun ext w hext=>?_);refine qbO ?_;refine CNQ ?_;refine zn [some 1,some 1,some 1,some 1,some 1,some 1,some 1,some 1,some 1,some 1,some 1,none,some 1] mixed yc ?_;refine X0 (oFp zdU) ?_;refine X0 (oFp zcD) ?_;refine X0 (oLb (zbL.comp zb1) zf8) ?_;refine qbM ?_;refine X0 (oLb (zbL.comp zE) za4) ?_;refine X0 (oCl (zdq t.b.h) rfl zpY ye) ?_;refine qbM ?_;refine X0 (oLb (zbL.comp zE) za4) ?_;refine X0 (oCl (ziF t.b.h) rfl fn_173 ye) ?_;refine XK.e (fun fr' hfr kk H=>by exact zam (zpq t.b.l (zR t.b.h) (zaL t.b.h)) rfl fn_172 ⟨(zd ((hfr 5 yc).trans rfl)),(zd ((hfr 9 yc).trans rfl)),(zd ((hfr 13 yc).trans rfl)),trivial⟩ rfl rfl rfl (zp H)) ?_;refine X0 aO ?_;refine xc ?_;exact za rfl rfl (zf rfl rfl rfl)
theorem rnextH_ok (t:Tip) (l:List Tx) (nonce:UInt64) (hl:l.length≤4000000000000) (hp:t.p.length≤1000000):Tells P 130 [.val tipT t,.val (bsl txT) l,.val u64T nonce] (.val zbU (za5 t l nonce)):=by
 have hlk:(zdE t).length≤64:=zka;refine zc Tryz.func130 rfl rfl rfl (fun ext w hext=>?_);refine ze (d:=1) rfl zm (fun hsl1=>?_);refine qaf ?_;refine qcR ?_;refine CNQR ?_;refine A0 (oFp zfD) ?_;refine A0 (oLb zfK zko) ?_;refine A0 (oCl (zlm t.p hp) rfl fn_127 ye) ?_;refine qbI ?_;refine qaV ?_;refine CNQ ?_;refine zn [some 1,some 1,some 1,some 1,some 1,some 1,some 1,some 1,some 1,some 1,some 1,some 1,some 1,some 1,some 1,some 1,some 1,some 1,some 1,some 1,some 1,some 1,some 1,some 1,none] mixed yc ?_;refine qbM ?_;refine X0 (oFp zdm) ?_;refine X0 (oLb ((zbL.comp zE).comp zat) ty_3) ?_;refine X0 zbh ?_;refine qbM ?_;refine X0 (oLb (zbL.comp zE) za4) ?_;refine X0 (oCl (zdq t.b.h) rfl zpY ye) ?_;refine X0 (oLs rfl rfl rfl zaP) ?_;refine X0 (oCl (zF (zna t)) rfl fn_131 ye) ?_;refine X0 (oCl (zj2 (zdE t) ya) rfl fn_125 ye) ?_;refine X0 mV ?_;refine X0 (oCl (zm8 l hl) rfl fn_126 ye) ?_;refine X0 (oFp zdg) ?_;refine X0 (oLb zcy zT) ?_;refine X0 (oFp zgt) ?_;refine X0 (oLb zfg zV) ?_;refine qbM ?_;refine X0 (oFp zcf) ?_;refine X0 (oLb ((zbL.comp zE).comp zan) zaY) ?_;refine X0 mV ?_;refine X0 (z7 rfl ze_33 bd_33 (.cons zdm zat ty_3 rfl (.cons zet zbz zT rfl (.cons zes zbb zT rfl (.cons zfH zcX zT rfl (.cons zfG zcr zT rfl (.cons zfF zcq zV rfl (.cons zcf zan zaY rfl (.cons zfE zb0 zaQ rfl .nil)))))))) rfl) ?_;refine XK.e (x:=.idk) (fun fr' hfr kk H=>by exact zg rfl rfl rfl ((hfr 6 yc).trans rfl) rfl (Lens.self _) za4 ((hfr 34 yc).trans rfl) (zp H)) ?_;refine xc ?_;exact zq rfl rfl rfl rfl za4 (rfl)
theorem rpush_ok (t:Tip) (b:Block) (hbt:b.t.length≤4000000000000) (htp:t.p.length≤1000000):Tells P 80 [.val tipT t,.val zt b] (.tup2 (.val tipT (zfR t b)) (.val i64T (zbw t b))):=by
 obtain⟨q,hw⟩:∃q,q=za5 t b.t b.h.nonce:=⟨_,rfl⟩;have hN:=rnextH_ok t b.t b.h.nonce hbt htp;rw[←hw] at hN;refine zc Tryz.func80 rfl rfl rfl (fun ext w hext=>?_);refine qaw ?_;refine xd ?_;refine qaj ?_;refine xb ?_;refine qcE ?_;refine A0 (oFp zah) ?_;refine A0 (oFp zfE) ?_;refine A0 (oLb (zE.comp zb0) zaQ) ?_;refine A0 (oCl (hN) rfl fn_130 ybv) ?_;refine qcR ?_;refine qb8 ?_;refine CNQQR ?_;refine A0 (oFp zah) ?_;refine A0 (oFp zdm) ?_;refine A0 (oLb (zE.comp zat) ty_3) ?_;refine qbP ?_;refine zk (p:=48≤b.h.height) rfl yF (fun ht21=>?_) (fun ht21=>?_)
 ·
  refine qaU ?_;exact zx rfl rfl (zC rfl rfl zaP (zcK (e:=3) (by rw[zbl hw,ut ht21]) yp)) (zX (zb rfl (Eq.symm (a:=zbw t b) (by rw[zbl hw,ut ht21]))))
 refine CSQQR ?_;refine A0 (oFp zah) ?_;refine A0 (oFp zdm) ?_;refine A0 (oLb (zE.comp zat) ty_3) ?_;refine qbN ?_;refine A0 zeb ?_;refine qa9 ?_;refine zad (d:=29) (p:=¬b.h.height=q.height) rfl yF (fun g29=>?_) (fun g29=>?_)
 ·
  refine qcT ?_;refine qbH ?_;refine qac ?_;refine qar ?_;refine Ct ?_;refine qaU ?_;exact zx rfl rfl (zC rfl rfl zaP (zcK (e:=5) (by rw[zbl hw,ur ht21,ut (fun h=>g29 h.1)]) yp)) (zX (zb rfl (Eq.symm (a:=zbw t b) (by rw[zbl hw,ur ht21,ut (fun h=>g29 h.1)]))))
 refine A1 (oFp zah) ?_;refine A1 (oFp zet) ?_;refine A1 (oLb (zE.comp zbz) zT) ?_;refine A1 (oFp zet) ?_;refine A1 (oLb zbz zT) ?_;refine A1 (zfs rfl rfl rfl (zdw)) ?_;refine qat ?_;refine zad (d:=37) (p:=¬b.h.prev=q.prev) rfl yx (fun g37=>?_) (fun g37=>?_)
 ·
  refine qcT ?_;refine qar ?_;refine Ct ?_;refine qaU ?_;exact zx rfl rfl (zC rfl rfl zaP (zcK (e:=5) (by rw[zbl hw,ur ht21,ut (fun h=>g37 h.2.1)]) yp)) (zX (zb rfl (Eq.symm (a:=zbw t b) (by rw[zbl hw,ur ht21,ut (fun h=>g37 h.2.1)]))))
 refine A1 (oFp zah) ?_;refine A1 (oFp zcf) ?_;refine A1 (oLb (zE.comp zan) zaY) ?_;refine A1 (oFp zcf) ?_;refine A1 (oLb zan zaY) ?_;refine A1 zeb ?_;refine qar ?_;refine zk (p:=¬b.h.bits=q.bits) rfl (by have e:IntL.toI u32T b.h.bits=IntL.toI u32T q.bits↔b.h.bits=q.bits:=⟨fun h=>UInt32.toNat_inj.1 (Int.ofNat_inj.1 h),fun h=>by rw[h]⟩;simp[e]) (fun ht44=>?_) (fun ht44=>?_)
 ·
  refine qaU ?_;exact zx rfl rfl (zC rfl rfl zaP (zcK (e:=5) (by rw[zbl hw,ur ht21,ut (fun h=>ht44 h.2.2)]) yp)) (zX (zb rfl (Eq.symm (a:=zbw t b) (by rw[zbl hw,ur ht21,ut (fun h=>ht44 h.2.2)]))))
 refine CS ?_;refine qaH ?_;refine G0 (oFp zcD) ?_;refine G0 (oLb zb1 zf8) ?_;refine G0 (oLs rfl rfl rfl zaP) ?_;refine G0 (oCl (zF (zna t)) rfl fn_131 ye) ?_;refine G0 (oCl (zpu b.l (zdE t)) rfl fn_81 yf) ?_;refine qa6 ?_;refine qaK ?_;refine A0 oN ?_;refine qa9 ?_;refine zad (d:=53) (p:=¬b.l=zdE t) rfl yx (fun g53=>?_) (fun g53=>?_)
 ·
  refine qcT ?_;refine qar ?_;refine Ct ?_;refine qaU ?_;exact zx rfl rfl (zC rfl rfl zaP (zcK (e:=6) ybr yp)) (zX (zb rfl (Eq.symm (a:=zbw t b) ybr)))
 refine A1 (oFp zah) ?_;refine A1 (oFp zes) ?_;refine A1 (oLb (zE.comp zbb) zT) ?_;refine A1 (oFp zes) ?_;refine A1 (oLb zbb zT) ?_;refine A1 (zfs rfl rfl rfl (zdw)) ?_;refine qar ?_;refine zk (p:=¬b.h.links=q.links) rfl yx (fun ht60=>?_) (fun ht60=>?_)
 ·
  refine qaU ?_;exact zx rfl rfl (zC rfl rfl zaP (zcK (e:=6) ybo yp)) (zX (zb rfl (Eq.symm (a:=zbw t b) ybo)))
 refine CSQQR ?_;refine A0 (oFp zah) ?_;refine A0 (oFp zfH) ?_;refine A0 (oLb (zE.comp zcX) zT) ?_;refine A0 (oFp zfH) ?_;refine A0 (oLb zcX zT) ?_;refine A0 (zfs rfl rfl rfl (zdw)) ?_;refine qa9 ?_;refine zad (d:=68) (p:=¬b.h.txs=q.txs) rfl yx (fun g68=>?_) (fun g68=>?_)
 ·
  refine qcT ?_;refine qbH ?_;refine qac ?_;refine qar ?_;refine Ct ?_;refine qaU ?_;exact zx rfl rfl (zC rfl rfl zaP (zcK (e:=7) ya1 yp)) (zX (zb rfl (Eq.symm (a:=zbw t b) ya1)))
 refine A1 (oFp zah) ?_;refine A1 (oFp zfG) ?_;refine A1 (oLb (zE.comp zcr) zT) ?_;refine A1 (oFp zfG) ?_;refine A1 (oLb zcr zT) ?_;refine A1 (zfs rfl rfl rfl (zdw)) ?_;refine qat ?_;refine zad (d:=76) (p:=¬b.h.past=q.past) rfl yx (fun g76=>?_) (fun g76=>?_)
 ·
  refine qcT ?_;refine qar ?_;refine Ct ?_;refine qaU ?_;exact zx rfl rfl (zC rfl rfl zaP (zcK (e:=7) yaX yp)) (zX (zb rfl (Eq.symm (a:=zbw t b) yaX)))
 refine A1 (oFp zah) ?_;refine A1 (oFp zfF) ?_;refine A1 (oLb (zE.comp zcq) zV) ?_;refine A1 (oFp zfF) ?_;refine A1 (oLb zcq zV) ?_;refine A1 (zfs rfl rfl rfl (zsH)) ?_;refine qar ?_;refine zk (p:=¬b.h.work=q.work) rfl yx (fun ht83=>?_) (fun ht83=>?_)
 ·
  refine qaU ?_;exact zx rfl rfl (zC rfl rfl zaP (zcK (e:=7) yaU yp)) (zX (zb rfl (Eq.symm (a:=zbw t b) yaU)))
 refine CSQR ?_;refine A0 (oFp zah) ?_;refine A0 (oLb zE za4) ?_;refine A0 (oCl (zqN b.h) rfl fn_132 ye) ?_;refine qah ?_;refine qaQ ?_;refine zk (p:=¬zcd b.h=true) rfl (by cases zcd b.h<;>rfl) (fun ht89=>?_) (fun ht89=>?_)
 ·
  refine qaU ?_;exact zx rfl rfl (zC rfl rfl zaP (zcK (e:=4) yaA yp)) (zX (zb rfl (Eq.symm (a:=zbw t b) yaA)))
 refine CSQR ?_;refine A0 (oFp zjL) ?_;refine A0 (oLb zjU zir) ?_;refine qcE ?_;refine A0 (oCl (rapply_ok t.c b.t) rfl fn_133 yf) ?_;refine qaM ?_;refine A0 aV ?_;refine qah ?_;refine qaT ?_;refine zk (p:=¬(zw t.c b.t).2=0) rfl yF (fun ht100=>?_) (fun ht100=>?_)
 ·
  refine CQR ?_;refine xb ?_;refine qa9 ?_;refine qap ?_;refine qad ?_;exact zx rfl rfl (zC rfl rfl zaP (zcK (e:=(zw t.c b.t).2) yaB ht100)) (zX (zb rfl (Eq.symm (a:=zbw t b) yaB)))
 refine CS ?_;refine CQ ?_;refine zn [some 1,some 1,some 1,some 1,some 1,some 1,some 1,some 1,some 1,none,some 1] mixed yc ?_;refine X0 (oLs rfl rfl rfl zbg) ?_;refine X0 (oFp zfD) ?_;refine X0 (oLb zfK zko) ?_;refine X0 (oFp zah) ?_;refine X0 (oLb zE za4) ?_;refine X0 (oCl (zpr b.h) rfl fn_129 ye) ?_;refine X0 (oCl (ziE t.p (zgW b.h) htp) rfl fn_128 yf) ?_;refine X0 mV ?_;refine X0 (z7 rfl zep zi6 (.cons zdU zbL zbg rfl (.cons zfD zfK zko rfl (.cons zjL zjU zir rfl .nil))) rfl) ?_;refine XK.e (x:=.idk) (fun fr' hfr kk H=>by exact zg rfl rfl rfl ((hfr 4 yc).trans rfl) rfl (Lens.self _) zaP ((hfr 111 yc).trans rfl) (zp H)) ?_;refine X0 aV ?_;refine xc ?_;exact zx rfl rfl (zC rfl rfl zaP (rpush_ok0 yay)) (zX (zb rfl (Eq.symm (a:=zbw t b) yay)))
theorem zlr (l:List Block) (hl:zeW l):Tells P 41 [.val (bsl zt) l] (.tup2 (.val tipT (zQ l).1) (.val i64T (zQ l).2)):=by
 have hll:=hl.1;refine zc Tryz.func41 rfl rfl rfl (fun ext w hext=>?_);refine ze (d:=0) rfl zm (fun hsl0=>?_);refine CQR ?_;refine xd ?_;refine qah ?_;refine qbf ?_;refine qcC ?_;refine Cf (p:=l.length=0) (fun ht12=>?_) (fun ht12=>?_)
 ·
  refine CQR ?_;refine xF ?_;refine qap ?_;refine qad ?_;exact zx rfl rfl (zC rfl rfl zaP (by rw[zgz ht12])) (zX (zb rfl (by rw[zgz ht12])))
 obtain⟨g,hg⟩:∃g,l[0]?=some g:=yq;refine qbL ?_;refine A0 (zD (i:=0) rfl rfl rfl ya zbS yj) ?_;refine A0 (oFr zah zE) ?_;refine A0 (oFr zcf zan) ?_;refine A0 (zh rfl rfl zaY) ?_;refine A0 (oCl (zj4 g.h.bits) rfl fn_79 ybD) ?_;refine qbE ?_;refine qb5 ?_;refine G0 (oFp zdU) ?_;refine G0 (oLb zbL zbg) ?_;refine G0 mV ?_;refine G0 (zD (i:=0) rfl rfl rfl ya zbS yj) ?_;refine G0 (zh rfl rfl zbg) ?_;refine G0 (oCl (refB_ok (zaw g.h.bits).b g) rfl fn_44 ybG) ?_;refine qa6 ?_;refine qaK ?_;refine A0 oN ?_;refine qa9 ?_;refine zad (d:=31) (p:=¬zay g.h.bits=true) rfl (by cases zay g.h.bits<;>rfl) (fun g31=>?_) (fun g31=>?_)
 ·
  refine qc1 ?_;refine Ct ?_;refine CQR ?_;refine xF ?_;refine qap ?_;refine qad ?_;exact zx rfl rfl (zC rfl rfl zaP (by rw[zbX hg fun h=>g31 h.1])) (zX (zb rfl (by rw[zbX hg fun h=>g31 h.1])))
 refine A1 mV ?_;refine A1 oN ?_;refine qar ?_;refine zk (p:=¬(zaw g.h.bits).b=g) rfl yx (fun ht34=>?_) (fun ht34=>?_)
 ·
  refine CQR ?_;refine xF ?_;refine qap ?_;refine qad ?_;exact zx rfl rfl (zC rfl rfl zaP (by rw[zbX hg fun h=>ht34 h.2])) (zX (zb rfl (by rw[zbX hg fun h=>ht34 h.2])))
 refine CSQQR ?_;refine qcn ?_;refine Lp (ι:=Nat×Tip) 2 (fun (i:Nat×Tip)=>match i with|(k,t)=>((((Fr.none).set 0 (.val (bsl zt) l)).set 2 (.ptr 0 0)).set 4 (.ptr 1 0)).set 7 (.val i64T ((k+1:Nat):Int))) (fun (i:Nat×Tip)=>match i with|(k,t)=>((Hp.none).set 0 (.box 56 tipT zTip)).set 1 (.box 56 tipT t)) (fun (i:Nat×Tip)=>match i with|(k,t)=>k+1≤l.length∧zmY t k∧zQ l=zaD t ((l.drop 1).drop k)) (fun (i:Nat×Tip)=>match i with|(k,t)=>l.length-k) ((0,zaw g.h.bits)) (⟨by omega,zih,zi2 hg (ua g31) (ua ht34)⟩) ?_;intro⟨k,t⟩ hin;dsimp only at hin;refine qb9 ?_;refine qbf ?_;refine qa1 ?_;refine Cf (p:=k+1<l.length) (fun ht39=>?_) (fun ht39=>?_)
 ·
  have hb0:∃b,l[k+1]?=some b:=⟨_,ub ht39⟩;obtain⟨b,hb0⟩:=hb0;have hb:(l.drop 1)[k]?=some b:=by rw[List.getElem?_drop,Nat.add_comm];exact hb0
  have hbm:=hl.2 b (ud hb0);have hbt:=hbm.2.1;have hpl:=hin.2.1.2.1;have hpl2:=hin.2.1.1.2.1;refine qaD ?_;refine CQ ?_;refine zn [some 1000001,some 1000001,some 1000001,some 1000001,some 1000001,some 1000001,some 1000001,some 1000001,some 1000001,none,none,some 1] mixed yc ?_;refine XK.gf (t:=4) rfl rfl (fun _ he=>zl rfl rfl he (Lens.self _) zaP) ⟨rfl,trivial⟩ rfl rfl rfl ?_;refine XK.ga (fun _=>g_mv (.inl rfl) rfl) rfl rfl rfl ?_;refine XK.ga (fun _=>g_mv (.inl rfl) rfl) rfl rfl rfl ?_;refine XK.ga (fun _=>zD (i:=k+1) rfl rfl rfl ya zbS yj) rfl rfl rfl ?_;refine XK.ga (fun _=>zh rfl rfl zbg) rfl rfl rfl ?_;refine XK.ga (fun _=>zb7 (rpush_ok t b ya ya) rfl fn_80 ybG rfl) rfl rfl rfl ?_;refine xw ?_;refine xx ?_;refine xq ?_;refine XK.e (fun fr' hfr kk H=>by exact zP zep rfl rfl rfl rfl (zp H)) ?_;refine XK.e (x:=.idk) (fun fr' hfr kk H=>by exact zg rfl rfl rfl ((hfr 8 yc).trans rfl) rfl (Lens.self _) zaP ((hfr 49 yc).trans rfl) (zp H)) ?_;refine X0 aV ?_;refine XK.nilp ⟨yz,trivial⟩ ?_;refine qaK ?_;refine qaT ?_;refine zk (p:=¬zbw t b=0) rfl yF (fun ht52=>?_) (fun ht52=>?_)
  ·
   refine CQR ?_;refine xF ?_;refine qa9 ?_;refine qap ?_;refine qad ?_;exact zx rfl rfl (zC rfl rfl zaP (by rw[hin.2.2,zhy hb ht52])) (zX (zb rfl (by rw[hin.2.2,zhy hb ht52])))
  refine CS ?_;refine CR ?_;refine xb ?_;refine qap ?_;refine qb3 ?_;exact Nx ((k+1,zfR t b)) (⟨by omega,zh7 hin.2.1 ya hbm (ua ht52),hin.2.2.trans (znG hb (ua ht52))⟩) yaf
 refine CE ?_;refine qaU ?_;exact zx rfl rfl (zC rfl rfl zaP (by rw[hin.2.2,zi1 (by rw[List.length_drop];omega)])) (zX (zb rfl (by rw[hin.2.2,zi1 (by rw[List.length_drop];omega)])))
theorem rnewC_ok (bits:UInt32):Tells P 43 [.val u32T bits] (.tup2 (.val (sl zt) (zkt bits)) (.val zu (zay bits))):=by
 refine zc Tryz.func43 rfl rfl rfl (fun ext w hext=>?_);refine qaB ?_;refine qaS ?_;refine A0 (oCl (zj4 bits) rfl fn_79 ye) ?_;refine qbE ?_;refine qah ?_;refine qaQ ?_;refine zk (p:=¬zay bits=true) rfl ya7 (fun ht12=>?_) (fun ht12=>?_)
 ·
  refine qaB ?_;refine qad ?_;exact zac rfl rfl (by unfold zkt;rw[ur ht12];exact ze1 rfl) (zb rfl (by simpa using ht12))
 refine CSQR ?_;refine A0 (oFp zdU) ?_;refine A0 (oLb zbL zbg) ?_;refine qbv ?_;refine qb6 ?_;exact zac rfl rfl (zb rfl (by unfold zkt;rw[ut (ua ht12)])) (zb rfl (ua ht12).symm)
theorem zpo (l m:List Block):Tells P 17 [.val (bsl zt) l,.val (bsl zt) m] (.val zu (decide (l=m))):=by
 refine zc Tryz.func17 rfl rfl rfl (fun ext w hext=>?_);refine ze (d:=0) rfl zm (fun hsl0=>?_);refine ze (d:=1) rfl zm (fun hsl1=>?_);refine qcJ ?_;refine qbf ?_;refine qa9 ?_;refine qbf ?_;refine qaT ?_;refine zk (p:=¬l.length=m.length) rfl yaq (fun ht11=>?_) (fun ht11=>?_)
 ·
  refine qaq ?_;exact za rfl rfl (zb rfl (uh (fun e=>ht11 ybh)).symm)
 refine CSQQR ?_;refine qcn ?_;refine Lp (ι:=Nat) 0 (fun (k:Nat)=>(((Fr.none).set 0 (.val (bsl zt) l)).set 1 (.val (bsl zt) m)).set 5 (.val i64T (k:Int))) (fun (k:Nat)=>Hp.none) (fun (k:Nat)=>k≤l.length∧l.take k=m.take k) (fun (k:Nat)=>l.length-k) (0) (⟨uf _,rfl⟩) ?_;intro k hinv;refine qb9 ?_;refine qbf ?_;refine qa1 ?_;refine Cf (p:=k<l.length) (fun ht15=>?_) (fun ht15=>?_)
 ·
  obtain⟨x,hx⟩:∃x,l[k]?=some x:=⟨_,ub ht15⟩;obtain⟨y,hy⟩:∃y,m[k]?=some y:=yq;refine qcK ?_;refine qbk ?_;refine G0 (zD (i:=k) rfl rfl rfl ya zbS yj) ?_;refine G0 (zh rfl rfl zbg) ?_;refine qbk ?_;refine G0 (zD (i:=k) rfl rfl rfl ya zbS yj) ?_;refine G0 (zh rfl rfl zbg) ?_;refine G0 (oCl (refB_ok x y) rfl fn_44 ⟨yb,yb,trivial⟩) ?_;refine qa6 ?_;refine qa0 ?_;refine qaQ ?_;refine zk (p:=¬x=y) rfl yx (fun ht28=>?_) (fun ht28=>?_)
  ·
   refine qaq ?_;exact za rfl rfl (zb rfl (uh (zde hx hy ht28)).symm)
  refine qbZ ?_;exact Nx (k+1) (⟨by omega,zaX hx hy hinv.2 (ua ht28)⟩) ya
 refine qcc ?_;exact za rfl rfl (zb rfl (ui yH).symm)
def Leafs (l:List Total):Prop:=∀x∈l,x.n=1∧x.w.length=4
theorem Leafs.take {l:List Total} {k:Nat} (h:Leafs l):Leafs (l.take k):=fun x hx=>h x (List.mem_of_mem_take hx)
theorem Leafs.drop {l:List Total} {k:Nat} (h:Leafs l):Leafs (l.drop k):=fun x hx=>h x (List.mem_of_mem_drop hx)
def parS (s:Store) (i:Nat):Int:=s.par.getD i 0
def blkS (s:Store) (i:Nat):Block:=s.b.getD i default
def zlv (p:List Int) (i:Nat):List Nat:=if _h:0≤p.getD i 0∧p.getD i 0<(i:Int) then zlv p (p.getD i 0).toNat++[i] else [i]
termination_by i
decreasing_by omega
def zaT (s:Store) (i:Nat):List Block:=(zlv s.par i).map (blkS s)
def zcN (s:Store) (i:Int):List Block:=if ¬s.b.length=s.par.length∨i<0∨(s.b.length:Int)≤i then [] else zaT s i.toNat
theorem zgk {p:List Int} {i:Nat} (h:0≤p.getD i 0∧p.getD i 0<(i:Int)):zlv p i=zlv p (p.getD i 0).toNat++[i]:=by rw[zlv,dif_pos h]
theorem zbq {p:List Int} {i:Nat} (h:¬(0≤p.getD i 0∧p.getD i 0<(i:Int))):zlv p i=[i]:=by rw[zlv,dif_neg h]
theorem path_le (p:List Int):∀(s i:Nat),i≤s→∀j∈zlv p i,j≤i:=by
  intro s
  induction s with
  | zero =>
    intro i hi j hj;rw[zbq ya] at hj;rw[List.mem_singleton.1 hj];exact ug _
  | succ s ih =>
    intro i hi j hj;by_cases c:0≤p.getD i 0∧p.getD i 0<(i:Int)
    · rw[zgk c] at hj
      rcases List.mem_append.1 hj with hj|hj
      · have:=ih (p.getD i 0).toNat ya j hj;omega
      rw[List.mem_singleton.1 hj];exact ug _
    rw[zbq c] at hj;rw[List.mem_singleton.1 hj];exact ug _
theorem path_more (p:List Int) (x:Int):∀(s i:Nat),i≤s→i<p.length→zlv (p++[x]) i=zlv p i:=by
  intro s
  induction s with
  | zero =>
    intro i hi hl;have e:(p++[x]).getD i 0=p.getD i 0:=by rw[uq,uq,List.getElem?_append_left hl]
    rw[zbq (by rw[e];omega),zbq ya]
  | succ s ih =>
    intro i hi hl;have e:(p++[x]).getD i 0=p.getD i 0:=by rw[uq,uq,List.getElem?_append_left hl]
    by_cases c:0≤p.getD i 0∧p.getD i 0<(i:Int)
    · rw[zgk (by rw[e];exact c),zgk c,e,ih _ ya ya]
    rw[zbq (by rw[e];exact c),zbq c]
structure MayS (s:Store):Prop where
  n1:0<s.b.length
  n2:s.b.length≤40
  pl:s.par.length=s.b.length
  p0:s.par[0]?=some (-1)
  id:∀i j,i<j→j<s.b.length→¬zR (blkS s i).h=zR (blkS s j).h
  par:∀i,0<i→i<s.b.length→0≤parS s i∧parS s i<i
  ok:∀i,i<s.b.length→(zQ (zaT s i)).2=0
def okS (s:Store) (i:Nat):Bool:=(List.range i).all (fun j=>!decide (zR (blkS s j).h=zR (blkS s i).h))&&(decide (i=0)||decide (0≤parS s i∧parS s i<(i:Int)))&&decide ((zQ (zaT s i)).2=0)
def mayS (s:Store):Bool:=decide (0<s.b.length∧s.b.length≤40∧s.par.length=s.b.length∧s.par[0]?=some (-1))&&(List.range s.b.length).all (okS s)
theorem zoe {s:Store}:mayS s=true↔MayS s:=by
  unfold mayS okS;simp only[uk,Bool.or_eq_true,uj,List.all_eq_true,List.mem_range,Bool.not_eq_true',decide_eq_false_iff_not]
  constructor
  · rintro ⟨⟨h1,h2,h3,h4⟩,h5⟩
    exact⟨h1,h2,h3,h4,fun i j hij hj=>(h5 j hj).1.1 i hij,fun i h0 hi=>(h5 i hi).1.2.resolve_left ya,fun i hi=>(h5 i hi).2⟩
  intro h;exact⟨⟨h.n1,h.n2,h.pl,h.p0⟩,fun i hi=>⟨⟨fun j hj=>h.id j i hj hi,(Nat.eq_zero_or_pos i).imp id fun h0=>h.par i h0 hi⟩,h.ok i hi⟩⟩
section
variable {s:Store}
theorem znH {i:Nat} (hi:i<s.b.length):s.b[i]?=some (blkS s i):=by unfold blkS;rw[uq,ub hi];rfl
def putE (s:Store) (b:Block):Int :=
  if ¬mayS s=true then 1
  else if ¬zY s.b (zR b.h) = -1 then 10
  else if zY s.b b.h.prev = -1 then 9
  else if s.b.length=40 then 11
  else (zQ (zcN s (zY s.b b.h.prev)++[b])).2
def putS (s:Store) (b:Block):Store:=if putE s b=0 then ⟨s.b++[b],s.par++[zY s.b b.h.prev]⟩ else s
theorem put_ok_ {b:Block} (h:putE s b=0):MayS s∧zY s.b (zR b.h) = -1∧∃p:Nat,zY s.b b.h.prev=(p:Int)∧p<s.b.length∧s.b.length<40∧(zQ (zaT s p++[b])).2=0∧putS s b=⟨s.b++[b],s.par++[(p:Int)]⟩:=by
  have h':=h;unfold putE at h;by_cases a:mayS s=true
  · rw[ur (fun c=>c a)] at h
    by_cases c:zY s.b (zR b.h) = -1
    · rw[ur (fun d=>d c)] at h
      by_cases d:zY s.b b.h.prev = -1
      · rw[ut d] at h;cases h
      rw[ur d] at h;by_cases e:s.b.length=40
      · rw[ut e] at h;cases h
      rw[ur e] at h;have hm:=zoe.1 a;have h0:0≤zY s.b b.h.prev:=by have:=zgZ (fun c:Block=>decide (zR c.h=b.h.prev)) s.b;unfold zY at d ⊢;omega
      obtain⟨x,hx,_⟩:=zht h0;have hxl:=(ul.1 hx).1;have hn2:=hm.n2;refine⟨hm,c,(zY s.b b.h.prev).toNat,(Int.toNat_of_nonneg h0).symm,hxl,by omega,?_,?_⟩
      · unfold zcN at h
        rw[ur (by rw[hm.pl];unfold zY at *;omega)] at h;exact h
      unfold putS;rw[ut h',Int.toNat_of_nonneg h0]
    rw[ut c] at h;cases h
  rw[ut a] at h;cases h
end
section
variable {s:Store} {b:Block}
theorem zsD {l:List Block} {id:Ab.Id} (h:zY l id = -1) {i:Nat} (hi:i<l.length):¬zR (l.getD i default).h=id:=fun e=>by
  unfold zY at h;have hx:l[i]?=some (l.getD i default):=by rw[uq,ub hi];rfl
  have:=zkM (p:=fun c:Block=>decide (zR c.h=id)) ya _ (ud hx)
  simp at this;exact this e
theorem zkJ (x:Int) {i:Nat} (hi:i<s.b.length):blkS ⟨s.b++[b],s.par++[x]⟩ i=blkS s i:=by
  unfold blkS;rw[uq,uq,List.getElem?_append_left hi]
theorem zly (x:Int):blkS ⟨s.b++[b],s.par++[x]⟩ s.b.length=b:=by
  unfold blkS;rw[uq,List.getElem?_append_right (ug _)];simp
theorem more_par (h:MayS s) (x:Int) {i:Nat} (hi:i<s.b.length):parS ⟨s.b++[b],s.par++[x]⟩ i=parS s i:=by
  unfold parS;rw[uq,uq,List.getElem?_append_left (by rw[h.pl];exact hi)]
theorem zpE (h:MayS s) (x:Int):parS ⟨s.b++[b],s.par++[x]⟩ s.b.length=x:=by
  unfold parS;rw[uq,List.getElem?_append_right (by rw[h.pl];exact ug _),h.pl];simp
theorem zpF (h:MayS s) (x:Int) {i:Nat} (hi:i<s.b.length):zaT ⟨s.b++[b],s.par++[x]⟩ i=zaT s i:=by
  unfold zaT;rw[show(⟨s.b++[b],s.par++[x]⟩:Store).par=s.par++[x] from rfl,path_more s.par x i i (ug _) (by rw[h.pl];exact hi)];refine List.map_congr_left fun j hj=>zkJ x ?_
  have:=path_le s.par i i (ug _) j hj
  omega
theorem more_linel (h:MayS s) {p:Nat} (hp:p<s.b.length):zaT ⟨s.b++[b],s.par++[(p:Int)]⟩ s.b.length=zaT s p++[b]:=by
  have e:(s.par++[(p:Int)]).getD s.b.length 0=(p:Int):=zpE (b:=b) h (p:Int);have hl:=zpF (b:=b) h (p:Int) hp;unfold zaT at hl ⊢;rw[show(⟨s.b++[b],s.par++[(p:Int)]⟩:Store).par=s.par++[(p:Int)] from rfl] at hl ⊢;rw[zgk (by rw[e];omega),e,List.map_append,show((p:Int)).toNat=p by omega,hl];show _++[blkS _ s.b.length]=_;rw[zly]
theorem put_may (h:putE s b=0):MayS (putS s b):=by
  obtain⟨hm,hf,p,hp,hpl,hlt,hc,e⟩:=put_ok_ h;rw[e];have hn:(⟨s.b++[b],s.par++[(p:Int)]⟩:Store).b.length=s.b.length+1:=by show(s.b++[b]).length=_;rw[ue];rfl
  refine⟨by rw[hn];omega,by rw[hn];omega,?_,?_,fun i j hij hj=>?_,fun i h0 hi=>?_,fun i hi=>?_⟩
  · show(s.par++[(p:Int)]).length=(s.b++[b]).length
    rw[ue,ue,hm.pl];rfl
  · show(s.par++[(p:Int)])[0]?=_
    rw[List.getElem?_append_left (by rw[hm.pl];exact hm.n1)];exact hm.p0
  · rw[hn] at hj
    by_cases c:j=s.b.length
    · rw[c,zly,zkJ _ ya]
      exact zsD hf ya
    rw[zkJ _ ya,zkJ _ ya];exact hm.id i j hij ya
  · rw[hn] at hi
    by_cases c:i=s.b.length
    · rw[c,zpE hm];omega
    rw[more_par hm _ ya];exact hm.par i h0 ya
  rw[hn] at hi;by_cases c:i=s.b.length
  · rw[c,more_linel hm hpl];exact hc
  rw[zpF hm _ ya];exact hm.ok i ya
theorem put_twice (h:putE s b=0):putE (putS s b) b=10:=by
  have hm:=put_may h;obtain⟨_,_,p,_,_,_,_,e⟩:=put_ok_ h;unfold putE;rw[ur (fun c=>c (zoe.2 hm)),ut];rw[e];intro c
  have:=zsD c (i:=s.b.length) (by show s.b.length<(s.b++[b]).length;rw[ue,List.length_singleton];omega)
  exact this (congrArg (fun x:Block=>zR x.h) (zly (s:=s) (b:=b) (p:Int)))
theorem zhP (h:¬putE s b=0):putS s b=s:=by unfold putS;rw[ur h]
end
section
variable {α:Type} [Inhabited α] (less:α→α→Bool)
def atH (l:List α) (i:Nat):α:=l.getD i default
def zc0 (l:List α) (i j:Nat):List α:=(l.set i (atH l j)).set j (atH l i)
def upH (j:Nat) (l:List α):List α :=
  if _h:0<j then (if less (atH l j) (atH l ((j-1)/2))=true then upH ((j-1)/2) (zc0 l ((j-1)/2) j) else l) else l
termination_by j
decreasing_by omega
def childH (n i:Nat) (l:List α):Nat:=if 2*i+2<n∧less (atH l (2*i+2)) (atH l (2*i+1))=true then 2*i+2 else 2*i+1
theorem zoI (n i:Nat) (l:List α):childH less n i l=2*i+2∨childH less n i l=2*i+1:=by
  unfold childH
  split
  · exact .inl rfl
  exact .inr rfl
def zgx (n i:Nat) (l:List α):List α :=
  if _h:2*i+1<n then (if less (atH l (childH less n i l)) (atH l i)=true then zgx n (childH less n i l) (zc0 l i (childH less n i l)) else l) else l
termination_by n-i
decreasing_by
  have:=zoI less n i l
  omega
def ziJ (l:List α) (x:α):List α:=upH less l.length (l++[x])
def popH (l:List α):α×List α:=(atH (zgx less (l.length-1) 0 (zc0 l 0 (l.length-1))) (l.length-1),(zgx less (l.length-1) 0 (zc0 l 0 (l.length-1))).take (l.length-1))
theorem zdb (l:List α) (i j:Nat):(zc0 l i j).length=l.length:=by unfold zc0;rw[List.length_set,List.length_set]
theorem zqF {l:List α} {i j:Nat} (hi:i<l.length) (hj:j<l.length) (k:Nat):atH (zc0 l i j) k=if k=j then atH l i else if k=i then atH l j else atH l k:=by
  unfold zc0;generalize hx:atH l i=x;generalize hy:atH l j=y;unfold atH;rw[uq,uq,List.getElem?_set,List.length_set,List.getElem?_set];by_cases c:j=k
  · subst c;simp[hj]
  have c':¬k=j:=fun e=>c e.symm
  by_cases d:i=k
  · subst d;simp[c,c',hi]
  have d':¬k=i:=fun e=>d e.symm
  simp[c,c',d,d']
theorem zaE {l:List α} {i:Nat} {x:α} (h:l[i]?=some x):atH l i=x:=by
  unfold atH;rw[uq,h];rfl
theorem zk9 {l:List α} {i j:Nat} (hi:i<l.length) (hj:j<l.length):(zc0 l i j).Perm l:=by
  have ei:atH l i=l[i]:=zaE (ub hi);have ej:atH l j=l[j]:=zaE (ub hj);unfold zc0;rw[ei,ej];exact List.set_set_perm hi hj
def zeC (n:Nat) (l:List α):Prop:=∀k,0<k→k<n→less (atH l k) (atH l ((k-1)/2))=false
structure Ordered (less:α→α→Bool):Prop where
  tr:∀{a b c},less b a=false→less c b=false→less c a=false
  asy:∀{a b},less a b=true→less b a=false
variable {less}
def HeapUp (less:α→α→Bool) (n j:Nat) (l:List α):Prop:=(∀k,0<k→k<n→k≠j→less (atH l k) (atH l ((k-1)/2))=false)∧∀k,0<j→0<k→k<n→(k-1)/2=j→less (atH l k) (atH l ((j-1)/2))=false
theorem up_ok_ (o:Ordered less) (n:Nat):∀(s j:Nat) (l:List α),j≤s→j<n→n≤l.length→HeapUp less n j l→zeC less n (upH less j l)∧(upH less j l).Perm l
  | s,j,l,hs,hj,hn,⟨h1,h2⟩=>by
    unfold upH;by_cases c:0<j
    · rw[dif_pos c]
      by_cases d:less (atH l j) (atH l ((j-1)/2))=true
      · rw[ut d]
        obtain⟨p,hp⟩:∃p,p=(j-1)/2:=⟨_,rfl⟩;rw[←hp] at d ⊢;have hpj:p<j:=ya;have ha:=zqF (l:=l) (i:=p) (j:=j) ya ya
        match s,hs with
        | 0,hs=>omega
        | s+1,hs =>
          obtain⟨g1,g2⟩:=up_ok_ o n s p (zc0 l p j) ya ya (by rw[zdb];exact hn) ⟨fun k k0 kn kp=>by
            rw[ha,ha];by_cases e:k=j
            · rw[ut e,e,←hp,ur ya,ut rfl]
              exact o.asy d
            · rw[ur e,ur kp]
              by_cases f:(k-1)/2=j
              · rw[ut f]
                have:=h2 k c k0 kn f
                rw[←hp] at this;exact this
              rw[ur f];by_cases q:(k-1)/2=p
              · rw[ut q]
                have:=h1 k k0 kn e
                rw[q] at this;exact o.tr (o.asy d) this
              rw[ur q];exact h1 k k0 kn e,fun k p0 k0 kn kp=>by
            rw[ha,ha];have hpp:(p-1)/2≠j:=ya;have hpq:(p-1)/2≠p:=ya;rw[ur hpp,ur hpq];have hpar:=h1 p p0 ya ya;by_cases e:k=j
            · rw[ut e];exact hpar
            rw[ur e,ur ya]
            have:=h1 k k0 kn e
            rw[kp] at this;exact o.tr hpar this⟩
          exact⟨g1,g2.trans (zk9 ya ya)⟩
      rw[ur d];exact⟨fun k k0 kn=>by
        by_cases e:k=j
        · rw[e];exact Bool.eq_false_iff.2 d
        exact h1 k k0 kn e,List.Perm.refl _⟩
    rw[dif_neg c];exact⟨fun k k0 kn=>h1 k k0 kn ya,List.Perm.refl _⟩
theorem zpy (o:Ordered less) {l:List α} (h:zeC less l.length l) (x:α):zeC less (l.length+1) (ziJ less l x)∧(ziJ less l x).Perm (l++[x]):=by
  have ha:∀k,k<l.length→atH (l++[x]) k=atH l k:=fun k hk=>by
    unfold atH;rw[uq,uq,List.getElem?_append_left hk]
  exact up_ok_ o (l.length+1) l.length l.length (l++[x]) (ug _) ya yx ⟨fun k k0 kn kl=>by
    rw[ha k ya,ha _ ya];exact h k k0 ya,fun k _ _ _ _=>by omega⟩
def HeapDown (less:α→α→Bool) (n i:Nat) (l:List α):Prop:=(∀k,0<k→k<n→(k-1)/2≠i→less (atH l k) (atH l ((k-1)/2))=false)∧∀k,0<i→0<k→k<n→(k-1)/2=i→less (atH l k) (atH l ((i-1)/2))=false
theorem zsL (o:Ordered less) (n:Nat):∀(s i:Nat) (l:List α),n≤i+s→n≤l.length→HeapDown less n i l→zeC less n (zgx less n i l)∧(zgx less n i l).Perm l∧(∀k,n≤k→atH (zgx less n i l) k=atH l k)
  | s,i,l,hs,hn,⟨h1,h2⟩=>by
    unfold zgx;by_cases c:2*i+1<n
    · rw[dif_pos c]
      obtain⟨j,hj⟩:∃j,j=childH less n i l:=⟨_,rfl⟩;have hjo:=zoI less n i l;rw[←hj] at hjo ⊢;have hjn:j<n:=by
        rw[hj];unfold childH
        split
        · rename_i e;exact e.1
        exact c
      have hmin:∀k,0<k→k<n→(k-1)/2=i→less (atH l k) (atH l j)=false:=fun k k0 kn kp=>by
        have hk:k=2*i+1∨k=2*i+2:=ya;have irr:∀a,less a a=false:=fun a=>by
          cases e:less a a
          · rfl
          have:=o.asy e;rw[e] at this;cases this
        have ej:j=childH less n i l:=hj;unfold childH at ej
        split at ej
        · rename_i e
          rcases hk with hk|hk
          · rw[hk,ej];exact o.asy e.2
          rw[hk,ej];exact irr _
        rename_i e;rcases hk with hk|hk
        · rw[hk,ej];exact irr _
        rw[hk,ej];exact Bool.eq_false_iff.2 fun q=>e ⟨by omega,q⟩
      by_cases d:less (atH l j) (atH l i)=true
      · rw[ut d]
        have ha:=zqF (l:=l) (i:=i) (j:=j) ya ya
        match s,hs with
        | 0,hs=>omega
        | s+1,hs =>
          obtain⟨g1,g2,g3⟩:=zsL o n s j (zc0 l i j) ya (by rw[zdb];exact hn) ⟨fun k k0 kn kp=>by
            rw[ha,ha,ur kp];by_cases e:k=j
            · rw[ut e,ut ya];exact o.asy d
            · rw[ur e]
              by_cases f:k=i
              · rw[ut f,ur ya]
                have:=h2 j ya ya hjn ya
                rw[f];exact this
              rw[ur f];by_cases q:(k-1)/2=i
              · rw[ut q];exact hmin k k0 kn q
              rw[ur q];exact h1 k k0 kn q,fun k _ k0 kn kp=>by
            rw[ha,ha,ur ya,ur ya,ur ya,ut ya]
            have:=h1 k k0 kn ya
            rw[kp] at this;exact this⟩
          refine⟨g1,g2.trans (zk9 ya ya),fun k hk=>?_⟩;rw[g3 k hk,ha,ur ya,ur ya]
      rw[ur d];have d:=Bool.eq_false_iff.2 d;exact⟨fun k k0 kn=>by
        by_cases e:(k-1)/2=i
        · rw[e];exact o.tr d (hmin k k0 kn e)
        exact h1 k k0 kn e,List.Perm.refl _,fun _ _=>rfl⟩
    rw[dif_neg c];exact⟨fun k k0 kn=>h1 k k0 kn ya,List.Perm.refl _,fun _ _=>rfl⟩
theorem heap_least (o:Ordered less) {n:Nat} {l:List α} (h:zeC less n l) (irr:∀a,less a a=false):∀k,k<n→less (atH l k) (atH l 0)=false:=by
  intro k
  induction k using Nat.strongRecOn with
  | ind k ih =>
    intro hk;by_cases c:0<k
    · exact o.tr (ih ((k-1)/2) ya ya) (h k c hk)
    rw[show k=0 by omega];exact irr _
theorem zrZ (o:Ordered less) (irr:∀a,less a a=false) {l:List α} (h:zeC less l.length l) (hl:0<l.length) :
    (popH less l).1=atH l 0∧zeC less (l.length-1) (popH less l).2∧((popH less l).2++[(popH less l).1]).Perm l∧(popH less l).2.length=l.length-1∧∀y∈(popH less l).2,less y (popH less l).1=false:=by
  obtain⟨n,hn⟩:∃n,n=l.length-1:=⟨_,rfl⟩;have ha:=zqF (l:=l) (i:=0) (j:=n) ya ya;obtain⟨g1,g2,g3⟩:=zsL o n n 0 (zc0 l 0 n) ya (by rw[zdb];omega) ⟨fun k k0 kn kp=>by
    rw[ha,ha,ur ya,ur ya,ur ya,ur ya];exact h k k0 ya,fun k h0=>by omega⟩
  obtain⟨D,hD⟩:∃D,D=zgx less n 0 (zc0 l 0 n):=⟨_,rfl⟩;rw[←hD] at g1 g2 g3;have hlen:D.length=n+1:=by rw[g2.length_eq,zdb];omega
  have hv:(popH less l).1=atH D n:=by unfold popH;rw[←hn,←hD]
  have hr:(popH less l).2=D.take n:=by unfold popH;rw[←hn,←hD]
  have h0:atH D n=atH l 0:=by rw[g3 n (ug _),ha,ut rfl]
  have hp:(D.take n++[atH D n]).Perm l:=by
    have e:D.take n++[atH D n]=D:=by
      have hx:D[n]?=some D[n]:=ub ya;have e2:D.take (n+1)=D.take n++[D[n]]:=by rw[un,hx];rfl
      rw[zaE hx,←e2,uc ya]
    rw[e];exact g2.trans (zk9 ya ya)
  rw[hv,hr,←hn];refine⟨h0,fun k k0 kn=>?_,hp,by rw[um];omega,fun y hy=>?_⟩
  · have e : ∀ i, i < n → atH (D.take n) i = atH D i := fun i hi => by
      unfold atH;rw[uq,uq,List.getElem?_take,ut hi]
    rw[e k kn,e _ ya];exact g1 k k0 kn
  have hm:y∈l:=hp.subset (List.mem_append_left _ hy);obtain⟨k,hk⟩:=List.getElem?_of_mem hm;have hkl:=(ul.1 hk).1
  have:=heap_least o h irr k hkl
  rw[zaE hk] at this;rw[h0];exact this
variable (less) in
def zhM (L:List α):List α:=L.foldl (ziJ less) []
variable (less) in
def zfa:Nat→List α→List α
  | 0,_=>[]
  | n+1,l=>(popH less l).1::zfa n (popH less l).2
theorem fill_snoc (L:List α) (x:α):zhM less (L++[x])=ziJ less (zhM less L) x:=by unfold zhM;rw[List.foldl_append];rfl
theorem push_len (l:List α) (x:α) (o:Ordered less) (h:zeC less l.length l):(ziJ less l x).length=l.length+1:=by
  rw[(zpy o h x).2.length_eq,ue];rfl
theorem zns (o:Ordered less):∀(L l:List α),zeC less l.length l→zeC less (L.foldl (ziJ less) l).length (L.foldl (ziJ less) l)∧(L.foldl (ziJ less) l).Perm (l++L)
  | [],l,h=>⟨h,by rw[List.append_nil];exact List.Perm.refl _⟩
  | x::L,l,h=>by
    have h1:=zpy o h x;have h2:=push_len l x o h;obtain⟨g1,g2⟩:=zns o L (ziJ less l x) (by rw[h2];exact h1.1);refine⟨g1,g2.trans ?_⟩
    have:=h1.2.append_right L
    rw[List.append_assoc] at this;exact this
theorem ziW (o:Ordered less) (L:List α):zeC less (zhM less L).length (zhM less L)∧(zhM less L).Perm L:=by
  have:=zns o L [] (fun k _ h=>by cases h)
  rw[List.nil_append] at this;exact this
theorem zoA (o:Ordered less) (irr:∀a,less a a=false):∀(n:Nat) (l:List α),l.length=n→zeC less n l→(zfa less n l).Perm l∧(zfa less n l).Pairwise fun a b=>less b a=false
  | 0,l,hl,_=>by
    have:l=[]:=List.length_eq_zero_iff.1 hl
    rw[this];exact⟨List.Perm.refl _,List.Pairwise.nil⟩
  | n+1,l,hl,h=>by
    obtain⟨g1,g2,g3,g4,g5⟩:=zrZ o irr (by rw[hl];exact h) ya;rw[hl] at g2 g4;obtain⟨k1,k2⟩:=zoA o irr n (popH less l).2 ya g2;refine⟨?_,?_⟩
    · show((popH less l).1::zfa less n (popH less l).2).Perm l
      exact((k1.cons _).trans (List.perm_append_singleton _ _).symm).trans g3
    exact List.Pairwise.cons (fun y hy=>g5 y (k1.subset hy)) k2
end
set_option maxRecDepth 20000
def keyW (a:Wide):Nat:=nW [a.getD 0 default,a.getD 1 default,a.getD 2 default,a.getD 3 default]
theorem zsN (a b:Wide):cmpW a b=if keyW a<keyW b then -1 else if keyW b<keyW a then 1 else 0:=by
  have:=zmi (a:=[a.getD 0 default,a.getD 1 default,a.getD 2 default,a.getD 3 default]) (b:=[b.getD 0 default,b.getD 1 default,b.getD 2 default,b.getD 3 default]) rfl rfl
  exact this
def lessS (x y:STip):Bool:=decide (0<cmpW x.work y.work)||(decide (cmpW x.work y.work=0)&&decide (x.at_<y.at_))
theorem zpK {x y:STip}:lessS x y=true↔keyW y.work<keyW x.work∨(keyW x.work=keyW y.work∧x.at_<y.at_):=by
  unfold lessS;rw[Bool.or_eq_true,uk,uj,uj,uj,zsN];by_cases a:keyW x.work<keyW y.work
  · rw[ut a];omega
  rw[ur a];by_cases b:keyW y.work<keyW x.work
  · rw[ut b];omega
  rw[ur b];omega
theorem zgU {x y:STip}:lessS x y=false↔¬(keyW y.work<keyW x.work∨(keyW x.work=keyW y.work∧x.at_<y.at_)):=by
  rw[←zpK,Bool.not_eq_true]
theorem zcn:Ordered lessS:=⟨fun {a b c} h1 h2=>by rw[zgU] at *;omega,fun {a b} h=>by rw[zpK] at h;rw[zgU];omega⟩
theorem zlJ (a:STip):lessS a a=false:=by rw[zgU];omega
def zbJ (s:Store) (i:Nat):Wide:=addW (blkS s i).h.work (zcF (blkS s i).h)
def tipB (s:Store) (i:Nat):Bool:=!decide ((i:Int)∈s.par)
def zjj (s:Store) (i:Nat):STip:=⟨(i:Int),zbJ s i⟩
def zc1 (s:Store):List STip:=((List.range s.b.length).filter (tipB s)).map (zjj s)
def zd6 (s:Store):List Int:=if mayS s=true then (zfa lessS (zhM lessS (zc1 s)).length (zhM lessS (zc1 s))).map (·.at_) else []
def zmM (s:Store):Int:=match zd6 s with
  | []=>-1
  | x::_=>x
section
variable {s:Store}
theorem tip_iff {i:Nat}:tipB s i=true↔¬(i:Int)∈s.par:=by unfold tipB;simp
theorem raw_mem {x:STip}:x∈zc1 s↔∃i,i<s.b.length∧tipB s i=true∧x=zjj s i:=by
  unfold zc1;rw[List.mem_map]
  constructor
  · rintro ⟨i,hi,rfl⟩
    rw[List.mem_filter,List.mem_range] at hi;exact⟨i,hi.1,hi.2,rfl⟩
  rintro ⟨i,h1,h2,rfl⟩
  exact⟨i,List.mem_filter.2 ⟨List.mem_range.2 h1,h2⟩,rfl⟩
end
def insS (s:Store) (i:Nat) (out:List Nat):List Nat:=out.takeWhile (fun j=>decide (0≤cmpW (zbJ s j) (zbJ s i)))++i::out.dropWhile (fun j=>decide (0≤cmpW (zbJ s j) (zbJ s i)))
def zby (s:Store) (n:Nat):List Nat:=((List.range n).filter (tipB s)).foldl (fun out i=>insS s i out) []
theorem zq9 {s:Store} {n:Nat} (h:tipB s n=true):zby s (n+1)=insS s n (zby s n):=by
  unfold zby;rw[List.range_succ,List.filter_append,List.foldl_append]
  have:[n].filter (tipB s)=[n]:=by simp[h]
  rw[this];rfl
theorem doc_no {s:Store} {n:Nat} (h:¬tipB s n=true):zby s (n+1)=zby s n:=by
  unfold zby;rw[List.range_succ,List.filter_append,List.foldl_append]
  have:[n].filter (tipB s)=[]:=by simp[h]
  rw[this];rfl
theorem zsm (s:Store) (i:Nat) (out:List Nat):(insS s i out).Perm (i::out):=by
  unfold insS;refine List.perm_middle.trans ?_;rw[List.takeWhile_append_dropWhile]
theorem zhx (s:Store):∀n,(zby s n).Perm ((List.range n).filter (tipB s))
  | 0=>List.Perm.refl _
  | n+1=>by
    rw[List.range_succ,List.filter_append];by_cases c:tipB s n=true
    · rw[zq9 c,show [n].filter (tipB s)=[n] by simp[c]]
      exact((zsm s n _).trans ((zhx s n).cons n)).trans (List.perm_append_singleton n _).symm
    rw[doc_no c,show [n].filter (tipB s)=[] by simp[c],List.append_nil];exact zhx s n
def ahead (s:Store) (i j:Nat):Prop:=lessS (zjj s j) (zjj s i)=false
theorem zmy {s:Store} {i j:Nat}:ahead s i j↔¬(keyW (zbJ s i)<keyW (zbJ s j)∨(keyW (zbJ s j)=keyW (zbJ s i)∧(j:Int)<(i:Int))):=zgU
theorem cmp_ge {s:Store} {i j:Nat}:decide (0≤cmpW (zbJ s j) (zbJ s i))=true↔keyW (zbJ s i)≤keyW (zbJ s j):=by
  rw[uj,zsN];by_cases a:keyW (zbJ s j)<keyW (zbJ s i)
  · rw[ut a];omega
  rw[ur a];by_cases b:keyW (zbJ s i)<keyW (zbJ s j)
  · rw[ut b];omega
  rw[ur b];omega
theorem ins_order {s:Store} {i:Nat} {out:List Nat} (ho:out.Pairwise (ahead s)) (hi:∀j∈out,j<i):(insS s i out).Pairwise (ahead s):=by
  induction out with
  | nil=>exact List.pairwise_singleton ..
  | cons j r ih =>
    rw[List.pairwise_cons] at ho;have ih:=ih ho.2 (fun k hk=>hi k (List.mem_cons_of_mem _ hk));have hji:=hi j (List.mem_cons_self ..);by_cases c:decide (0≤cmpW (zbJ s j) (zbJ s i))=true
    · have e : insS s i (j :: r) = j :: insS s i r := by
        unfold insS;rw[List.takeWhile_cons,ut c,List.dropWhile_cons,ut c];rfl
      rw[e];refine List.Pairwise.cons (fun k hk=>?_) ih;rcases List.mem_cons.1 ((zsm s i r).subset hk) with q|q
      · rw[q,zmy]
        have:=cmp_ge.1 c
        omega
      exact ho.1 k q
    have e : insS s i (j :: r) = i :: j :: r := by
      unfold insS;rw[List.takeWhile_cons,ur c,List.dropWhile_cons,ur c];rfl
    rw[e];have c:¬keyW (zbJ s i)≤keyW (zbJ s j):=fun q=>c (cmp_ge.2 q)
    refine List.Pairwise.cons (fun k hk=>?_) (List.pairwise_cons.2 ho);rcases List.mem_cons.1 hk with q|q
    · rw[q,zmy];omega
    have:=ho.1 k q
    rw[zmy] at this ⊢;omega
theorem zme (s:Store):∀n,(zby s n).Pairwise (ahead s)
  | 0=>List.Pairwise.nil
  | n+1=>by
    by_cases c:tipB s n=true
    · rw[zq9 c]
      refine ins_order (zme s n) fun j hj=>?_
      have:=(zhx s n).subset hj
      rw[List.mem_filter,List.mem_range] at this;exact this.1
    rw[doc_no c];exact zme s n
theorem doc_tips {s:Store} (h:mayS s=true):(zby s s.b.length).map (fun i:Nat=>(i:Int))=zd6 s:=by
  obtain⟨f1,f2⟩:=ziW zcn (zc1 s);obtain⟨d1,d2⟩:=zoA zcn zlJ _ _ rfl f1;obtain⟨D,hD⟩:∃D,D=zfa lessS (zhM lessS (zc1 s)).length (zhM lessS (zc1 s)):=⟨_,rfl⟩;unfold zd6;rw[ut h];rw[←hD] at d1 d2 ⊢;have e:(zby s s.b.length).map (zjj s)=D:=by
    have hp:((zby s s.b.length).map (zjj s)).Perm D:=((zhx s _).map (zjj s)).trans (d1.trans f2).symm;refine hp.eq_of_pairwise (le:=fun a b=>lessS b a=false) (fun a b ha hb h1 h2=>?_) ?_ d2
    · obtain⟨i,_,rfl⟩:=List.mem_map.1 ha
      obtain⟨j,_,_,rfl⟩:=raw_mem.1 ((d1.trans f2).subset hb);rw[zgU] at h1 h2;have h1:¬(keyW (zbJ s i)<keyW (zbJ s j)∨(keyW (zbJ s j)=keyW (zbJ s i)∧(j:Int)<(i:Int))):=h1;have h2:¬(keyW (zbJ s j)<keyW (zbJ s i)∨(keyW (zbJ s i)=keyW (zbJ s j)∧(i:Int)<(j:Int))):=h2;rw[show i=j by omega]
    rw[List.pairwise_map];exact(zme s _).imp fun h=>h
  rw[←e,List.map_map];rfl
theorem find_first {s:Store} {i:Nat} (hi:i<s.b.length):zY s.b (zR (blkS s i).h)=(i:Int)↔∀j,j<i→¬zR (blkS s j).h=zR (blkS s i).h:=by
  obtain⟨k,h1,h2,c,h3,h4⟩:=find_self (znH hi)
  constructor
  · intro h j hj e
    rw[h1] at h;have hk:k=i:=ya;have h0:0≤idx (fun c:Block=>decide (zR c.h=zR (blkS s i).h)) s.b:=by
      have:zY s.b (zR (blkS s i).h)=_:=h1
      unfold zY at this;omega
    obtain⟨_,_,_,hf⟩:=zht h0
    have:=hf j (blkS s j) (znH ya) (by simpa using e)
    have e2:zY s.b (zR (blkS s i).h)=_:=h1;unfold zY at e2;omega
  intro h;rw[h1];by_cases q:k=i
  · rw[q]
  have hb : c = blkS s k := by
    have:=znH (s:=s) (i:=k) ya
    rw[h3] at this;injection this
  rw[hb] at h4;exact absurd h4 (h k ya)
theorem zr6 {s:Store} {i:Nat} (hi:i<s.b.length):okS s i=true↔(i=0∨(0≤parS s i∧parS s i<(i:Int)))∧(zQ (zaT s i)).2=0∧zY s.b (zR (blkS s i).h)=(i:Int):=by
  rw[find_first hi];unfold okS;simp only[uk,Bool.or_eq_true,uj,List.all_eq_true,List.mem_range,Bool.not_eq_true',decide_eq_false_iff_not]
  constructor
  · rintro ⟨⟨h1,h2⟩,h3⟩;exact⟨h2,h3,h1⟩
  rintro ⟨h1,h2,h3⟩;exact⟨⟨h3,h1⟩,h2⟩
theorem may_yes {s:Store} {n:Nat} (h:0<s.b.length∧s.b.length≤40∧s.par.length=s.b.length∧s.par[0]?=some (-1)) (hn:s.b.length≤n) (ho:∀i,i<n→okS s i=true):mayS s=true:=by
  unfold mayS;rw[ui h,Bool.true_and,List.all_eq_true];intro i hi;rw[List.mem_range] at hi;exact ho i ya
set_option maxRecDepth 20000
def swpB {α:Type} [Inhabited α] (l:List α) (k:Nat):List α:=(List.range l.length).map fun j=>if j<k∨l.length-k≤j then l.getD (l.length-1-j) default else l.getD j default
theorem zga {α:Type} [Inhabited α] {l:List α} {k:Nat}:(swpB l k).length=l.length:=by unfold swpB;simp
theorem zjl {α:Type} [Inhabited α] {l:List α} {k j:Nat} (h:j<l.length):(swpB l k)[j]?=some (if j<k∨l.length-k≤j then l.getD (l.length-1-j) default else l.getD j default):=by
  unfold swpB;rw[List.getElem?_map,List.getElem?_range h];rfl
theorem swpB_zero {α:Type} [Inhabited α] {l:List α}:swpB l 0=l:=by
  apply List.ext_getElem?;intro j;by_cases h:j<l.length
  · rw[zjl h,ur ya,uq,ub h];rfl
  rw[List.getElem?_eq_none (by rw[zga];omega),List.getElem?_eq_none ya]
theorem swpB_step {α:Type} [Inhabited α] {l:List α} {k:Nat} {x y:α} (hk:2*(k+1)≤l.length) (hx:(swpB l k)[k]?=some x) (hy:(swpB l k)[l.length-1-k]?=some y):((swpB l k).set k y).set (l.length-1-k) x=swpB l (k+1):=by
  rw[zjl ya,ur ya] at hx;rw[zjl ya,ur ya] at hy;injection hx with hx;injection hy with hy;apply List.ext_getElem?;intro j;by_cases h:j<l.length
  · rw[zjl h,List.getElem?_set]
    by_cases c:l.length-1-k=j
    · rw[ut c,ut (by rw[List.length_set,zga];omega),ut ya,←hx]
      congr 2;omega
    rw[ur c,List.getElem?_set];by_cases d:k=j
    · rw[ut d,ut (by rw[zga];omega),ut ya,←hy]
      congr 2;omega
    rw[ur d,zjl h];by_cases e:j<k∨l.length-k≤j
    · rw[ut e,ut ya]
    rw[ur e,ur ya]
  rw[List.getElem?_eq_none (by rw[List.length_set,List.length_set,zga];omega),List.getElem?_eq_none (by rw[zga];omega)]
theorem swpB_end {α:Type} [Inhabited α] {l:List α} {k:Nat} (h1:2*k≤l.length) (h2:¬(k:Int)<(l.length:Int)-1-k):swpB l k=l.reverse:=by
  apply List.ext_getElem?;intro j;by_cases h:j<l.length
  · rw[zjl h,List.getElem?_reverse h,ub ya]
    congr 1
    split
    · rw[uq,ub ya];rfl
    have e:j=l.length-1-j:=ya;rw[uq,ub ya];show l[j]=_;congr 1
  rw[List.getElem?_eq_none (by rw[zga];omega),List.getElem?_eq_none (by rw[List.length_reverse];omega)]
theorem zrK {α:Type} {l:List α} {i:Nat} {x:α} (h:l[i]?=some x):l.set i x=l:=by
  obtain⟨hi,rfl⟩:=ul.1 h;exact List.set_getElem_self hi
theorem zqI (b:Block):zgC zt b [.val zbU b.h,.val (sl idT) b.l,.val (sl txT) b.t]:=zpe (zjm zgK (zjm zgK zgK))
theorem zqV (b:Block):zo0 zt b [.val zbU b.h,.val (sl idT) b.l,.val (sl txT) b.t]:=zpL (zjE zgX (zjE zgX zgX))
theorem zqH (s:Store):zgC zar s [.val (sl zt) s.b,.val (sl i64T) s.par]:=zpe (zjm zgK zgK)
theorem zeR (b:List Block) (p:List Int):zo0 zar (⟨b,p⟩:Store) [.val (sl zt) b,.val (sl i64T) p]:=zpL (zjE zgX zgX)
def SmS (s:Store):Prop:=zeW s.b∧s.b.length≤1000∧s.par.length≤1000
theorem line_step {s:Store} {i:Nat} {out L:List Block} {b:Block} (hb:s.b[i]?=some b) (h:L=zaT s i++out.reverse) (hc:¬(s.par.getD i 0<0∨(i:Int)≤s.par.getD i 0)):L=zaT s (s.par.getD i 0).toNat++(out++[b]).reverse:=by
  have e:blkS s i=b:=yb1;have e2:zaT s i=zaT s (s.par.getD i 0).toNat++[b]:=by
    unfold zaT;rw[zgk ya,List.map_append];show _++[blkS s i]=_;rw[e]
  rw[h,e2,List.reverse_append,List.append_assoc];rfl
theorem zpI {s:Store} {i:Nat} {out L:List Block} {b:Block} (hb:s.b[i]?=some b) (h:L=zaT s i++out.reverse) (hc:s.par.getD i 0<0∨(i:Int)≤s.par.getD i 0):(out++[b]).reverse=L:=by
  have e:blkS s i=b:=yb1;have e2:zaT s i=[b]:=by
    unfold zaT;rw[zbq ya];show [blkS s i]=_;rw[e]
  rw[h,e2,List.reverse_append];rfl
theorem zhz {s:Store} {i:Nat} (h1:s.b.length=s.par.length) (h2:i<s.b.length):zcN s i=zaT s i:=by
  unfold zcN;rw[ur ya,Int.toNat_natCast]
theorem zf2 {s:Store} {i:Int} (h:¬s.b.length=s.par.length∨i<0∨(s.b.length:Int)≤i):zcN s i=[]:=by
  unfold zcN;rw[ut h]
theorem equalInt (l m:List Int):Tells P 54 [.val (bsl i64T) l,.val (bsl i64T) m] (.val zu (decide (l=m))):=by
 refine zc Tryz.func54 rfl rfl rfl (fun ext w hext=>?_);refine ze (d:=0) rfl zm (fun hsl0=>?_);refine ze (d:=1) rfl zm (fun hsl1=>?_);refine qcJ ?_;refine qcA ?_;refine qa9 ?_;refine qcA ?_;refine qaT ?_;refine Cf (p:=¬l.length=m.length) (fun ht10=>?_) (fun ht10=>?_)
 ·
  refine qaq ?_;exact za rfl rfl (zb rfl (uh (fun e=>ht10 ybh)).symm)
 refine qce ?_;refine qcA ?_;refine qbp ?_;refine Lp (ι:=Nat) 0 (fun (k:Nat)=>((((Fr.none).set 0 (.val (bsl i64T) l)).set 1 (.val (bsl i64T) m)).set 12 (.val i64T (l.length:Int))).set 13 (.val i64T (k:Int))) (fun (k:Nat)=>Hp.none) (fun (k:Nat)=>k≤l.length∧l.take k=m.take k) (fun (k:Nat)=>l.length-k) (0) (⟨uf _,by simp⟩) ?_;intro k hinv;refine qas ?_;refine Cf (p:=k<l.length) (fun ht14=>?_) (fun ht14=>?_)
 ·
  obtain⟨x,hx⟩:∃x,l[k]?=some x:=⟨_,ub ht14⟩;obtain⟨y,hy⟩:∃y,m[k]?=some y:=yq;refine qbe ?_;refine qb5 ?_;refine qbk ?_;refine G0 (zbj rfl rfl rfl zcJ yj) ?_;refine G0 (zh rfl rfl ty_3) ?_;refine qbk ?_;refine G0 (zbj rfl rfl rfl zcJ yj) ?_;refine G0 (zh rfl rfl ty_3) ?_;refine G0 zeb ?_;refine GK.nil ?_;refine zk (p:=¬x=y) rfl yF (fun ht24=>?_) (fun ht24=>?_)
  ·
   refine qaq ?_;exact za rfl rfl (zb rfl (uh (zde hx hy ht24)).symm)
  refine qbF ?_;exact Nx (k+1) (⟨by omega,zaX hx hy hinv.2 (by simpa using ht24)⟩) ya
 refine qcc ?_;exact za rfl rfl (zb rfl (ui yH).symm)
theorem indexInt (l:List Int) (v:Int):Tells P 83 [.val (bsl i64T) l,.val i64T v] (.val i64T (idx (fun x=>decide (v=x)) l)):=by
 refine zc Tryz.func83 rfl rfl rfl (fun ext w hext=>?_);refine ze (d:=0) rfl zm (fun hsl0=>?_);refine ze (d:=1) rfl zab (fun hin1=>?_);refine qcJ ?_;refine qcA ?_;refine qbp ?_;refine Lp (ι:=Nat) 0 (fun (k:Nat)=>(((((Fr.none).set 0 (.val (bsl i64T) l)).set 1 (.val i64T v)).set 6 (.val (bsl i64T) l)).set 7 (.val i64T (l.length:Int))).set 8 (.val i64T (k:Int))) (fun (k:Nat)=>Hp.none) (fun (k:Nat)=>k≤l.length∧idx (fun x=>decide (v=x)) l=shift k (idx (fun x=>decide (v=x)) (l.drop k))) (fun (k:Nat)=>l.length-k) (0) (⟨uf _,zeP _ l⟩) ?_;intro k hinv;refine qas ?_;refine Cf (p:=k<l.length) (fun ht9=>?_) (fun ht9=>?_)
 ·
  obtain⟨x,hx⟩:∃x,l[k]?=some x:=ya0;refine qbe ?_;refine qbW ?_;refine qa9 ?_;refine A0 (zbj rfl rfl rfl zcJ yj) ?_;refine qbB ?_;refine qcC ?_;refine zk (p:=(decide (v=x))=true) rfl yF (fun ht16=>?_) (fun ht16=>?_)
  ·
   refine qcg ?_;exact za rfl rfl (zb rfl (hinv.2.trans (zia hx ht16)).symm)
  refine qbF ?_;exact Nx (k+1) (⟨by omega,hinv.2.trans (zlN hx ht16)⟩) ya
 refine qcc ?_;exact za rfl rfl (zb rfl (hinv.2.trans (zib ya)).symm)
theorem zra (l:List Int) (v:Int):Tells P 46 [.val (bsl i64T) l,.val i64T v] (.val zu (l.any fun x=>decide (v=x))):=by
 refine zc Tryz.func46 rfl rfl rfl (fun ext w hext=>?_);refine ze (d:=0) rfl zm (fun hsl0=>?_);refine ze (d:=1) rfl zab (fun hin1=>?_);refine CQR ?_;refine qbW ?_;refine A0 (oCl (indexInt _ _) rfl fn_83 yf) ?_;refine A0 zec ?_;refine qad ?_;exact za rfl rfl (zb rfl (zlO _ l))
theorem zrV (l:List Block) (hl:l.length≤1000000000000):zfz P 45 (.row 37 zt l) [.own 0] (.lit (.tuple #[])) (.row 37 zt l.reverse):=by
 refine zfZ trivial Tryz.func45 rfl rfl ⟨Nat.one_pos,trivial⟩ (fun ext pg w hext hgr=>?_);refine zjS (n:=0) rfl (fun hrl=>?_);refine CQR ?_;refine A0 mO ?_;refine A0 (za9 rfl rfl rfl zlM) ?_;refine A0 za1 ?_;refine A0 aV ?_;refine qcn ?_;refine zB (n:=0) (y:=swpB l 0) rfl swpB_zero.symm ?_;refine zi (d:=3) (y:=(l.length:Int)-1-((0:Nat):Int)) rfl ya ?_;refine Lp (ι:=Nat) 1 (fun (k:Nat)=>(((Fr.none).set 0 (.own 0)).set 2 (.val i64T (k:Int))).set 3 (.val i64T ((l.length:Int)-1-k))) (fun (k:Nat)=>(Hp.none).set 0 (.row 37 zt (swpB l k))) (fun (k:Nat)=>2*k≤l.length) (fun (k:Nat)=>l.length-k) (0) (uf _) ?_;intro k hinv;refine qb9 ?_;refine qa1 ?_;refine Cf (p:=(k:Int)<(l.length:Int)-1-k) (fun ht9=>?_) (fun ht9=>?_)
 ·
  have hsl:=zga (l:=l) (k:=k);obtain⟨x,hx⟩:∃x,(swpB l k)[k]?=some x:=yq;obtain⟨y,hy⟩:∃y,(swpB l k)[l.length-1-k]?=some y:=yq;have hsl2:((swpB l k).set k y).length=l.length:=by rw[List.length_set,hsl]
  have hy2:((swpB l k).set k y)[l.length-1-k]?=some y:=by rw[List.getElem?_set_ne ya];exact hy
  refine qaD ?_;refine zn [some 1,some 1,some 1000001,some 1000001,some 1,some 1,some 1,some 1,some 1,some 1,some 1,some 1,some 1,none,some 1,none] mixed yc ?_;refine qct ?_;refine XK.ga (fun _=>g_mo (.inl rfl) rfl) rfl rfl rfl ?_;refine XK.ga (fun _=>g_mv (.inl rfl) rfl) rfl rfl rfl ?_;refine qct ?_;refine X0 (zI (i:=l.length-1-k) rfl rfl rfl rfl yh zbS yd) ?_;refine X0 (zbA rfl rfl rfl rfl yj (Lens.self _) zbg) ?_;refine qct ?_;refine X0 (zI (i:=k) rfl rfl rfl rfl yh zbS yd) ?_;refine X0 (zbA rfl rfl rfl rfl yj (Lens.self _) zbg) ?_;refine X0 (zI (i:=k) rfl rfl rfl rfl yh zbS yd) ?_;refine XK.e (x:=.idk) (fun fr' hfr kk H=>by exact zai rfl rfl rfl ((hfr 26 yc).trans rfl) rfl rfl yj (Lens.self _) zbg ((hfr 21 yc).trans rfl) (zp H)) ?_;refine X0 (zI (i:=l.length-1-k) rfl rfl rfl rfl yh zbS yd) ?_;refine XK.e (x:=.idk) (fun fr' hfr kk H=>by exact zai rfl rfl rfl ((hfr 27 yc).trans rfl) rfl rfl yj (Lens.self _) zbg ((hfr 25 yc).trans rfl) (zp H)) ?_;refine qba ?_;refine qa9 ?_;refine A0 zbh ?_;refine qco ?_;refine qb6 ?_;refine zB (n:=0) (y:=swpB l (k+1)) rfl (swpB_step ya hx hy) ?_;refine zi (d:=3) (y:=(l.length:Int)-1-((k+1:Nat):Int)) rfl ya ?_;exact Nx (k+1) ya ya
 refine CE ?_;exact zqq rfl rfl rfl rfl rfl (give_row rfl (swpB_end hinv ht9))
theorem zil (b:Block) (hb:zd8 b):Tells P 38 [.val zt b] (.val zt b):=by
 have hb1:=hb.1;have hb2:=hb.2.1;refine zc Tryz.func38 rfl rfl rfl (fun ext w hext=>?_);refine qaf ?_;refine zP zje rfl rfl rfl rfl ?_;refine CN ?_;refine zqm 0 (x:=b) (zqI b) rfl ?_;refine CQ ?_;refine zn [some 1,some 1,some 1,some 1,some 1,none,some 2,none,some 1,none] mixed yc ?_;refine X0 (oFp zcD) ?_;refine X0 (zbW rfl rfl rfl rfl rfl zf8) ?_;refine X0 (oCl (zF (zoH b.l y5)) rfl fn_73 ye) ?_;refine X0 (oFp zdl) ?_;refine X0 (zbW rfl rfl rfl rfl rfl zhZ) ?_;refine XK.e (fun fr' hfr kk H=>by exact zam (cloneTx b.t y5) rfl fn_74 ⟨(zd ((hfr 9 yc).trans rfl)),trivial⟩ rfl rfl rfl (zp H)) ?_;refine XK.g2 (zc6 rfl rfl zcD rfl) (zc6 rfl rfl zcD rfl) rfl rfl rfl ?_;refine XK.e (x:=.idk) (fun fr' hfr kk H=>by exact zcW rfl rfl rfl ((hfr 11 yc).trans rfl) rfl rfl ((hfr 7 yc).trans rfl) rfl rfl rfl zf8 (zp H)) ?_;refine X0 (oFp zdl) ?_;refine XK.e (x:=.idk) (fun fr' hfr kk H=>by exact zcW rfl rfl rfl ((hfr 12 yc).trans rfl) rfl rfl ((hfr 10 yc).trans rfl) rfl rfl rfl zhZ (zp H)) ?_;refine xc ?_;refine CQQR ?_;refine A0 (oFp zdl) ?_;refine A0 (zbW rfl rfl rfl rfl rfl zhZ) ?_;refine A0 (za9 rfl rfl rfl zsk) ?_;refine qbp ?_;refine Lp (ι:=Nat) 3 (fun i=>((((Fr.none.set 1 (.ptr 0 0)).set 2 (.ptr 1 0)).set 14 (.own 2)).set 15 (.val i64T (b.t.length:Int))).set 16 (.val i64T (i:Int))) (fun i=>((Hp.none.set 0 (.parts 37 [.val zbU b.h,.val (sl idT) b.l,.own 2])).set 1 (.box 37 zt zmO)).set 2 (.row 112 txT b.t)) (fun i=>i≤b.t.length) (fun i=>b.t.length-i) (0) (uf _) ?_;intro i hinv;refine qas ?_;refine Cf (p:=i<b.t.length) (fun ht17=>?_) (fun ht17=>?_)
 ·
  obtain⟨x,hx⟩:∃x,b.t[i]?=some x:=⟨_,ub ht17⟩;refine qbe ?_;refine A0 (zI (i:=i) rfl rfl rfl rfl yh zhI yd) ?_;refine A0 (zbA rfl rfl rfl rfl yj (Lens.self _) zdM) ?_;refine zP zkZ rfl rfl rfl rfl ?_;refine A0 aV ?_;refine qca ?_;refine CN ?_;refine zn [some 1,some 1,some 1,some 1,some 1,some 1,some 1,some 1,some 1,some 1,some 1,none] mixed yc ?_;refine X0 (oFp zdl) ?_;refine X0 (zbW rfl rfl rfl rfl rfl zhZ) ?_;refine X0 mV ?_;refine X0 (oFp zbB) ?_;refine X0 (oLb zbY zdN) ?_;refine X0 (oCl (zF (zrc x.ins (by have:=(hb.2.2 x (ud hx)).1;constructor<;>omega))) rfl fn_75 ye) ?_;refine X0 (oFp zbd) ?_;refine X0 (oLb zaU zdp) ?_;refine X0 (oCl (zF (zoG x.outs (by have:=(hb.2.2 x (ud hx)).2;constructor<;>omega))) rfl fn_76 ye) ?_;refine xG ?_;refine X0 (zI (i:=i) rfl rfl rfl rfl yh zhI yd) ?_;refine XK.e (x:=.idk) (fun fr' hfr kk H=>by exact zai rfl rfl rfl ((hfr 31 yc).trans rfl) rfl rfl yj (Lens.self _) zdM ((hfr 30 yc).trans rfl) (zp H)) ?_;refine qba ?_;refine qan ?_;refine zB (n:=2) (y:=b.t) rfl (zrK hx) ?_;exact Nx (i+1) ya ya
 refine CE ?_;refine CQ ?_;refine zbr 0 2 (pre:=[.val zbU b.h,.val (sl idT) b.l]) rfl rfl rfl ?_;refine zgB 0 (zqV b) rfl ?_;refine CR ?_;refine qc4 ?_;refine qaW ?_;refine CN ?_;exact zq rfl rfl rfl rfl zbg (rfl)
theorem zf3 (s:Store) (i:Int) (hs:SmS s):Tells P 18 [.val zar s,.val i64T i] (.fresh 37 zt (zcN s i)):=by
 obtain⟨hsb,hsn,hsp⟩:=hs;refine zc Tryz.func18 rfl rfl rfl (fun ext w hext=>?_);refine ze (d:=1) rfl zab (fun hin1=>?_);refine qbO ?_;refine CNQQR ?_;refine qa8 ?_;refine qbf ?_;refine qaX ?_;refine qcA ?_;refine A0 zeb ?_;refine qa9 ?_;refine Sp (d:=14) (p:=¬s.b.length=s.par.length) (fun g14=>?_) (fun g14=>?_)
 ·
  refine qcI ?_;refine qbH ?_;refine qc1 ?_;refine Ct ?_;refine qaB ?_;refine CN ?_;exact za rfl rfl yau
 refine A1 mV ?_;refine A1 zbK ?_;refine qat ?_;refine Sp (d:=18) (p:=i<0) (fun g18=>?_) (fun g18=>?_)
 ·
  refine qac ?_;refine qc1 ?_;refine Ct ?_;refine qaB ?_;refine CN ?_;exact za rfl rfl yau
 refine A1 mV ?_;refine qbn ?_;refine A1 zec ?_;refine qar ?_;refine Cf (p:=(s.b.length:Int)≤i) (fun ht24=>?_) (fun ht24=>?_)
 ·
  refine qaB ?_;refine CN ?_;exact za rfl rfl yau
 obtain⟨I,rfl⟩:∃I:Nat,i=I:=⟨i.toNat,by omega⟩;have hbp:s.b.length=s.par.length:=ua g14;obtain⟨L,hL⟩:∃L,L=zaT s I:=⟨_,rfl⟩;have hcL:zcN s I=L:=by rw[zhz hbp ya,hL]
 refine CSQR ?_;refine A0 aL ?_;refine CNQ ?_;refine CB ?_;refine zcw (T:=zt) (d:=5) 37 rfl ?_;refine Lp (ι:=Nat×List Block) 2 (fun (i:Nat×List Block)=>match i with|(j,out)=>(((Fr.none).set 1 (.val i64T (j:Int))).set 2 (.ptr 0 0)).set 5 (.own 1)) (fun (i:Nat×List Block)=>match i with|(j,out)=>((Hp.none).set 0 (.box 25 zar s)).set 1 (.row 37 zt out)) (fun (i:Nat×List Block)=>match i with|(j,out)=>j<s.b.length∧out.length+j≤s.b.length∧L=zaT s j++out.reverse) (fun (i:Nat×List Block)=>match i with|(j,out)=>j) ((I,[])) (⟨by omega,by simp;omega,by rw[hL];simp⟩) ?_;intro⟨j,out⟩ hinv;dsimp only at hinv;obtain⟨b,hb⟩:∃b,s.b[j]?=some b:=⟨_,ub hinv.1⟩;obtain⟨p,hp⟩:∃p,s.par[j]?=some p:=yq;have hpd:s.par.getD j 0=p:=by rw[uq,hp];rfl
 have hbl:=hsb.1;refine CB ?_;refine CQR ?_;refine A0 mO ?_;refine qa8 ?_;refine qa9 ?_;refine A0 (zD (i:=j) rfl rfl rfl ya zbS yj) ?_;refine A0 (zh rfl rfl zbg) ?_;refine A0 (oCl (zil b (hsb.2 b (ud hb))) rfl fn_38 ybD) ?_;refine qbv ?_;refine zo rfl rfl rfl rfl rfl rfl rfl zdC yE ?_;refine A0 aO ?_;refine CNQQR ?_;refine qaX ?_;refine qa9 ?_;refine A0 (zD (i:=j) rfl rfl rfl ya zcJ yj) ?_;refine qbB ?_;refine A0 aX ?_;refine CNQR ?_;refine A0 mX ?_;refine A0 zbK ?_;refine qa9 ?_;refine Sp (d:=41) (p:=p<0) (fun g41=>?_) (fun g41=>?_)
 ·
  refine qac ?_;refine qar ?_;refine Ct ?_;refine qbQ ?_;refine A0 mO ?_;refine zhF (zrV (out++[b]) yG) rfl fn_45 rfl trivial trivial rfl ⟨yn,trivial⟩ rfl rfl rfl ?_;refine CNQR ?_;refine A0 mO ?_;refine qbK ?_;exact za rfl rfl (zf rfl rfl (by rw[hcL];exact zpI hb hinv.2.2 (by rw[hpd];omega)))
 refine A1 mX ?_;refine A1 mV ?_;refine A1 zec ?_;refine qar ?_;refine Cf (p:=(j:Int)≤p) (fun ht45=>?_) (fun ht45=>?_)
 ·
  refine qbQ ?_;refine A0 mO ?_;refine zhF (zrV (out++[b]) yG) rfl fn_45 rfl trivial trivial rfl ⟨yn,trivial⟩ rfl rfl rfl ?_;refine CNQR ?_;refine A0 mO ?_;refine qbK ?_;exact za rfl rfl (zf rfl rfl (by rw[hcL];exact zpI hb hinv.2.2 (by rw[hpd];omega)))
 refine CS ?_;refine CR ?_;refine qaX ?_;refine qa9 ?_;refine A0 (zD (i:=j) rfl rfl rfl ya zcJ yj) ?_;refine qbB ?_;refine A0 aX ?_;refine CN ?_;refine CI ?_;refine qbS ?_;refine zi (d:=1) (y:=((p.toNat:Nat):Int)) rfl ya ?_;exact Nx ((p.toNat,out++[b])) (⟨by omega,by simp;omega,by have h:=line_step hb hinv.2.2 (by rw[hpd];omega);rw[hpd] at h;exact h⟩) (by show p.toNat<j;omega)
theorem zpj (a b:Store):Tells P 25 [.val zar a,.val zar b] (.val zu (decide (a=b))):=by
 refine zc Tryz.func25 rfl rfl rfl (fun ext w hext=>?_);refine qaw ?_;refine qaj ?_;refine qa8 ?_;refine qa8 ?_;refine A0 (oCl (sameC_ok a.b b.b) rfl fn_29 yf) ?_;refine qa9 ?_;refine Sp (d:=10) (p:=a.b=b.b) (fun g10=>?_) (fun g10=>?_)
 ·
  refine qby ?_;refine qby ?_;refine A1 (oCl (equalInt a.par b.par) rfl fn_54 yf) ?_;refine qbi ?_;exact za rfl rfl (zb rfl (y4))
 refine qac ?_;refine qcI ?_;refine qbi ?_;exact za rfl rfl (zb rfl ((by symm;apply uh;intro h;exact g10 (by rw[h]))))
theorem zr9 (bits:UInt32):Tells P 14 [.val u32T bits] (.tup2 (.val zar (if zay bits=true then ⟨zkt bits,[-1]⟩ else zjX)) (.val zu (zay bits))):=by
 refine zc Tryz.func14 rfl rfl rfl (fun ext w hext=>?_);refine CQR ?_;refine qcv ?_;refine qaS ?_;refine A0 (oCl (newC_ok bits) rfl fn_42 ye) ?_;refine qcz ?_;refine zk (p:=¬zay bits=true) rfl ya7 (fun ht12=>?_) (fun ht12=>?_)
 ·
  refine CQR ?_;refine A0 (z7 rfl zo2 bd_25 .nil rfl) ?_;refine qaA ?_;refine qad ?_;exact zx rfl rfl (zC rfl rfl zbu (by rw[ur ht12])) (zX (zb rfl (by cases h:zay bits<;>simp_all)))
 refine qbL ?_;refine A0 (zW (T:=i64T) (xs:=[_]) rfl zcJ zfm yz rfl rfl) ?_;refine xQ ?_;refine qaA ?_;refine qad ?_;exact zx rfl rfl (zC rfl rfl zbu (by rw[ut (ua ht12)])) (zX (zb rfl ((ua ht12).symm)))
set_option maxHeartbeats 2000000
theorem zlu (p:List Int):∀(s i:Nat),i≤s→(zlv p i).length≤i+1:=by
  intro s
  induction s with
  | zero =>
    intro i hi;rw[zbq ya];simp
  | succ s ih =>
    intro i hi;by_cases c:0≤p.getD i 0∧p.getD i 0<(i:Int)
    · have:=ih (p.getD i 0).toNat ya
      rw[zgk c,ue,List.length_singleton];omega
    rw[zbq c];simp
theorem zhr {s:Store} (hs:SmS s) {i:Nat} (hi:i<s.b.length):zeW (zaT s i):=by
  refine⟨?_,fun b hb=>?_⟩
  · have h1:=zlu s.par i i (ug _)
    have h2:=hs.2.1;unfold zaT;rw[List.length_map];omega
  obtain⟨j,hj,rfl⟩:=List.mem_map.1 hb;have hji:=path_le s.par i i (ug _) j hj;exact hs.1.2 _ (ud (znH (s:=s) (i:=j) ya))
theorem take_small {s:Store} (hs:SmS s):zeW (s.b.take 1):=by
  refine⟨?_,fun b hb=>hs.1.2 b (List.mem_of_mem_take hb)⟩
  have:=hs.1.1
  rw[um];omega
def tl (s:Store) (i:Nat):List Tip:=(List.range s.b.length).map fun j=>if j<i then (zQ (zaT s j)).1 else zTip
theorem zmX {s:Store} {i:Nat}:(tl s i).length=s.b.length:=by unfold tl;simp
theorem tl_zero {s:Store}:List.replicate s.b.length zTip=tl s 0:=by
  unfold tl;simp[List.map_const']
theorem tl_at {s:Store} {i p:Nat} (hp:p<s.b.length):(tl s i)[p]?=some (if p<i then (zQ (zaT s p)).1 else zTip):=by
  unfold tl;rw[List.getElem?_map,List.getElem?_range hp];rfl
theorem tl_set {s:Store} {i:Nat} {t:Tip} (ht:t=(zQ (zaT s i)).1):(tl s i).set i t=tl s (i+1):=by
  apply List.ext_getElem?;intro j;by_cases hj:j<s.b.length
  · rw[tl_at hj]
    by_cases e:i=j
    · subst e
      rw[List.getElem?_set_self (by rw[zmX];exact hj),ut ya,ht]
    rw[List.getElem?_set_ne e,tl_at hj];by_cases c:j<i
    · rw[ut c,ut ya]
    rw[ur c,ur ya]
  rw[List.getElem?_eq_none (by rw[List.length_set,zmX];omega),List.getElem?_eq_none (by rw[zmX];omega)]
theorem zkd (h:Head):(zR h).length=32:=by
  unfold zR zea
  split
  · simp
  rfl
def idL (s:Store) (i:Nat):List (Ab.Id×Int):=(List.range i).map fun j=>(zR (blkS s j).h,1)
theorem zqX {s:Store} {i:Nat}:(idL s i).length=i:=by unfold idL;simp
theorem ziR {s:Store} {i:Nat}:∀p∈idL s i,p.1.length=32∧0≤p.2∧p.2≤1000000:=fun p hp=>by
  obtain⟨j,_,rfl⟩:=List.mem_map.1 hp;exact⟨zkd _,show(0:Int)≤1 by decide,show(1:Int)≤1000000 by decide⟩
theorem zp4 {k:Ab.Id}:∀{l:List (Ab.Id×Int)} {i:Nat},(∀p∈l,¬k=p.1)→Ab.findC k l i=none
  | [],_,_=>rfl
  | p::l,i,h=>by
    unfold Ab.findC;rw[ur (h p (List.mem_cons_self ..))];exact zp4 fun q hq=>h q (List.mem_cons_of_mem _ hq)
theorem zsC {k:Ab.Id}:∀{l:List (Ab.Id×Int)} {i:Nat},Ab.findC k l i=none→∀p∈l,¬k=p.1
  | [],_,_,p,hp=>by cases hp
  | q::l,i,h,p,hp=>by
    unfold Ab.findC at h;by_cases c:k=q.1
    · rw[ut c] at h;cases h
    rw[ur c] at h;rcases List.mem_cons.1 hp with e|hp
    · rw[e];exact c
    exact zsC h p hp
theorem zox {k:Ab.Id} {n:Int}:∀{l:List (Ab.Id×Int)} {i:Nat},(∀p∈l,¬k=p.1)→Ab.findC k (l++[(k,n)]) i=some (i+l.length,n)
  | [],i,_=>by simp[Ab.findC]
  | p::l,i,h=>by
    show Ab.findC k (p::(l++[(k,n)])) i=_;unfold Ab.findC;rw[ur (h p (List.mem_cons_self ..)),zox fun q hq=>h q (List.mem_cons_of_mem _ hq),List.length_cons];congr 2;omega
theorem zsB {k:Ab.Id}:∀{l:List (Ab.Id×Int)} {i:Nat},(∃p∈l,k=p.1)→(∀p∈l,p.2=1)→∃j,i≤j∧j<i+l.length∧Ab.findC k l i=some (j,1)∧∀v:Int,Ab.findC k (l.modify (j-i) fun p=>(p.1,v)) i=some (j,v)
  | [],_,h,_=>by obtain⟨p,hp,_⟩:=h;cases hp
  | p::l,i,h,h1=>by
    by_cases c:k=p.1
    · refine⟨i,ug _,by rw[List.length_cons];omega,?_,fun v=>?_⟩
      · unfold Ab.findC;rw[ut c,h1 p (List.mem_cons_self ..)]
      rw[Nat.sub_self];show Ab.findC k ((p.1,v)::l) i=_;unfold Ab.findC;rw[ut c]
    obtain⟨q,hq,hk⟩:=h;rcases List.mem_cons.1 hq with e|hq
    · exact absurd (e▸hk) c
    obtain⟨j,j1,j2,j3,j4⟩:=zsB (i:=i+1) ⟨q,hq,hk⟩ (fun r hr=>h1 r (List.mem_cons_of_mem _ hr));refine⟨j,by omega,by rw[List.length_cons];omega,?_,fun v=>?_⟩
    · unfold Ab.findC;rw[ur c];exact j3
    have e:j-i=(j-(i+1))+1:=ya;rw[e];show Ab.findC k (p::l.modify (j-(i+1)) fun p=>(p.1,v)) i=_;unfold Ab.findC;rw[ur c];exact j4 v
theorem mod_end {α:Type} (f:α→α) (x:α):∀l:List α,(l++[x]).modify l.length f=l++[f x]
  | []=>rfl
  | a::l=>by
    show a::(l++[x]).modify l.length f=_;rw[mod_end f x l];rfl
theorem at_ent (k:Ab.Id) (l:List (Ab.Id×Int)):(atC k (entC k l)).2=(atC k l).2:=by
  unfold entC;cases h:Ab.findC k l 0 with
  | some _=>rfl
  | none =>
    have hn:∀p∈l,¬k=p.1:=zsC h;show(atC k (l++[(k,0)])).2=_;unfold atC;rw[zox hn,h];rfl
theorem ent_ok {s:Store} {i:Nat} {k:Ab.Id} (hk:k.length=32):∀p∈entC k (idL s i),p.1.length=32∧0≤p.2∧p.2≤1000000:=fun p hp=>by
  unfold entC at hp
  split at hp
  · exact ziR p hp
  rcases List.mem_append.1 hp with hp|hp
  · exact ziR p hp
  rw[List.mem_singleton.1 hp];exact⟨hk,show(0:Int)≤0 by decide,show(0:Int)≤1000000 by decide⟩
theorem ent_new {s:Store} {i:Nat} {id:Ab.Id} (he:zR (blkS s i).h=id) (hn:∀p∈idL s i,¬id=p.1):(atC id (idL s i)).2=0∧(atC id (idL s i)).1<(entC id (idL s i)).length∧setC (entC id (idL s i)) (atC id (idL s i)).1 1=idL s (i+1)∧(atC id (idL s (i+1))).2=1:=by
  have h0:Ab.findC id (idL s i) 0=none:=zp4 hn;have e1:entC id (idL s i)=idL s i++[(id,0)]:=by unfold entC;rw[h0]
  have e2:atC id (idL s i)=((idL s i).length,0):=by unfold atC;rw[h0];rfl
  have e3:idL s (i+1)=idL s i++[(id,1)]:=by unfold idL;rw[List.range_succ,List.map_append,←he];rfl
  refine⟨by rw[e2],by rw[e1,e2];simp,?_,?_⟩
  · rw[e1,e2,e3]
    exact mod_end _ _ (idL s i)
  unfold atC;rw[e3,zox hn];rfl
theorem ent_dup {s:Store} {i:Nat} {id:Ab.Id} (hn:∃p∈idL s i,id=p.1):(atC id (idL s i)).2=1∧(atC id (idL s i)).1<(entC id (idL s i)).length∧(atC id (setC (entC id (idL s i)) (atC id (idL s i)).1 2)).2=2∧∀p∈setC (entC id (idL s i)) (atC id (idL s i)).1 2,p.1.length=32∧0≤p.2∧p.2≤1000000:=by
  obtain⟨j,_,j2,j3,j4⟩:=zsB (i:=0) hn (fun p hp=>by obtain⟨_,_,rfl⟩:=List.mem_map.1 hp;rfl);have e1:entC id (idL s i)=idL s i:=by unfold entC;rw[j3]
  have e2:atC id (idL s i)=(j,1):=by unfold atC;rw[j3];rfl
  refine⟨by rw[e2],by rw[e1,e2];show j<_;omega,?_,fun p hp=>?_⟩
  · rw[e1,e2]
    unfold atC setC
    have:=j4 2
    rw[Nat.sub_zero] at this;rw[this];rfl
  rw[e1,e2] at hp;unfold setC at hp;obtain⟨n,hlt,he⟩:=List.getElem_of_mem hp;rw[List.getElem_modify] at he;have hl2:n<(idL s i).length:=yL;have hq:=ziR (s:=s) (i:=i) ((idL s i)[n]) (List.getElem_mem hl2)
  split at he
  · rw[←he];exact⟨hq.1,show(0:Int)≤2 by decide,show(2:Int)≤1000000 by decide⟩
  rw[←he];exact hq
theorem id_cases (s:Store) (i:Nat) (id:Ab.Id):(∀p∈idL s i,¬id=p.1)∨∃p∈idL s i,id=p.1:=by
  by_cases h:∃p∈idL s i,id=p.1
  · exact .inr h
  exact .inl fun p hp e=>h ⟨p,hp,e⟩
theorem zdD {s:Store} {i:Nat} (hi:i<s.b.length) (h:¬okS s i=true):mayS s=false:=by
  unfold mayS;rw[Bool.and_eq_false_iff]
  right
  rw[List.all_eq_false];exact⟨i,List.mem_range.2 hi,h⟩
theorem ok_ids {s:Store} {i:Nat} {id:Ab.Id} (he:zR (blkS s i).h=id) (hd:∃p∈idL s i,id=p.1):¬okS s i=true:=fun h=>by
  unfold okS at h;rw[uk,uk,List.all_eq_true] at h;obtain⟨p,hp,hk⟩:=hd;obtain⟨j,hj,rfl⟩:=List.mem_map.1 hp
  have:=h.1.1 j hj
  simp[he,hk] at this
theorem zr5 {s:Store} {i:Nat} (hi:0<i) (hp:¬(0≤parS s i∧parS s i<(i:Int))):¬okS s i=true:=fun h=>by
  unfold okS at h;rw[uk,uk,Bool.or_eq_true,uj,uj] at h;rcases h.1.2 with h2|h2
  · omega
  exact hp h2
theorem zkI {s:Store} {i:Nat} (h2:¬(zQ (zaT s i)).2=0):¬okS s i=true:=fun h=>by
  unfold okS at h;rw[uk,uj] at h;exact h2 h.2
theorem ok_all {s:Store} {i:Nat} {id:Ab.Id} (he:zR (blkS s i).h=id) (hd:∀p∈idL s i,¬id=p.1) (hp:i=0∨(0≤parS s i∧parS s i<(i:Int))) (h2:(zQ (zaT s i)).2=0):okS s i=true:=by
  unfold okS;rw[uk,uk,Bool.or_eq_true,uj,uj,uj,List.all_eq_true];refine⟨⟨fun j hj=>?_,hp⟩,h2⟩
  have:=hd _ (List.mem_map.2 ⟨j,hj,rfl⟩)
  rw[he];simp only[Bool.not_eq_true',decide_eq_false_iff_not];exact fun e=>this e.symm
theorem ok_is {s:Store} {i:Nat} (h:okS s i=true):(zQ (zaT s i)).2=0:=by
  unfold okS at h;rw[uk,uj] at h;exact h.2
theorem zpH {s:Store} (h:0<s.b.length∧s.b.length≤40∧s.par.length=s.b.length∧s.par[0]?=some (-1)) (ho:∀j,j<s.b.length→okS s j=true):mayS s=true:=by
  unfold mayS;rw[uk,uj,List.all_eq_true];exact⟨h,fun j hj=>ho j (List.mem_range.1 hj)⟩
theorem zee {s:Store} (h:¬(0<s.b.length∧s.b.length≤40∧s.par.length=s.b.length∧s.par[0]?=some (-1))):mayS s=false:=by
  unfold mayS;rw[uh h];rfl
theorem zqT {s:Store} (h0:s.par[0]?=some (-1)) {b:Block} (hb:s.b[0]?=some b):s.b.take 1=zaT s 0:=by
  have e:s.par.getD 0 0 = -1:=by rw[uq,h0];rfl
  unfold zaT;rw[zbq ya];show _=[blkS s 0];have eb:blkS s 0=b:=yb1;rw[eb];obtain⟨hl,e2⟩:=ul.1 hb;cases hsb:s.b with
  | nil=>rw[hsb] at hl;cases hl
  | cons a r=>rw[hsb] at hb;injection hb with hb;rw[hb];rfl
theorem line_next_ {s:Store} {i:Nat} {p:Int} {b:Block} (hp:s.par[i]?=some p) (hb:s.b[i]?=some b) (h:0≤p∧p<(i:Int)):zaT s i=zaT s p.toNat++[b]:=by
  have e:s.par.getD i 0=p:=by rw[uq,hp];rfl
  have eb:blkS s i=b:=yb1;unfold zaT;rw[zgk (by rw[e];exact h),e,List.map_append];show _++[blkS s i]=_;rw[eb]
theorem zkK (s:Store) (hs:SmS s):Tells P 24 [.val zar s] (.val zu (mayS s)):=by
 have hsb:=hs.1;have hsn:=hs.2.1;refine zc Tryz.func24 rfl rfl rfl (fun ext w hext=>?_);refine qaf ?_;refine qcH ?_;refine qa8 ?_;refine qbf ?_;refine A0 zct ?_;refine qa9 ?_;refine Sp (d:=14) (p:=s.b.length=0) (fun g14=>?_) (fun g14=>?_)
 ·
  refine qac ?_;refine A2 ?_;refine qbH ?_;refine qam ?_;refine qaZ ?_;refine Ct ?_;refine qaq ?_;exact za rfl rfl (zb rfl (yT))
 refine qbn ?_;refine A1 zcm ?_;refine qat ?_;refine Sp (d:=20) (p:=40<s.b.length) (fun g20=>?_) (fun g20=>?_)
 ·
  refine qac ?_;refine qam ?_;refine qaZ ?_;refine Ct ?_;refine qaq ?_;exact za rfl rfl (zb rfl (yT))
 refine qby ?_;refine A1 (zaZ rfl rfl zkb) ?_;refine qbn ?_;refine A1 zeb ?_;refine qat ?_;refine Sp (d:=29) (p:=¬s.par.length=s.b.length) (fun g29=>?_) (fun g29=>?_)
 ·
  refine qac ?_;refine qc1 ?_;refine Ct ?_;refine qaq ?_;exact za rfl rfl (zb rfl (yT))
 obtain⟨p0,hp0⟩:∃p,s.par[0]?=some p:=yq;refine qby ?_;refine A1 (zD (i:=0) rfl rfl rfl ya zcJ yj) ?_;refine A1 (zh rfl rfl ty_3) ?_;refine A1 zeb ?_;refine qar ?_;refine zk (p:=¬p0 = -1) rfl yF (fun ht35=>?_) (fun ht35=>?_)
 ·
  refine qaq ?_;exact za rfl rfl (zb rfl (yT))
 have hp0e:p0 = -1:=ua ht35;rw[hp0e] at hp0;have hc0:0<s.b.length∧s.b.length≤40∧s.par.length=s.b.length∧s.par[0]?=some (-1):=⟨by omega,by omega,by omega,hp0⟩;refine CSQR ?_;refine qa8 ?_;refine qbf ?_;refine zqp (T:=tipT) (n:=s.b.length) rfl rfl rfl rfl rfl rfl yh yh row_89 zep ⟨by omega,by omega,(show(s.b.length)*139≤16777216 by omega)⟩ ?_;refine A0 aO ?_;refine CNQR ?_;refine aw_mkmapc rfl rfl rfl rfl (fun b0=>?_);refine A0 aX ?_;refine CNQQR ?_;refine qa8 ?_;refine qbf ?_;refine qbp ?_;refine zB (n:=1) (y:=tl s 0) rfl tl_zero ?_;refine zoM 2 (cntO (idL s 0)) rfl rfl ?_;refine Lp (ι:=Nat) 3 (fun i=>(((((Fr.none.set 1 (.ptr 0 0)).set 3 (.own 1)).set 4 (.lit (.map (some b0)))).set 42 (.val (sl zt) s.b)).set 43 (.val i64T (s.b.length:Int))).set 44 (.val i64T (i:Int))) (fun i=>((Hp.none.set 0 (.box 25 zar s)).set 1 (.row 56 tipT (tl s i))).set 2 (.objAt b0 (cntO (idL s i)))) (fun i=>i≤s.b.length∧∀j,j<i→okS s j=true) (fun i=>s.b.length-i) (0) (⟨uf _,fun j hj=>by omega⟩) ?_;intro i hinv;refine qas ?_;refine Cf (p:=i<s.b.length) (fun ht45=>?_) (fun ht45=>?_)
 ·
  obtain⟨b,hb⟩:∃b,s.b[i]?=some b:=⟨_,ub ht45⟩;obtain⟨p,hpp⟩:∃p,s.par[i]?=some p:=yq;have hbe:blkS s i=b:=yb1;have hpe:parS s i=p:=by unfold parS;rw[uq,hpp];rfl
  have hbm:=hsb.2 b (ud hb);obtain⟨id,hid⟩:∃d,d=zR b.h:=⟨_,rfl⟩;have hide:zR (blkS s i).h=id:=by rw[hbe,hid]
  have hidl:id.length=32:=hid▸zkd b.h;have hil:=zqX (s:=s) (i:=i);have htl:=zmX (s:=s) (i:=i);refine qbe ?_;refine A0 (zD (i:=i) rfl rfl rfl ya zbS yj) ?_;refine qbU ?_;refine A0 aV ?_;refine qaW ?_;refine CNQR ?_;refine A0 (oFp zah) ?_;refine A0 (oLb zE za4) ?_;refine A0 (oCl (ze5 b.h) rfl zqZ ye) ?_;refine zi (d:=51) (y:=id) rfl (hid.symm) ?_;refine qaI ?_;refine qao ?_;refine CNQ ?_;refine CQ ?_;rcases id_cases s i id with hnew|hdup
  ·
   have hen:=ent_new hide hnew;have hen1:=hen.1;refine zn [some 1,some 1,some 2001001,some 1000001,none,some 1,none] mixed yc ?_;refine X0 mL ?_;refine X0 (oLs rfl rfl rfl zT) ?_;refine XK.gl (n:=2) (c:=1) (N:=1000002) (v:=.objAt b0 (cntO (entC id (idL s i)))) (zfX (n:=2) rfl rfl rfl rfl zpD zc8 ty_5 ui_5 zdw yu yav) (fun _ he=>yaW) rfl rfl rfl rfl rfl rfl ?_;refine XK.ga ybd rfl rfl rfl ?_;refine XK.e (fun fr' hfr kk H=>by exact zms (n:=2) rfl rfl rfl rfl ((hfr 52 yc).trans rfl) ((hfr 53 yc).trans rfl) rfl zpD zc8 ty_5 ui_5 zdw yu yav (by rw[zqX];omega) (zp H)) ?_;refine X0 yZ ?_;refine XK.e (x:=.idk) (fun fr' hfr kk H=>by exact zi7 (n:=2) (i:=(atC id (idL s i)).1) rfl rfl rfl ((hfr 52 yc).trans rfl) ((hfr 57 yc).trans rfl) ((hfr 55 yc).trans rfl) rfl (by first|exact hen.2.1|exact hed.2.1) (zp H)) ?_;refine XK.nilp ⟨pend1 yu,trivial⟩ ?_;refine CQ ?_;refine zoM 2 (cntO (idL s (i+1))) rfl (by rw[hen1];exact congrArg cntO hen.2.2.1) ?_;refine CR ?_;refine A0 mL ?_;refine qbw ?_;refine A0 (zfX (n:=2) rfl rfl rfl rfl zpD zc8 ty_5 ui_5 zdw yu yav) ?_;refine qc5 ?_;refine zfJ rfl (by rw[hen.2.2.2];rfl) ?_;refine CSQR ?_;refine qcH ?_;refine qaX ?_;refine qa9 ?_;refine A0 (zD (i:=i) rfl rfl rfl ya zcJ yj) ?_;refine qbB ?_;refine A0 aX ?_;refine CNB ?_;refine qa0 ?_;refine A0 zct ?_;refine qad ?_;refine zk (p:=i=0) rfl yaL (fun ht79=>?_) (fun ht79=>?_)
   ·
    have hlf:=zqT hp0 (show s.b[0]?=some b from by rw[←ht79];exact hb);obtain⟨Z,hZ⟩:∃z,(tl s i)[0]?=some z:=⟨_,ub (by rw[zmX];omega)⟩;refine CR ?_;refine A0 mO ?_;refine qa8 ?_;refine A0 (by first|exact zd2 rfl rfl rfl yar zbS|exact zhR rfl rfl rfl zbS yd) ?_;refine A0 (oCl (zkS (s.b.take 1) (take_small hs)) rfl fn_28 ye) ?_;refine A0 mX ?_;refine A0 yR ?_;refine zi (d:=88) (y:=(zQ (zaT s i)).1) rfl (by rw[hlf,ht79]) ?_;refine A0 yZ ?_;refine zi (d:=89) (y:=(zQ (zaT s i)).2) rfl (by rw[hlf,ht79]) ?_;refine A0 (zI (i:=0) rfl rfl rfl rfl yh sl_89 yd) ?_;refine zai rfl rfl rfl rfl rfl rfl yj (Lens.self _) zaP rfl ?_;refine A0 aV ?_;refine CNIQR ?_;refine qa9 ?_;refine qaT ?_;refine zk (p:=¬(zQ (zaT s i)).2=0) rfl yF (fun ht100=>?_) (fun ht100=>?_)
    ·
     refine qaq ?_;exact za rfl rfl (zb rfl ((by symm;exact zdD ht45 (zkI ht100))))
    refine qbF ?_;have hoki:okS s i=true:=ok_all hide hnew (.inl ht79) (ua ht100);refine zcP 3 ?_;refine zcP 4 ?_;refine zB (n:=1) (y:=tl s (i+1)) rfl (by have h:=tl_set (s:=s) (i:=i) rfl;rw[←h];simp only[ht79]) ?_;exact Nx (i+1) (⟨by omega,fun j hj=>by by_cases e:j=i;rw[e];exact hoki;exact hinv.2 j ya⟩) ya
   refine CQR ?_;refine A0 mX ?_;refine A0 zbK ?_;refine qa9 ?_;refine Sp (d:=94) (p:=p<0) (fun g94=>?_) (fun g94=>?_)
   ·
    refine qac ?_;refine qbi ?_;refine Ct ?_;refine qaq ?_;exact za rfl rfl (zb rfl ((by symm;exact zdD ht45 (zr5 ya ybt))))
   refine A1 mX ?_;refine A1 mV ?_;refine A1 zec ?_;refine qbi ?_;refine Cf (p:=(i:Int)≤p) (fun ht91=>?_) (fun ht91=>?_)
   ·
    refine qaq ?_;exact za rfl rfl (zb rfl ((by symm;exact zdD ht45 (zr5 ya ybt))))
   obtain⟨T,hT⟩:∃T,T=(zQ (zaT s p.toNat)).1:=⟨_,rfl⟩;have htT:(tl s i)[p.toNat]?=some T:=by rw[tl_at ya,ut ya,hT]
   have hok0:=ok_is (hinv.2 p.toNat ya);have hsm:zeG T:=by rw[hT];exact zmj (zhr hs ya)
   have hli:=line_next_ hpp hb ya;have hch:zQ (zaT s i)=if zbw T b=0 then (zfR T b,0) else (zTip,zbw T b):=by rw[hli,zki hok0,←hT]
   obtain⟨Z,hZ⟩:∃z,(tl s i)[i]?=some z:=⟨_,ub (by rw[zmX];omega)⟩;refine zn [some 1,some 1,some 1,some 1,some 1,some 1,some 1,some 1,some 1,some 1,some 1000001,some 1,none,some 1] mixed yc ?_;refine qct ?_;refine X0 mO ?_;refine X0 mX ?_;refine X0 (zI (i:=p.toNat) rfl rfl rfl rfl yh sl_89 yd) ?_;refine X0 (zbA rfl rfl rfl rfl yj (Lens.self _) zaP) ?_;refine X0 (oLs rfl rfl rfl zbg) ?_;refine X0 (oCl (push_ok T b hsm hbm) rfl fn_53 yf) ?_;refine qc0 ?_;refine xq ?_;refine X0 (zI (i:=i) rfl rfl rfl rfl yh sl_89 yd) ?_;refine XK.e (x:=.idk) (fun fr' hfr kk H=>by exact zai rfl rfl rfl ((hfr 78 yc).trans rfl) rfl rfl yj (Lens.self _) zaP ((hfr 76 yc).trans rfl) (zp H)) ?_;refine X0 aV ?_;refine xc ?_;refine CI ?_;refine qa0 ?_;refine qaT ?_;refine zk (p:=¬zbw T b=0) rfl yF (fun ht100=>?_) (fun ht100=>?_)
   ·
    refine qaq ?_;exact za rfl rfl (zb rfl ((by symm;exact zdD ht45 (zkI (by rw[hch,ur ht100];exact ht100)))))
   refine qbF ?_;have hce:zQ (zaT s i)=(zfR T b,0):=by rw[hch,ut (ua ht100)]
   have hoki:okS s i=true:=ok_all hide hnew (.inr ybt) (by rw[hce]);refine zcP 3 ?_;refine zcP 4 ?_;refine zB (n:=1) (y:=tl s (i+1)) rfl (tl_set (by rw[hce])) ?_;exact Nx (i+1) (⟨by omega,fun j hj=>by by_cases e:j=i;rw[e];exact hoki;exact hinv.2 j ya⟩) ya
  have hed:=ent_dup hdup;have hed1:=hed.1;refine zn [some 1,some 1,some 2001001,some 1000001,none,some 1,none] mixed yc ?_;refine X0 mL ?_;refine X0 (oLs rfl rfl rfl zT) ?_;refine XK.gl (n:=2) (c:=1) (N:=1000002) (v:=.objAt b0 (cntO (entC id (idL s i)))) (zfX (n:=2) rfl rfl rfl rfl zpD zc8 ty_5 ui_5 zdw yu yav) (fun _ he=>yaW) rfl rfl rfl rfl rfl rfl ?_;refine XK.ga ybd rfl rfl rfl ?_;refine XK.e (fun fr' hfr kk H=>by exact zms (n:=2) rfl rfl rfl rfl ((hfr 52 yc).trans rfl) ((hfr 53 yc).trans rfl) rfl zpD zc8 ty_5 ui_5 zdw yu yav (by rw[zqX];omega) (zp H)) ?_;refine X0 yZ ?_;refine XK.e (x:=.idk) (fun fr' hfr kk H=>by exact zi7 (n:=2) (i:=(atC id (idL s i)).1) rfl rfl rfl ((hfr 52 yc).trans rfl) ((hfr 57 yc).trans rfl) ((hfr 55 yc).trans rfl) rfl (by first|exact hen.2.1|exact hed.2.1) (zp H)) ?_;refine XK.nilp ⟨pend1 yu,trivial⟩ ?_;refine CQ ?_;refine zoM 2 (cntO (setC (entC id (idL s i)) (atC id (idL s i)).1 2)) rfl (by rw[hed1];rfl) ?_;refine CR ?_;refine A0 mL ?_;refine qbw ?_;refine A0 (zfX (n:=2) rfl rfl rfl rfl zpD zc8 ty_5 ui_5 zdw yu yav) ?_;refine qc5 ?_;refine zoO rfl (by rw[hed.2.2.1];rfl) ?_;refine qaq ?_;exact za rfl rfl (zb rfl ((by symm;exact zdD ht45 (ok_ids hide hdup))))
 refine qcc ?_;exact za rfl rfl (zb rfl ((by symm;exact zpH hc0 (fun j hj=>hinv.2 j (by have:=hinv.1;omega)))))
theorem zn_pile:zbf P 80 nilA ():=zaJ zero_nilA yu
theorem up_go {Q:List STip} {j:Nat} (hj:0<j) (h:lessS (atH Q j) (atH Q ((j-1)/2))=true):upH lessS j Q=upH lessS ((j-1)/2) (zc0 Q ((j-1)/2) j):=by
  conv=>lhs;rw[upH,dif_pos hj,ut h]
theorem up_stop {Q:List STip} {j:Nat} (h:¬lessS (atH Q j) (atH Q ((j-1)/2))=true):upH lessS j Q=Q:=by
  rw[upH];split
  · first|rfl|rw[ur h]
  rfl
theorem up_first {Q:List STip} {j:Nat} (h:j=0):upH lessS j Q=Q:=by rw[upH,dif_neg ya]
theorem zoB {Q:List STip} {n i:Nat} (hi:2*i+1<n) (h:lessS (atH Q (childH lessS n i Q)) (atH Q i)=true):zgx lessS n i Q=zgx lessS n (childH lessS n i Q) (zc0 Q i (childH lessS n i Q)):=by
  conv=>lhs;rw[zgx,dif_pos hi,ut h]
theorem zi0 {Q:List STip} {n i:Nat} (h:¬lessS (atH Q (childH lessS n i Q)) (atH Q i)=true):zgx lessS n i Q=Q:=by
  rw[zgx];split
  · first|rfl|rw[ur h]
  rfl
theorem zlR {Q:List STip} {n i:Nat} (h:¬2*i+1<n):zgx lessS n i Q=Q:=by rw[zgx,dif_neg h]
def rawN (s:Store) (i:Nat):List STip:=((List.range i).filter (tipB s)).map (zjj s)
theorem raw_go {s:Store} {i:Nat}:rawN s (i+1)=rawN s i++if tipB s i=true then [zjj s i] else []:=by
  unfold rawN;rw[List.range_succ,List.filter_append,List.map_append];congr 1;by_cases c:tipB s i=true
  · rw[ut c];simp[c]
  rw[ur c];simp[c]
theorem raw_len {s:Store} {i:Nat}:(rawN s i).length≤i:=by
  unfold rawN;rw[List.length_map];exact Nat.le_trans (List.length_filter_le _ _) yx
theorem fillN_len {L:List STip}:(zhM lessS L).length=L.length:=(ziW zcn L).2.length_eq
theorem drain_go {R:List STip} {n:Nat} (h:R.length=n+1):zfa lessS R.length R=(popH lessS R).1::zfa lessS n (popH lessS R).2:=by rw[h];rfl
theorem tip_any {s:Store} {i:Nat}:(s.par.any fun x=>decide ((i:Int)=x))=decide (¬tipB s i=true):=by
  rw[Bool.eq_iff_iff,decide_eq_true_iff,tip_iff,List.any_eq_true]
  constructor
  · rintro ⟨x,hx,he⟩ h
    rw[decide_eq_true_iff] at he;exact h (he▸hx)
  intro h;exact⟨_,ua h,ui rfl⟩
theorem down_len (n:Nat):∀(k i:Nat) (Q:List STip),n-i≤k→(zgx lessS n i Q).length=Q.length:=by
  intro k
  induction k with
  | zero=>intro i Q h;rw[zlR ya]
  | succ k ih =>
    intro i Q h;by_cases c:2*i+1<n
    · by_cases d:lessS (atH Q (childH lessS n i Q)) (atH Q i)=true
      · have:=zoI lessS n i Q
        rw[zoB c d,ih _ _ ya,zdb]
      rw[zi0 d]
    rw[zlR c]
theorem vlen {R V:List STip} {n:Nat} (hn:R.length=n+1) (hV:V=zgx lessS n 0 (zc0 R 0 n)):V.length=n+1:=by
  rw[hV,down_len n n 0 _ ya,zdb,hn]
theorem heap_next {s:Store} {R V:List STip} {out:List Int} {n:Nat} {v:STip} (hn:R.length=n+1) (hVl:V.length=n+1) (hv:V[n]?=some v)
    (hinv:zeC lessS R.length R∧R.length≤1000∧out.length+R.length≤1000∧zd6 s=out++(zfa lessS R.length R).map (·.at_)) (hp:zeC lessS (R.length-1) (V.take n)) (hd:zfa lessS R.length R=atH V n::zfa lessS n (V.take n)) :
    zeC lessS (V.take n).length (V.take n)∧(V.take n).length≤1000∧(out++[v.at_]).length+(V.take n).length≤1000∧zd6 s=(out++[v.at_])++(zfa lessS (V.take n).length (V.take n)).map (·.at_):=by
  have hl:(V.take n).length=n:=by rw[um];omega
  obtain⟨_,h2,h3,h4⟩:=hinv;rw[hl];refine⟨by rw[hn,Nat.add_sub_cancel] at hp;exact hp,by omega,by rw[ue,List.length_singleton];omega,?_⟩;rw[h4,hd,zaE hv,List.map_cons,List.append_assoc];rfl
theorem zk7 (s:Store) (hs:SmS s):Tells P 21 [.val zar s] (.fresh 3 i64T (zd6 s)):=by
 obtain⟨hsb,hsn,hsp⟩:=hs;refine zc Tryz.func21 rfl rfl rfl (fun ext w hext=>?_);refine qbO ?_;refine CNQQR ?_;refine qaN ?_;refine A0 (oCl (zkK s ⟨hsb,hsn,hsp⟩) rfl fn_24 ye) ?_;refine qaQ ?_;refine zk (p:=¬mayS s=true) rfl (by cases mayS s<;>rfl) (fun ht13=>?_) (fun ht13=>?_)
 ·
  refine qaB ?_;refine CN ?_;exact za rfl rfl (by unfold zd6;rw[ur ht13];exact zr rfl)
 refine CSQR ?_;refine A0 (z7 rfl zn_pile bd_80 .nil rfl) ?_;refine zmu rfl rfl rfl rfl rfl ?_;refine A0 aP ?_;refine CN ?_;refine aw_nilboxA 1 84 zgM rfl ?_;refine CQQR ?_;refine qa8 ?_;refine qbf ?_;refine qbp ?_;refine Lp (ι:=Nat) 3 (fun i=>((((Fr.none.set 1 (.ptr 0 0)).set 3 (.ptr 1 0)).set 17 (.val (sl zt) s.b)).set 18 (.val i64T (s.b.length:Int))).set 19 (.val i64T (i:Int))) (fun i=>((Hp.none.set 0 (.box 25 zar s)).set 1 (.parts 80 [.own 2])).set 2 (.row 84 zgM (zhM lessS (rawN s i)))) (fun i=>i≤s.b.length) (fun i=>s.b.length-i) (0) (uf _) ?_;intro i hinv;refine qas ?_;refine Cf (p:=i<s.b.length) (fun ht20=>?_) (fun ht20=>?_)
 ·
  obtain⟨b,hb⟩:∃b,s.b[i]?=some b:=⟨_,ub ht20⟩;have hrl:=raw_len (s:=s) (i:=i);have hfl:=fillN_len (L:=rawN s i);obtain⟨R,hR⟩:∃R,R=zhM lessS (rawN s i):=⟨_,rfl⟩;rw[←hR] at hfl;refine zB (n:=2) (y:=R) rfl hR.symm ?_;refine qbe ?_;refine A0 (zD (i:=i) rfl rfl rfl ya zbS yj) ?_;refine qbU ?_;refine A0 aV ?_;refine qaW ?_;refine CNQQR ?_;refine qaX ?_;refine qa9 ?_;refine A0 (oCl (zra s.par (i:Int)) rfl fn_46 yf) ?_;refine CN ?_;refine zk (p:=¬tipB s i=true) rfl (tip_any) (fun ht27=>?_) (fun ht27=>?_)
  ·
   have hrg:rawN s (i+1)=rawN s i:=by rw[raw_go,ur ht27,List.append_nil]
   refine CE ?_;refine CR ?_;refine qan ?_;refine zcP 3 ?_;refine zB (n:=2) (y:=zhM lessS (rawN s (i+1))) rfl (by rw[hrg,hR]) ?_;exact Nx (i+1) ya ya
  have htb:tipB s i=true:=ua ht27;have hrg:rawN s (i+1)=rawN s i++[zjj s i]:=by rw[raw_go,ut htb]
  obtain⟨z,hz⟩:∃z,z=zjj s i:=⟨_,rfl⟩;have hbw:addW b.h.work (zcF b.h)=zbJ s i:=by unfold zbJ blkS;rw[uq,hb];rfl
  refine CS ?_;refine CQ ?_;refine zn [some 1000001,some 1000001,some 1000001,some 1000001,some 1000001,some 1000001,some 1000001,some 1000001,some 1000001,some 1000001,none,none,some 1] mixed yc ?_;refine XK.ga (fun _=>zc6 rfl rfl zah rfl) rfl rfl rfl ?_;refine XK.ga (fun _=>zc6 rfl rfl zfF rfl) rfl rfl rfl ?_;refine XK.gf (t:=30) rfl rfl (fun _ he=>zl rfl rfl he (zE.comp zcq) zV) ybJ rfl rfl rfl ?_;refine XK.ga (fun _=>zc6 rfl rfl zah rfl) rfl rfl rfl ?_;refine XK.gf (t:=32) rfl rfl (fun _ he=>zl rfl rfl he zE za4) ybJ rfl rfl rfl ?_;refine XK.ga (fun _=>zb7 (zlQ b.h) rfl fn_31 ye rfl) rfl rfl rfl ?_;refine XK.ga (fun _=>zb7 (zoW b.h.work (zcF b.h)) rfl fn_30 yf rfl) rfl rfl rfl ?_;refine xw ?_;refine xx ?_;refine xq ?_;refine XK.e (fun fr' hfr kk H=>by exact zP zf7 rfl rfl rfl rfl (zp H)) ?_;refine XK.e (x:=.idk) (fun fr' hfr kk H=>by exact zg rfl rfl rfl ((hfr 6 yc).trans rfl) rfl (Lens.self _) zV ((hfr 36 yc).trans rfl) (zp H)) ?_;refine X0 aV ?_;refine XK.nilp ⟨ybH,ybH,trivial⟩ ?_;refine CR ?_;refine A0 mP ?_;refine A0 (zov rfl rfl yu) ?_;refine qa9 ?_;refine qay ?_;refine A0 (z7 rfl ze_84 bd_84 (.cons zq2 zjV ty_3 rfl (.cons fd_84_1 zmA zV rfl .nil)) rfl) ?_;refine zi (d:=42) (y:=z) rfl (by rw[hz,hbw];rfl) ?_;refine A0 (zov rfl rfl yu) ?_;refine zdJ rfl rfl rfl rfl Tryz.func47 fn_47 rfl rfl (fun ia2 iok2=>?_);refine CQR ?_;refine xR ?_;refine xR ?_;refine zbe (f:=288) rfl rfl rfl rfl rfl yu Tryz.func288 fn_288 rfl rfl (fun ia3 iok3=>?_);refine zn [some 1000001,some 1,some 1,some 1,some 1,some 1,some 1,some 1,none,some 1,some 1,none] mixed yc ?_;refine XK.ga (fun _=>g_mp (.inl rfl) rfl) rfl rfl rfl ?_;refine qal ?_;refine X0 (zdu (.inl rfl) rfl) ?_;refine X0 (g_assert1 rfl rfl yu) ?_;refine X0 (zW (T:=zgM) (xs:=[_]) rfl zb3 row_78 yz rfl rfl) ?_;refine XK.e (fun fr' hfr kk H=>by exact zo rfl rfl rfl rfl ((hfr 8 yc).trans rfl) rfl ((hfr 11 yc).trans rfl) row_78 yG (zp H)) ?_;refine X0 (g_nc rfl rfl) ?_;refine X0 (oFp zjK) ?_;refine XK.e (x:=.idk) (fun fr' hfr kk H=>by exact zcW rfl rfl rfl ((hfr 14 yc).trans rfl) rfl rfl ((hfr 12 yc).trans rfl) rfl rfl rfl ty_78 (zp H)) ?_;refine xc ?_;refine zdK rfl ?_;refine CNR ?_;refine xR ?_;refine xR ?_;refine zbe (f:=48) rfl rfl rfl rfl rfl yu Tryz.func48 fn_48 rfl rfl (fun ia4 iok4=>?_);refine qcU ?_;refine A0 za1 ?_;refine zi (d:=10) (y:=((R.length:Nat):Int)) rfl yx ?_;refine zim 11 (fun H=>by
   refine zdJ rfl rfl rfl rfl Tryz.func84 fn_84 rfl rfl (fun ia5 iok5=>?_);refine CB ?_;refine Lp (ι:=Nat×List STip) 6 (fun (i:Nat×List STip)=>match i with|(j,Q)=>((Fr.none).set 0 (.ifc 77 (.ptr 1 0))).set 1 (.val i64T (j:Int))) (fun (i:Nat×List STip)=>match i with|(j,Q)=>(((Hp.none).set 0 (.box 25 zar s)).set 1 (.parts 80 [.own 5])).set 5 (.row 84 zgM Q)) (fun (i:Nat×List STip)=>match i with|(j,Q)=>j<Q.length∧Q.length≤1000∧upH lessS j Q=ziJ lessS R z) (fun (i:Nat×List STip)=>match i with|(j,Q)=>j) ((R.length,R++[z])) (⟨by simp,by simp;omega,rfl⟩) ?_;intro⟨j,Q⟩ hinv;dsimp only at hinv;refine CB ?_;refine CQ ?_;rcases Nat.eq_zero_or_pos j with hj0|hj0
   ·
    refine CR ?_;refine qco ?_;refine zi (d:=6) (y:=(-1:Int)) rfl ya ?_;refine A0 (g_quom rfl rfl rfl) ?_;refine qah ?_;refine qa9 ?_;refine A0 zct ?_;refine qa9 ?_;refine zmt (d:=11) rfl (ui yat) ?_;refine qac ?_;refine qc1 ?_;refine Ct ?_;refine CE ?_;refine zB (n:=5) (y:=ziJ lessS R z) rfl (by rw[←hinv.2.2];exact(up_first hj0).symm) ?_;refine zfc (nx':=6) (fr':=Fr.none) (hp':=(((Hp.none).set 0 (.box 25 zar s)).set 1 (.parts 80 [.own 5])).set 5 (.row 84 zgM (ziJ lessS R z))) ?_ rfl (by (repeat refine Fr.le_set ?_ y6);exact Fr.le_none _) (by (repeat refine Hp.le_set ?_ rfl);exact Hp.le_none _) (by (repeat refine Fr.below_setB ?_ rfl);exact Fr.below_none _) (by (repeat refine Hp.below_set ?_ yp);exact Hp.below_none _);exact zdK rfl H
   refine CR ?_;refine qco ?_;refine A0 (g_quo rfl rfl rfl ya yp rfl) ?_;refine zi (d:=7) (y:=(((j-1)/2:Nat):Int)) rfl ya ?_;refine qah ?_;refine qa9 ?_;refine A0 zct ?_;refine qa9 ?_;refine zgG (d:=11) rfl (uh yat) ?_;refine A1 (zdu (.inl rfl) rfl) ?_;refine A1 mV ?_;refine A1 mV ?_;refine zhC rfl rfl rfl rfl rfl rfl ?_;refine zim 15 (fun H=>by
    refine zbe (f:=286) rfl rfl rfl rfl rfl yu Tryz.func286 zp0 rfl rfl (fun ia6 iok6=>?_);obtain⟨x,hx⟩:∃x,Q[j]?=some x:=yq;obtain⟨y,hy⟩:∃y,Q[(j-1)/2]?=some y:=yq;refine CQR ?_;refine qb5 ?_;refine qa4 ?_;refine G0 (zI (i:=j) rfl rfl rfl rfl yh zb3 yd) ?_;refine qaF ?_;refine qa4 ?_;refine G0 (zI (i:=(j-1)/2) rfl rfl rfl rfl yh zb3 yd) ?_;refine qaF ?_;refine xS ?_;refine qc2 ?_;refine zaq (d:=27) (p:=0<cmpW x.work y.work) rfl yr (fun g27=>?_) (fun g27=>?_)
    ·
     refine qbz ?_;refine zi (d:=6) (y:=lessS (atH Q (j)) (atH Q ((j-1)/2))) rfl yam ?_;exact zaM rfl H
    refine G1 mV ?_;refine G1 zct ?_;refine G1 mV ?_;refine zaq (d:=30) (p:=cmpW x.work y.work=0) rfl yF (fun g30=>?_) (fun g30=>?_)
    ·
     refine qa5 ?_;refine G1 (zI (i:=j) rfl rfl rfl rfl yh zb3 yd) ?_;refine qaG ?_;refine qa5 ?_;refine G1 (zI (i:=(j-1)/2) rfl rfl rfl rfl yh zb3 yd) ?_;refine qcB ?_;refine zi (d:=6) (y:=lessS (atH Q (j)) (atH Q ((j-1)/2))) rfl yag ?_;exact zaM rfl H
    refine qch ?_;refine zi (d:=6) (y:=lessS (atH Q (j)) (atH Q ((j-1)/2))) rfl yah ?_;exact zaM rfl H) ?_
   refine A1 oN ?_;refine qar ?_;refine zk (p:=¬lessS (atH Q j) (atH Q ((j-1)/2))=true) rfl yx (fun ht17=>?_) (fun ht17=>?_)
   ·
    refine CE ?_;refine zB (n:=5) (y:=ziJ lessS R z) rfl (by rw[←hinv.2.2];exact(up_stop ht17).symm) ?_;refine zfc (nx':=6) (fr':=Fr.none) (hp':=(((Hp.none).set 0 (.box 25 zar s)).set 1 (.parts 80 [.own 5])).set 5 (.row 84 zgM (ziJ lessS R z))) ?_ rfl (by (repeat refine Fr.le_set ?_ y6);exact Fr.le_none _) (by (repeat refine Hp.le_set ?_ rfl);exact Hp.le_none _) (by (repeat refine Fr.below_setB ?_ rfl);exact Fr.below_none _) (by (repeat refine Hp.below_set ?_ yp);exact Hp.below_none _);exact zdK rfl H
   refine CSQR ?_;refine xR ?_;refine qai ?_;refine zbe (f:=289) rfl rfl rfl rfl rfl yu Tryz.func289 zpZ rfl rfl (fun ia7 iok7=>?_);obtain⟨sx,hsx⟩:∃x,Q[(j-1)/2]?=some x:=yq;obtain⟨sy,hsy⟩:∃y,Q[j]?=some y:=yq;obtain⟨sz,hsz⟩:∃z,(Q.set ((j-1)/2) sy)[j]?=some z:=yaw;refine xT ?_;refine qcM ?_;refine qal ?_;refine XK.ga (fun _=>g_mv (.inl rfl) rfl) rfl rfl rfl ?_;refine qcM ?_;refine X0 (zI (i:=j) rfl rfl rfl rfl yh zb3 yd) ?_;refine qbc ?_;refine qcM ?_;refine X0 (zI (i:=(j-1)/2) rfl rfl rfl rfl yh zb3 yd) ?_;refine qbc ?_;refine X0 (zI (i:=(j-1)/2) rfl rfl rfl rfl yh zb3 yd) ?_;refine XK.e (x:=.idk) (fun fr' hfr kk H=>by exact zai rfl rfl rfl ((hfr 30 yc).trans rfl) rfl rfl yj (Lens.self _) zhY ((hfr 22 yc).trans rfl) (zp H)) ?_;refine X0 (zI (i:=j) rfl rfl rfl rfl yh zb3 yd) ?_;refine XK.e (x:=.idk) (fun fr' hfr kk H=>by exact zai rfl rfl rfl ((hfr 31 yc).trans rfl) rfl rfl yj (Lens.self _) zhY ((hfr 29 yc).trans rfl) (zp H)) ?_;refine xc ?_;refine zdK rfl ?_;refine zB (n:=5) (y:=zc0 Q ((j-1)/2) (j)) rfl yaI ?_;refine CNR ?_;refine qa9 ?_;refine qad ?_;refine CI ?_;exact zri (((j-1)/2,zc0 Q ((j-1)/2) j)) (⟨by rw[zdb];omega,by rw[zdb];omega,by rw[←hinv.2.2];exact(up_go hj0 (ua ht17)).symm⟩) (by show(j-1)/2<j;omega) rfl (by (repeat refine Fr.le_set ?_ y6);exact Fr.le_none _) (by (repeat refine Hp.le_set ?_ rfl);exact Hp.le_none _) (by (repeat refine Fr.below_setB ?_ rfl);exact Fr.below_none _) (by (repeat refine Hp.below_set ?_ yp);exact Hp.below_none _)) ?_
  refine CN ?_;refine zdK rfl ?_;refine qcD ?_;refine zcP 3 ?_;refine zcP 4 ?_;refine zcj 5 2 7 rfl rfl rfl rfl rfl rfl ?_;refine zB (n:=2) (y:=zhM lessS (rawN s (i+1))) rfl (by rw[hrg,fill_snoc,hR,hz]) ?_;exact Nx (i+1) ya ya
 have hfh:=ziW zcn (zc1 s);obtain⟨R0,hR0⟩:∃R,R=zhM lessS (zc1 s):=⟨_,rfl⟩;have hrt:rawN s i=zc1 s:=by unfold rawN zc1;rw[show i=s.b.length by omega]
 refine zB (n:=2) (y:=R0) rfl (by rw[hrt,hR0]) ?_;rw[←hR0] at hfh;have hr0:R0.length≤1000:=by have h1:=raw_len (s:=s) (i:=s.b.length);have h2:=hfh.2.length_eq;have h3:zc1 s=rawN s s.b.length:=rfl;rw[h3] at h2;omega
 have htip:zd6 s=(zfa lessS R0.length R0).map (·.at_):=by unfold zd6;rw[ut (ua ht13),hR0]
 refine CE ?_;refine qaB ?_;refine CNQ ?_;refine CB ?_;refine zcw (T:=i64T) (d:=8) 3 rfl ?_;refine Lp (ι:=List STip×List Int) 4 (fun(R,out)=>(Fr.none.set 3 (.ptr 1 0)).set 8 (.own 3)) (fun(R,out)=>((Hp.none.set 1 (.parts 80 [.own 2])).set 2 (.row 84 zgM R)).set 3 (.row 3 i64T out)) (fun(R,out)=>zeC lessS R.length R∧R.length≤1000∧out.length+R.length≤1000∧zd6 s=out++(zfa lessS R.length R).map (·.at_)) (fun(R,out)=>R.length) ((R0,[])) (⟨hfh.1,hr0,by simp;omega,by rw[htip];rfl⟩) ?_;intro⟨R,out⟩ hinv;dsimp only at hinv;refine CQQR ?_;refine A0 mP ?_;refine zdJ rfl rfl rfl rfl Tryz.func48 fn_48 rfl rfl (fun ia8 iok8=>?_);refine qcU ?_;refine qc5 ?_;refine Cf (p:=0<R.length) (fun ht48=>?_) (fun ht48=>?_)
 ·
  obtain⟨n,hn⟩:∃n,R.length=n+1:=⟨R.length-1,by omega⟩;obtain⟨V,hV⟩:∃V,V=zgx lessS n 0 (zc0 R 0 n):=⟨_,rfl⟩;have hpo:=zrZ zcn zlJ hinv.1 ya;have hpp:popH lessS R=(atH V n,V.take n):=by unfold popH;rw[hn,Nat.add_sub_cancel,←hV]
  have hVl:V.length=n+1:=vlen hn hV;obtain⟨v,hv⟩:∃v,V[n]?=some v:=yq;rw[hpp] at hpo;have hdg:=drain_go hn;rw[hpp] at hdg;refine CS ?_;refine CB ?_;refine CQR ?_;refine A0 mP ?_;refine A0 (zov rfl rfl yu) ?_;refine zdJ rfl rfl rfl rfl Tryz.func49 fn_49 rfl rfl (fun ia9 iok9=>?_);refine qaB ?_;refine CNQR ?_;refine xR ?_;refine zbe (f:=48) rfl rfl rfl rfl rfl yu Tryz.func48 fn_48 rfl rfl (fun ia10 iok10=>?_);refine qcU ?_;refine A0 za1 ?_;refine zi (d:=6) (y:=(n:Int)) rfl ya ?_;refine qaj ?_;refine xR ?_;refine qa9 ?_;refine zbe (f:=289) rfl rfl rfl rfl rfl yu Tryz.func289 zpZ rfl rfl (fun ia11 iok11=>?_);obtain⟨sx,hsx⟩:∃x,R[0]?=some x:=yq;obtain⟨sy,hsy⟩:∃y,R[n]?=some y:=yq;obtain⟨sz,hsz⟩:∃z,(R.set (0) sy)[n]?=some z:=yaw;refine xT ?_;refine qcM ?_;refine qal ?_;refine XK.ga (fun _=>g_mv (.inl rfl) rfl) rfl rfl rfl ?_;refine qcM ?_;refine X0 (zI (i:=n) rfl rfl rfl rfl yh zb3 yd) ?_;refine qbc ?_;refine qcM ?_;refine X0 (zI (i:=0) rfl rfl rfl rfl yh zb3 yd) ?_;refine qbc ?_;refine X0 (zI (i:=0) rfl rfl rfl rfl yh zb3 yd) ?_;refine XK.e (x:=.idk) (fun fr' hfr kk H=>by exact zai rfl rfl rfl ((hfr 30 yc).trans rfl) rfl rfl yj (Lens.self _) zhY ((hfr 22 yc).trans rfl) (zp H)) ?_;refine X0 (zI (i:=n) rfl rfl rfl rfl yh zb3 yd) ?_;refine XK.e (x:=.idk) (fun fr' hfr kk H=>by exact zai rfl rfl rfl ((hfr 31 yc).trans rfl) rfl rfl yj (Lens.self _) zhY ((hfr 29 yc).trans rfl) (zp H)) ?_;refine xc ?_;refine zdK rfl ?_;refine zB (n:=2) (y:=zc0 R (0) (n)) rfl yaI ?_;refine CNQR ?_;refine xR ?_;refine qa9 ?_;refine zim 12 (fun H=>by
   refine zdJ rfl rfl rfl rfl Tryz.func85 fn_85 rfl rfl (fun ia12 iok12=>?_);refine CQR ?_;refine qaS ?_;refine qaJ ?_;refine CB ?_;refine Lp (ι:=Nat×List STip) 4 (fun (i:Nat×List STip)=>match i with|(i,Q)=>((((Fr.none).set 0 (.ifc 77 (.ptr 1 0))).set 1 (.val i64T 0)).set 2 (.val i64T (n:Int))).set 7 (.val i64T (i:Int))) (fun (i:Nat×List STip)=>match i with|(i,Q)=>(((Hp.none).set 1 (.parts 80 [.own 2])).set 2 (.row 84 zgM Q)).set 3 (.row 3 i64T out)) (fun (i:Nat×List STip)=>match i with|(i,Q)=>Q.length=n+1∧i≤n∧zgx lessS n i Q=V) (fun (i:Nat×List STip)=>match i with|(i,Q)=>n-i) ((0,zc0 R 0 n)) (⟨by rw[zdb];omega,uf _,hV.symm⟩) ?_;intro⟨i,Q⟩ hinv;dsimp only at hinv;refine CB ?_;refine qa0 ?_;refine A0 zfT ?_;refine A0 zbh ?_;refine zi (d:=14) (y:=((2*i+1:Nat):Int)) rfl ya ?_;refine qah ?_;refine qa9 ?_;refine A0 zec ?_;refine qa9 ?_;refine Sp (d:=18) (p:=n≤2*i+1) (fun g18=>?_) (fun g18=>?_)
   ·
    refine qc1 ?_;refine Ct ?_;refine qbQ ?_;refine qai ?_;refine A0 zcm ?_;refine qad ?_;refine zB (n:=2) (y:=V) rfl (by rw[←hinv.2.2];exact(zlR ya).symm) ?_;refine zfc (nx':=4) (fr':=Fr.none) (hp':=(((Hp.none).set 1 (.parts 80 [.own 2])).set 2 (.row 84 zgM V)).set 3 (.row 3 i64T out)) ?_ rfl (by (repeat refine Fr.le_set ?_ y6);exact Fr.le_none _) (by (repeat refine Hp.le_set ?_ rfl);exact Hp.le_none _) (by (repeat refine Fr.below_setB ?_ rfl);exact Fr.below_none _) (by (repeat refine Hp.below_set ?_ yp);exact Hp.below_none _);exact zaM rfl H
   refine A1 mV ?_;refine A1 zbK ?_;refine qar ?_;refine zfJ rfl (uh yat) ?_;refine qbL ?_;refine qah ?_;refine A0 zbh ?_;refine zi (d:=24) (y:=((2*i+2:Nat):Int)) rfl ya ?_;refine qbW ?_;refine A0 zbK ?_;refine qa9 ?_;refine Sp (d:=28) (p:=2*i+2<n) (fun g28=>?_) (fun g28=>?_)
   ·
    refine A1 (zdu (.inl rfl) rfl) ?_;refine A1 mV ?_;refine A1 mV ?_;refine zhC rfl rfl rfl rfl rfl rfl ?_;refine zim 32 (fun H=>by
     refine zbe (f:=286) rfl rfl rfl rfl rfl yu Tryz.func286 zp0 rfl rfl (fun ia13 iok13=>?_);obtain⟨x,hx⟩:∃x,Q[2*i+2]?=some x:=yq;obtain⟨y,hy⟩:∃y,Q[2*i+1]?=some y:=yq;refine CQR ?_;refine qb5 ?_;refine qa4 ?_;refine G0 (zI (i:=2*i+2) rfl rfl rfl rfl yh zb3 yd) ?_;refine qaF ?_;refine qa4 ?_;refine G0 (zI (i:=2*i+1) rfl rfl rfl rfl yh zb3 yd) ?_;refine qaF ?_;refine xS ?_;refine qc2 ?_;refine zaq (d:=27) (p:=0<cmpW x.work y.work) rfl yr (fun g27=>?_) (fun g27=>?_)
     ·
      refine qbz ?_;refine zi (d:=6) (y:=lessS (atH Q (2*i+2)) (atH Q (2*i+1))) rfl yam ?_;exact zaM rfl H
     refine G1 mV ?_;refine G1 zct ?_;refine G1 mV ?_;refine zaq (d:=30) (p:=cmpW x.work y.work=0) rfl yF (fun g30=>?_) (fun g30=>?_)
     ·
      refine qa5 ?_;refine G1 (zI (i:=2*i+2) rfl rfl rfl rfl yh zb3 yd) ?_;refine qaG ?_;refine qa5 ?_;refine G1 (zI (i:=2*i+1) rfl rfl rfl rfl yh zb3 yd) ?_;refine qcB ?_;refine zi (d:=6) (y:=lessS (atH Q (2*i+2)) (atH Q (2*i+1))) rfl yag ?_;exact zaM rfl H
     refine qch ?_;refine zi (d:=6) (y:=lessS (atH Q (2*i+2)) (atH Q (2*i+1))) rfl yah ?_;exact zaM rfl H) ?_
    refine qar ?_;refine zk (p:=lessS (atH Q (2*i+2)) (atH Q (2*i+1))=true) rfl yx (fun ht33=>?_) (fun ht33=>?_)
    ·
     have hc:childH lessS n i Q=2*i+2:=by unfold childH;rw[ut ⟨g28,ht33⟩]
     refine CR ?_;refine qa9 ?_;refine qaJ ?_;refine CQ ?_;refine xU ?_;have hcn:childH lessS n i Q<n∧i<childH lessS n i Q:=by rw[hc];omega
     refine CR ?_;refine xR ?_;refine qai ?_;refine zim 38 (fun H=>by
      refine zbe (f:=286) rfl rfl rfl rfl rfl yu Tryz.func286 zp0 rfl rfl (fun ia14 iok14=>?_);obtain⟨x,hx⟩:∃x,Q[childH lessS n i Q]?=some x:=yq;obtain⟨y,hy⟩:∃y,Q[i]?=some y:=yq;refine CQR ?_;refine qb5 ?_;refine qa4 ?_;refine G0 (zI (i:=childH lessS n i Q) rfl rfl rfl rfl yh zb3 yd) ?_;refine qaF ?_;refine qa4 ?_;refine G0 (zI (i:=i) rfl rfl rfl rfl yh zb3 yd) ?_;refine qaF ?_;refine xS ?_;refine qc2 ?_;refine zaq (d:=27) (p:=0<cmpW x.work y.work) rfl yr (fun g27=>?_) (fun g27=>?_)
      ·
       refine qbz ?_;refine xV ?_;exact zaM rfl H
      refine G1 mV ?_;refine G1 zct ?_;refine G1 mV ?_;refine zaq (d:=30) (p:=cmpW x.work y.work=0) rfl yF (fun g30=>?_) (fun g30=>?_)
      ·
       refine qa5 ?_;refine G1 (zI (i:=childH lessS n i Q) rfl rfl rfl rfl yh zb3 yd) ?_;refine qaG ?_;refine qa5 ?_;refine G1 (zI (i:=i) rfl rfl rfl rfl yh zb3 yd) ?_;refine qcB ?_;refine xW ?_;exact zaM rfl H
      refine qch ?_;refine xX ?_;exact zaM rfl H) ?_
     refine qaQ ?_;refine zk (p:=¬lessS (atH Q (childH lessS n i Q)) (atH Q i)=true) rfl yx (fun ht39=>?_) (fun ht39=>?_)
     ·
      refine qbQ ?_;refine qai ?_;refine A0 zcm ?_;refine qad ?_;refine zB (n:=2) (y:=V) rfl ybm ?_;refine zfc (nx':=4) (fr':=Fr.none) (hp':=(((Hp.none).set 1 (.parts 80 [.own 2])).set 2 (.row 84 zgM V)).set 3 (.row 3 i64T out)) ?_ rfl (by (repeat refine Fr.le_set ?_ y6);exact Fr.le_none _) (by (repeat refine Hp.le_set ?_ rfl);exact Hp.le_none _) (by (repeat refine Fr.below_setB ?_ rfl);exact Fr.below_none _) (by (repeat refine Hp.below_set ?_ yp);exact Hp.below_none _);exact zaM rfl H
     refine CSQR ?_;refine xR ?_;refine qai ?_;refine zbe (f:=289) rfl rfl rfl rfl rfl yu Tryz.func289 zpZ rfl rfl (fun ia15 iok15=>?_);obtain⟨sx,hsx⟩:∃x,Q[i]?=some x:=yq;obtain⟨sy,hsy⟩:∃y,Q[childH lessS n i Q]?=some y:=yq;obtain⟨sz,hsz⟩:∃z,(Q.set (i) sy)[childH lessS n i Q]?=some z:=yaw;refine xT ?_;refine qcM ?_;refine qal ?_;refine XK.ga (fun _=>g_mv (.inl rfl) rfl) rfl rfl rfl ?_;refine qcM ?_;refine xY ?_;refine qbc ?_;refine qcM ?_;refine xZ ?_;refine qbc ?_;refine xZ ?_;refine XK.e (x:=.idk) (fun fr' hfr kk H=>by exact zai rfl rfl rfl ((hfr 30 yc).trans rfl) rfl rfl yj (Lens.self _) zhY ((hfr 22 yc).trans rfl) (zp H)) ?_;refine xY ?_;refine XK.e (x:=.idk) (fun fr' hfr kk H=>by exact zai rfl rfl rfl ((hfr 31 yc).trans rfl) rfl rfl yj (Lens.self _) zhY ((hfr 29 yc).trans rfl) (zp H)) ?_;refine xc ?_;refine zdK rfl ?_;refine zB (n:=2) (y:=zc0 Q (i) (childH lessS n i Q)) rfl yaI ?_;refine CNR ?_;refine qa9 ?_;refine qad ?_;refine CI ?_;exact Nx ((childH lessS n i Q,zc0 Q i (childH lessS n i Q))) (⟨by rw[zdb];exact hinv.1,by omega,by rw[←hinv.2.2];exact(zoB ya (ua ht39)).symm⟩) ybq
    have hc:childH lessS n i Q=2*i+1:=by unfold childH;rw[ur (fun h=>ht33 h.2)]
    refine CS ?_;refine CQ ?_;refine CQ ?_;refine xU ?_;have hcn:childH lessS n i Q<n∧i<childH lessS n i Q:=by rw[hc];omega
    refine CR ?_;refine xR ?_;refine qai ?_;refine zim 38 (fun H=>by
     refine zbe (f:=286) rfl rfl rfl rfl rfl yu Tryz.func286 zp0 rfl rfl (fun ia16 iok16=>?_);obtain⟨x,hx⟩:∃x,Q[childH lessS n i Q]?=some x:=yq;obtain⟨y,hy⟩:∃y,Q[i]?=some y:=yq;refine CQR ?_;refine qb5 ?_;refine qa4 ?_;refine G0 (zI (i:=childH lessS n i Q) rfl rfl rfl rfl yh zb3 yd) ?_;refine qaF ?_;refine qa4 ?_;refine G0 (zI (i:=i) rfl rfl rfl rfl yh zb3 yd) ?_;refine qaF ?_;refine xS ?_;refine qc2 ?_;refine zaq (d:=27) (p:=0<cmpW x.work y.work) rfl yr (fun g27=>?_) (fun g27=>?_)
     ·
      refine qbz ?_;refine xV ?_;exact zaM rfl H
     refine G1 mV ?_;refine G1 zct ?_;refine G1 mV ?_;refine zaq (d:=30) (p:=cmpW x.work y.work=0) rfl yF (fun g30=>?_) (fun g30=>?_)
     ·
      refine qa5 ?_;refine G1 (zI (i:=childH lessS n i Q) rfl rfl rfl rfl yh zb3 yd) ?_;refine qaG ?_;refine qa5 ?_;refine G1 (zI (i:=i) rfl rfl rfl rfl yh zb3 yd) ?_;refine qcB ?_;refine xW ?_;exact zaM rfl H
     refine qch ?_;refine xX ?_;exact zaM rfl H) ?_
    refine qaQ ?_;refine zk (p:=¬lessS (atH Q (childH lessS n i Q)) (atH Q i)=true) rfl yx (fun ht39=>?_) (fun ht39=>?_)
    ·
     refine qbQ ?_;refine qai ?_;refine A0 zcm ?_;refine qad ?_;refine zB (n:=2) (y:=V) rfl ybm ?_;refine zfc (nx':=4) (fr':=Fr.none) (hp':=(((Hp.none).set 1 (.parts 80 [.own 2])).set 2 (.row 84 zgM V)).set 3 (.row 3 i64T out)) ?_ rfl (by (repeat refine Fr.le_set ?_ y6);exact Fr.le_none _) (by (repeat refine Hp.le_set ?_ rfl);exact Hp.le_none _) (by (repeat refine Fr.below_setB ?_ rfl);exact Fr.below_none _) (by (repeat refine Hp.below_set ?_ yp);exact Hp.below_none _);exact zaM rfl H
    refine CSQR ?_;refine xR ?_;refine qai ?_;refine zbe (f:=289) rfl rfl rfl rfl rfl yu Tryz.func289 zpZ rfl rfl (fun ia17 iok17=>?_);obtain⟨sx,hsx⟩:∃x,Q[i]?=some x:=yq;obtain⟨sy,hsy⟩:∃y,Q[childH lessS n i Q]?=some y:=yq;obtain⟨sz,hsz⟩:∃z,(Q.set (i) sy)[childH lessS n i Q]?=some z:=yaw;refine xT ?_;refine qcM ?_;refine qal ?_;refine XK.ga (fun _=>g_mv (.inl rfl) rfl) rfl rfl rfl ?_;refine qcM ?_;refine xY ?_;refine qbc ?_;refine qcM ?_;refine xZ ?_;refine qbc ?_;refine xZ ?_;refine XK.e (x:=.idk) (fun fr' hfr kk H=>by exact zai rfl rfl rfl ((hfr 30 yc).trans rfl) rfl rfl yj (Lens.self _) zhY ((hfr 22 yc).trans rfl) (zp H)) ?_;refine xY ?_;refine XK.e (x:=.idk) (fun fr' hfr kk H=>by exact zai rfl rfl rfl ((hfr 31 yc).trans rfl) rfl rfl yj (Lens.self _) zhY ((hfr 29 yc).trans rfl) (zp H)) ?_;refine xc ?_;refine zdK rfl ?_;refine zB (n:=2) (y:=zc0 Q (i) (childH lessS n i Q)) rfl yaI ?_;refine CNR ?_;refine qa9 ?_;refine qad ?_;refine CI ?_;exact Nx ((childH lessS n i Q,zc0 Q i (childH lessS n i Q))) (⟨by rw[zdb];exact hinv.1,by omega,by rw[←hinv.2.2];exact(zoB ya (ua ht39)).symm⟩) ybq
   have hc:childH lessS n i Q=2*i+1:=by unfold childH;rw[ur (fun h=>g28 h.1)]
   refine qac ?_;refine qaZ ?_;refine Cg ?_;refine CS ?_;refine CQ ?_;refine CQ ?_;refine xU ?_;have hcn:childH lessS n i Q<n∧i<childH lessS n i Q:=by rw[hc];omega
   refine CR ?_;refine xR ?_;refine qai ?_;refine zim 38 (fun H=>by
    refine zbe (f:=286) rfl rfl rfl rfl rfl yu Tryz.func286 zp0 rfl rfl (fun ia18 iok18=>?_);obtain⟨x,hx⟩:∃x,Q[childH lessS n i Q]?=some x:=yq;obtain⟨y,hy⟩:∃y,Q[i]?=some y:=yq;refine CQR ?_;refine qb5 ?_;refine qa4 ?_;refine G0 (zI (i:=childH lessS n i Q) rfl rfl rfl rfl yh zb3 yd) ?_;refine qaF ?_;refine qa4 ?_;refine G0 (zI (i:=i) rfl rfl rfl rfl yh zb3 yd) ?_;refine qaF ?_;refine xS ?_;refine qc2 ?_;refine zaq (d:=27) (p:=0<cmpW x.work y.work) rfl yr (fun g27=>?_) (fun g27=>?_)
    ·
     refine qbz ?_;refine xV ?_;exact zaM rfl H
    refine G1 mV ?_;refine G1 zct ?_;refine G1 mV ?_;refine zaq (d:=30) (p:=cmpW x.work y.work=0) rfl yF (fun g30=>?_) (fun g30=>?_)
    ·
     refine qa5 ?_;refine G1 (zI (i:=childH lessS n i Q) rfl rfl rfl rfl yh zb3 yd) ?_;refine qaG ?_;refine qa5 ?_;refine G1 (zI (i:=i) rfl rfl rfl rfl yh zb3 yd) ?_;refine qcB ?_;refine xW ?_;exact zaM rfl H
    refine qch ?_;refine xX ?_;exact zaM rfl H) ?_
   refine qaQ ?_;refine zk (p:=¬lessS (atH Q (childH lessS n i Q)) (atH Q i)=true) rfl yx (fun ht39=>?_) (fun ht39=>?_)
   ·
    refine qbQ ?_;refine qai ?_;refine A0 zcm ?_;refine qad ?_;refine zB (n:=2) (y:=V) rfl ybm ?_;refine zfc (nx':=4) (fr':=Fr.none) (hp':=(((Hp.none).set 1 (.parts 80 [.own 2])).set 2 (.row 84 zgM V)).set 3 (.row 3 i64T out)) ?_ rfl (by (repeat refine Fr.le_set ?_ y6);exact Fr.le_none _) (by (repeat refine Hp.le_set ?_ rfl);exact Hp.le_none _) (by (repeat refine Fr.below_setB ?_ rfl);exact Fr.below_none _) (by (repeat refine Hp.below_set ?_ yp);exact Hp.below_none _);exact zaM rfl H
   refine CSQR ?_;refine xR ?_;refine qai ?_;refine zbe (f:=289) rfl rfl rfl rfl rfl yu Tryz.func289 zpZ rfl rfl (fun ia19 iok19=>?_);obtain⟨sx,hsx⟩:∃x,Q[i]?=some x:=yq;obtain⟨sy,hsy⟩:∃y,Q[childH lessS n i Q]?=some y:=yq;obtain⟨sz,hsz⟩:∃z,(Q.set (i) sy)[childH lessS n i Q]?=some z:=yaw;refine xT ?_;refine qcM ?_;refine qal ?_;refine XK.ga (fun _=>g_mv (.inl rfl) rfl) rfl rfl rfl ?_;refine qcM ?_;refine xY ?_;refine qbc ?_;refine qcM ?_;refine xZ ?_;refine qbc ?_;refine xZ ?_;refine XK.e (x:=.idk) (fun fr' hfr kk H=>by exact zai rfl rfl rfl ((hfr 30 yc).trans rfl) rfl rfl yj (Lens.self _) zhY ((hfr 22 yc).trans rfl) (zp H)) ?_;refine xY ?_;refine XK.e (x:=.idk) (fun fr' hfr kk H=>by exact zai rfl rfl rfl ((hfr 31 yc).trans rfl) rfl rfl yj (Lens.self _) zhY ((hfr 29 yc).trans rfl) (zp H)) ?_;refine xc ?_;refine zdK rfl ?_;refine zB (n:=2) (y:=zc0 Q (i) (childH lessS n i Q)) rfl yaI ?_;refine CNR ?_;refine qa9 ?_;refine qad ?_;refine CI ?_;exact zri ((childH lessS n i Q,zc0 Q i (childH lessS n i Q))) (⟨by rw[zdb];exact hinv.1,by omega,by rw[←hinv.2.2];exact(zoB ya (ua ht39)).symm⟩) ybq rfl (by (repeat refine Fr.le_set ?_ y6);exact Fr.le_none _) (by (repeat refine Hp.le_set ?_ rfl);exact Hp.le_none _) (by (repeat refine Fr.below_setB ?_ rfl);exact Fr.below_none _) (by (repeat refine Hp.below_set ?_ yp);exact Hp.below_none _)) ?_
  refine CNQR ?_;refine xR ?_;refine zbe (f:=287) rfl rfl rfl rfl rfl yu Tryz.func287 fn_287 rfl rfl (fun ia20 iok20=>?_);refine qaB ?_;refine CNQR ?_;refine qbh ?_;refine A0 (za9 rfl rfl rfl isl_78) ?_;refine A0 za1 ?_;refine zi (d:=10) (y:=(n:Int)) rfl ya ?_;refine qaj ?_;refine qbh ?_;refine qa9 ?_;refine A0 (zI (i:=n) rfl rfl rfl rfl yh zb3 yd) ?_;refine A0 (zbA rfl rfl rfl rfl yj (Lens.self _) zhY) ?_;refine zP ze_84 rfl rfl rfl rfl ?_;refine zg rfl rfl rfl rfl rfl (Lens.self _) zhY rfl ?_;refine CNQR ?_;refine A0 mP ?_;refine qbh ?_;refine qa9 ?_;refine A0 (znp (q:=n) rfl rfl rfl rfl zb3 yh yd) ?_;refine zqn (d:=24) (n:=2) (len:=n) rfl rfl rfl ⟨by omega,by omega⟩ ?_;refine A0 (g_nc rfl rfl) ?_;refine A0 (oFp zjK) ?_;refine zcW rfl rfl rfl rfl rfl rfl rfl rfl rfl rfl ty_78 ?_;refine CNQR ?_;refine A0 (oLs rfl rfl rfl zhY) ?_;refine A0 (zov rfl rfl yu) ?_;refine A0 (zdu (.inr rfl) rfl) ?_;refine CN ?_;refine zaM rfl ?_;refine A0 (zdu (.inr rfl) rfl) ?_;refine CN ?_;refine zaM rfl ?_;refine A0 (g_assert2 rfl rfl yu) ?_;refine A0 yae ?_;refine qab ?_;refine zP ze_84 rfl rfl rfl rfl ?_;refine zg rfl rfl rfl rfl rfl (Lens.self _) zhY rfl ?_;refine A0 aX ?_;refine CNQQR ?_;refine A0 mX ?_;refine qaQ ?_;refine Cg ?_;refine CS ?_;refine CR ?_;refine A0 mO ?_;refine A0 (oFp zq2) ?_;refine A0 (oLb zjV ty_3) ?_;refine qbt ?_;refine qbK ?_;refine CI ?_;have hnx:=heap_next hn hVl hv hinv hpo.2.1 hdg;refine zcP 4 ?_;refine zcP 6 ?_;refine zcj 5 2 9 rfl rfl rfl rfl rfl rfl ?_;refine zcj 7 3 9 rfl rfl rfl rfl rfl rfl ?_;exact Nx ((V.take n,out++[v.at_])) (hnx) (by show(V.take n).length<R.length;rw[um];omega)
 have hR0e:R=[]:=List.eq_nil_of_length_eq_zero ya;refine qa7 ?_;exact za rfl rfl (zf rfl rfl (by rw[hinv.2.2.2,hR0e];simp[zfa]))
end Go.Proofs.YtgoebfjaaklopaaGreat
