/- Parts of the proof: the layer that reads Go values as data, and what the functions of the program tell. -/
import Derived.Test.YtgoebfjaaklopaaGreatK5
set_option linter.unusedVariables false
set_option linter.unusedSimpArgs false
set_option maxRecDepth 20000
namespace Go.Proofs.YtgoebfjaaklopaaGreat
open Go.Ab Go.RowKit
theorem zrF (a b:UInt64) {c:UInt64} (h:c.toNat≤1):(subS a b c).toNat=(a.toNat+18446744073709551616-b.toNat-c.toNat)%18446744073709551616:=by unfold subS;rw[UInt64.toNat_ofNat']
theorem zrG (a b c:UInt64):(subC a b c).toNat=if a.toNat<b.toNat+c.toNat then 1 else 0:=by unfold subC;split<;>rfl
theorem zqi (a0 a1 a2 a3 b0 b1 b2 b3:UInt64):za6 subS subC [a0,a1,a2,a3] [b0,b1,b2,b3] 4=([subS a0 b0 0,subS a1 b1 (subC a0 b0 0),subS a2 b2 (subC a1 b1 (subC a0 b0 0)),subS a3 b3 (subC a2 b2 (subC a1 b1 (subC a0 b0 0)))],subC a3 b3 (subC a2 b2 (subC a1 b1 (subC a0 b0 0)))):=rfl
theorem zkz {a b:Wide} (ha:a.length=4) (hb:b.length=4):(subW a b).length=4:=by
  obtain⟨a0,a1,a2,a3,rfl⟩:=zfi ha;obtain⟨b0,b1,b2,b3,rfl⟩:=zfi hb;unfold subW;rw[zqi];rfl
theorem zsa {a b:Wide} (ha:a.length=4) (hb:b.length=4):nW (subW a b)=(nW a+W256-nW b)%W256∧(zpd a b=true↔nW b≤nW a):=by
  obtain⟨a0,a1,a2,a3,rfl⟩:=zfi ha;obtain⟨b0,b1,b2,b3,rfl⟩:=zfi hb;have h0:a0.toNat<18446744073709551616:=a0.toNat_lt;have h1:a1.toNat<18446744073709551616:=a1.toNat_lt;have h2:a2.toNat<18446744073709551616:=a2.toNat_lt;have h3:a3.toNat<18446744073709551616:=a3.toNat_lt;have k0:b0.toNat<18446744073709551616:=b0.toNat_lt;have k1:b1.toNat<18446744073709551616:=b1.toNat_lt;have k2:b2.toNat<18446744073709551616:=b2.toNat_lt;have k3:b3.toNat<18446744073709551616:=b3.toNat_lt;have z0:(0:UInt64).toNat=0:=rfl;have c1:=zrG a0 b0 0;have c2:=zrG a1 b1 (subC a0 b0 0);have c3:=zrG a2 b2 (subC a1 b1 (subC a0 b0 0));have c4:=zrG a3 b3 (subC a2 b2 (subC a1 b1 (subC a0 b0 0)));have s0:=zrF a0 b0 (show(0:UInt64).toNat≤1 by decide);have s1:=zrF a1 b1 (znS a0 b0 0);have s2:=zrF a2 b2 (znS a1 b1 (subC a0 b0 0));have s3:=zrF a3 b3 (znS a2 b2 (subC a1 b1 (subC a0 b0 0)));unfold subW zpd;rw[zqi];unfold nW W256;simp only[List.getD_cons_zero,List.getD_cons_succ,uj];rw[z0] at c1 s0;generalize subC a3 b3 (subC a2 b2 (subC a1 b1 (subC a0 b0 0)))=x4 at *;generalize subS a3 b3 (subC a2 b2 (subC a1 b1 (subC a0 b0 0)))=y3 at *;generalize subS a2 b2 (subC a1 b1 (subC a0 b0 0))=y2 at *;generalize subC a2 b2 (subC a1 b1 (subC a0 b0 0))=x3 at *;generalize subS a1 b1 (subC a0 b0 0)=y1 at *;generalize subC a1 b1 (subC a0 b0 0)=x2 at *;generalize subS a0 b0 0=y0 at *;generalize subC a0 b0 0=x1 at *;have e0:y0.toNat+b0.toNat=a0.toNat+18446744073709551616*x1.toNat:=by split at c1<;>omega
  have e1:y1.toNat+b1.toNat+x1.toNat=a1.toNat+18446744073709551616*x2.toNat:=by split at c1<;>split at c2<;>omega
  have e2:y2.toNat+b2.toNat+x2.toNat=a2.toNat+18446744073709551616*x3.toNat:=by split at c2<;>split at c3<;>omega
  have e3:y3.toNat+b3.toNat+x3.toNat=a3.toNat+18446744073709551616*x4.toNat:=by split at c3<;>split at c4<;>omega
  have l0:y0.toNat<18446744073709551616:=y0.toNat_lt;have l1:y1.toNat<18446744073709551616:=y1.toNat_lt;have l2:y2.toNat<18446744073709551616:=y2.toNat_lt;have l3:y3.toNat<18446744073709551616:=y3.toNat_lt;have l4:x4.toNat≤1:=by split at c4<;>omega
  clear c1 c2 c3 c4 s0 s1 s2 s3
  constructor
  · omega
  constructor<;>intro h<;>omega
theorem limb_n {a:Wide} {q:Nat} (h:a.length=4) (hq:q<4):(a.getD q 0).toNat=nW a/18446744073709551616^q%18446744073709551616:=by
  obtain⟨a0,a1,a2,a3,rfl⟩:=zfi h;have h0:a0.toNat<18446744073709551616:=a0.toNat_lt;have h1:a1.toNat<18446744073709551616:=a1.toNat_lt;have h2:a2.toNat<18446744073709551616:=a2.toNat_lt;have h3:a3.toNat<18446744073709551616:=a3.toNat_lt;unfold nW;simp only[List.getD_cons_zero,List.getD_cons_succ]
  match q,hq with
  | 0,_=>simp only[List.getD_cons_zero];omega
  | 1,_=>simp only[List.getD_cons_zero,List.getD_cons_succ];omega
  | 2,_=>simp only[List.getD_cons_zero,List.getD_cons_succ];omega
  | 3,_=>simp only[List.getD_cons_zero,List.getD_cons_succ];omega
theorem set_n {a:Wide} {q:Nat} {v:UInt64} (h:a.length=4) (hq:q<4):nW (a.set q v)+(a.getD q 0).toNat*18446744073709551616^q=nW a+v.toNat*18446744073709551616^q:=by
  obtain⟨a0,a1,a2,a3,rfl⟩:=zfi h;unfold nW
  match q,hq with
  | 0,_=>simp only[List.set_cons_zero,List.getD_cons_zero,List.getD_cons_succ];omega
  | 1,_=>simp only[List.set_cons_zero,List.set_cons_succ,List.getD_cons_zero,List.getD_cons_succ];omega
  | 2,_=>simp only[List.set_cons_zero,List.set_cons_succ,List.getD_cons_zero,List.getD_cons_succ];omega
  | 3,_=>simp only[List.set_cons_zero,List.set_cons_succ,List.getD_cons_zero,List.getD_cons_succ];omega
theorem orBit_n {a:Wide} {n K:Nat} (h:a.length=4) (hn:n<256) (hd:nW a=K*2^(n+1)):nW (zjA a n)=nW a+2^n:=by
  obtain⟨q,r,rfl,hr⟩:∃q r,n=64*q+r∧r<64:=⟨n/64,n%64,by omega,by omega⟩;have hq:q<4:=ya;have e1:(64*q+r)/64=q:=ya;have e2:(64*q+r)%64=r:=ya;unfold zjA;rw[e1,e2];have hs:=set_n (v:=a.getD q default|||zhJ 1 r) h hq;have hl:=limb_n h hq;have ep:2^(64*q+r+1)=18446744073709551616^q*2^(r+1):=by rw[Nat.add_assoc,Nat.pow_add,Nat.pow_mul]
  have epn:2^(64*q+r)=18446744073709551616^q*2^r:=by rw[Nat.pow_add,Nat.pow_mul]
  have hb:0<18446744073709551616^q:=Nat.pow_pos yp;have hl2:(a.getD q 0).toNat=K%2^(63-r)*2^(r+1):=by
    rw[hl,hd,ep,Nat.mul_left_comm,Nat.mul_div_cancel_left _ hb,←ze2 (r:=r+1) ya,show 64-(r+1)=63-r by omega,Nat.mul_comm (2^(r+1)) (2^(63-r)),Nat.mul_mod_mul_right]
  have hv:(a.getD q default|||zhJ 1 r).toNat=(a.getD q 0).toNat+2^r:=by
    have h1:(zhJ 1 r).toNat=2^r:=by
      rw[shl_n hr];show 1*2^r%_=_;rw[Nat.one_mul,Nat.mod_eq_of_lt];exact Nat.pow_lt_pow_right yp hr
    rw[UInt64.toNat_or,h1];show(a.getD q 0).toNat|||2^r=_
    rw[hl2,zr2 (Nat.pow_lt_pow_right yp ya)]
  rw[hv,Nat.add_mul,Nat.mul_comm (2^r),←epn] at hs;omega
theorem bitLen_n (n:Nat):n<2^zae n∧(0<n→2^(zae n-1)≤n):=by
  unfold zae
  split
  · rename_i h;subst h;exact⟨by decide,fun h=>absurd h yp⟩
  rename_i h;exact⟨Nat.lt_log2_self,fun _=>by rw[Nat.add_sub_cancel];exact Nat.log2_self_le h⟩
theorem longW_n {a:Wide} (h:a.length=4):nW a<2^longW a∧(0<nW a→1≤longW a∧2^(longW a-1)≤nW a):=by
  obtain⟨a0,a1,a2,a3,rfl⟩:=zfi h;have h0:a0.toNat<18446744073709551616:=a0.toNat_lt;have h1:a1.toNat<18446744073709551616:=a1.toNat_lt;have h2:a2.toNat<18446744073709551616:=a2.toNat_lt;have h3:a3.toNat<18446744073709551616:=a3.toNat_lt;have key:∀(x k R:Nat) ,0<x→R<18446744073709551616^k→R+18446744073709551616^k*x<2^(k*64+zae x)∧1≤k*64+zae x∧2^(k*64+zae x-1)≤R+18446744073709551616^k*x:=fun x k R hx hR=>by
    obtain⟨b1,b2⟩:=bitLen_n x;have b2:=b2 hx;have b3:1≤zae x:=znI hx;have e:2^(k*64+zae x)=18446744073709551616^k*2^zae x:=by rw[Nat.mul_comm k 64,Nat.pow_add,Nat.pow_mul]
    have e':2^(k*64+zae x-1)=18446744073709551616^k*2^(zae x-1):=by rw[Nat.add_sub_assoc b3,Nat.mul_comm k 64,Nat.pow_add,Nat.pow_mul]
    refine⟨?_,by omega,?_⟩
    · rw[e]
      have:=Nat.mul_le_mul_left (18446744073709551616^k) (show x+1≤2^zae x from b1)
      rw[Nat.mul_add,Nat.mul_one] at this;omega
    rw[e']
    have:=Nat.mul_le_mul_left (18446744073709551616^k) b2
    omega
  unfold longW;simp only[zku,List.getD_cons_succ,List.getD_cons_zero];unfold nW;simp only[List.getD_cons_succ,List.getD_cons_zero];by_cases c3:0<a3.toNat
  · rw[ut c3]
    obtain⟨x,y,z⟩:=key a3.toNat 3 (a0.toNat+18446744073709551616*a1.toNat+340282366920938463463374607431768211456*a2.toNat) c3 ya;exact⟨x,fun _=>⟨y,z⟩⟩
  rw[ur c3];have z3:a3.toNat=0:=ya;rw[z3];by_cases c2:0<a2.toNat
  · rw[ut c2]
    obtain⟨x,y,z⟩:=key a2.toNat 2 (a0.toNat+18446744073709551616*a1.toNat) c2 ya;exact⟨x,fun _=>⟨y,z⟩⟩
  rw[ur c2];have z2:a2.toNat=0:=ya;rw[z2];by_cases c1:0<a1.toNat
  · rw[ut c1]
    obtain⟨x,y,z⟩:=key a1.toNat 1 a0.toNat c1 ya;rw[Nat.pow_one] at x z;exact⟨x,fun _=>⟨y,z⟩⟩
  rw[ur c1];have z1:a1.toNat=0:=ya;rw[z1];by_cases c0:0<a0.toNat
  · rw[ut c0]
    obtain⟨x,y,z⟩:=key a0.toNat 0 0 c0 yp;exact⟨by simpa using x,fun _=>⟨y,by simpa using z⟩⟩
  rw[ur c0];have z0:a0.toNat=0:=ya;rw[z0];exact⟨by decide,fun h=>absurd h yp⟩
theorem divN_n {b:Wide} (hb:b.length=4) {A:Nat}:∀(n:Nat) (x:Wide×Wide),x.1.length=4→x.2.length=4→nW b*2^n≤2*W256→n≤256→A=nW x.2*nW b+nW x.1→nW x.1<nW b*2^n→(∃K,nW x.2=K*2^n)→(∀k,k<n→nW b*2^k<W256)→
    (divN b n x).1.length=4∧(divN b n x).2.length=4∧A=nW (divN b n x).2*nW b+nW (divN b n x).1∧nW (divN b n x).1<nW b
  | 0,x,h1,h2,_,_,h3,h4,_,_=>⟨h1,h2,h3,by rw[Nat.pow_zero,Nat.mul_one] at h4;exact h4⟩
  | n+1,x,h1,h2,h5,h6,h3,h4,⟨K,hK⟩,h8=>by
    have hup:=nW_up (a:=b) (n:=n) hb ya;have hlt:=h8 n ya;rw[Nat.mod_eq_of_lt hlt] at hup;have hul:=zhW (n:=(n:Int)) hb;obtain⟨s1,s2⟩:=zsa h1 hul;have hx1:=zpC h1;have ep:2^(n+1)=2*2^n:=by rw[Nat.pow_succ,Nat.mul_comm]
    have eb:nW b*2^(n+1)=2*(nW b*2^n):=by rw[ep,Nat.mul_left_comm]
    rw[divN];unfold zik;by_cases c:zpd x.1 (upW b n)=true
    · rw[ut c]
      have hle:=s2.1 c;rw[hup] at hle s1;have e1:nW (subW x.1 (upW b n))=nW x.1-nW b*2^n:=by rw[s1,show nW x.1+W256-nW b*2^n=(nW x.1-nW b*2^n)+W256 by omega,Nat.add_mod_right,Nat.mod_eq_of_lt ya]
      have e2:=orBit_n h2 (show n<256 by omega) hK;refine divN_n hb n (subW x.1 (upW b n),zjA x.2 n) (show(subW x.1 (upW b n)).length=4 from zkz h1 hul) (by show(zjA x.2 n).length=4;unfold zjA;rw[List.length_set];exact h2) ya ya ?_ ?_ ⟨2*K+1,?_⟩ (fun k hk=>h8 k ya)
      · show A=nW (zjA x.2 n)*nW b+nW (subW x.1 (upW b n))
        rw[e1,e2,Nat.add_mul,Nat.mul_comm (2^n)];omega
      · show nW (subW x.1 (upW b n))<_
        rw[e1];omega
      show nW (zjA x.2 n)=_;rw[e2,hK,ep,Nat.add_mul,Nat.one_mul,Nat.mul_comm 2 K,Nat.mul_assoc]
    rw[ur c];have hgt:nW x.1<nW b*2^n:=by
      rw[←hup];exact Nat.lt_of_not_le fun hh=>c (s2.2 hh)
    exact divN_n hb n x h1 h2 ya ya h3 hgt ⟨K*2,by rw[hK,ep,Nat.mul_assoc]⟩ (fun k hk=>h8 k ya)
theorem zoc:nW zax=0:=rfl
theorem nW_pos {b:Wide} (hb:b.length=4) (h:b≠zax):0<nW b:=by
  refine Nat.pos_of_ne_zero fun e=>h (zgE hb rfl (by rw[e];rfl))
theorem nW_div {a b:Wide} (ha:a.length=4) (hb:b.length=4) (h:b≠zax):(divW a b).length=4∧(remW a b).length=4∧nW (divW a b)=nW a/nW b∧nW (remW a b)=nW a%nW b:=by
  have hp:=nW_pos hb h;obtain⟨la,_⟩:=longW_n ha;obtain⟨lb,lb2⟩:=longW_n hb;obtain⟨lb3,lb4⟩:=lb2 hp;have wa:=zoh a;have pw:2^256=W256:=yp;have hn:longW a+1-longW b≤256:=ya;have hover:∀k,k<longW a+1-longW b→nW b*2^k<W256:=fun k hk=>by
    have h1:nW b*2^k<2^longW b*2^k:=Nat.mul_lt_mul_of_pos_right lb (Nat.two_pow_pos k);rw[←Nat.pow_add] at h1;have h2:2^(longW b+k)≤2^256:=Nat.pow_le_pow_right yp ya;rw[pw] at h2;omega
  have hstart:nW a<nW b*2^(longW a+1-longW b):=by
    have h1:2^(longW b-1)*2^(longW a+1-longW b)≤nW b*2^(longW a+1-longW b):=Nat.mul_le_mul_right _ lb4;rw[←Nat.pow_add] at h1;have h2:2^longW a≤2^(longW b-1+(longW a+1-longW b)):=Nat.pow_le_pow_right yp ya;omega
  obtain⟨N,hN⟩:∃N,N=longW a+1-longW b:=⟨_,rfl⟩;unfold divW remW divP;rw[ur h];rw[←hN] at hn hover hstart ⊢;show(divN b N (a,zax)).2.length=4∧(divN b N (a,zax)).1.length=4∧nW (divN b N (a,zax)).2=_∧nW (divN b N (a,zax)).1=_;have hbound:nW b*2^N≤2*W256:=by
    cases N with
    | zero=>rw[Nat.pow_zero,Nat.mul_one];have:=zpC hb;omega
    | succ n=>have:=hover n ya;rw[Nat.pow_succ,←Nat.mul_assoc];omega
  obtain⟨g1,g2,g3,g4⟩:=divN_n hb (A:=nW a) N (a,zax) ha rfl hbound hn (by show nW a=nW zax*nW b+nW a;rw[zoc,Nat.zero_mul,Nat.zero_add]) hstart ⟨0,by rw[Nat.zero_mul];rfl⟩ hover;refine⟨g2,g1,?_,?_⟩
  · conv=>rhs;rw[g3]
    rw[Nat.add_comm,Nat.add_mul_div_right _ _ hp,Nat.div_eq_of_lt g4,Nat.zero_add]
  conv=>rhs;rw[g3]
  rw[Nat.add_comm,Nat.add_mul_mod_self_right,Nat.mod_eq_of_lt g4]
set_option maxRecDepth 20000
def rcmp (a b:Wide):Nat→Int
  | 0=>0
  | k+1=>if cmpU (a.getD k default) (b.getD k default)=0 then rcmp a b k else cmpU (a.getD k default) (b.getD k default)
theorem rcmp_all (a b:Wide):cmpW a b=rcmp a b 4:=rfl
theorem rcmp_lt {a b:Wide} {k:Nat} (hk:0<k) (h:a.getD (k-1) default<b.getD (k-1) default):rcmp a b k = -1:=by
  obtain⟨j,rfl⟩:∃j,k=j+1:=⟨k-1,by omega⟩;rw[Nat.add_sub_cancel] at h;rw[rcmp];have e:cmpU (a.getD j default) (b.getD j default) = -1:=by unfold cmpU;rw[ut h]
  rw[e];rfl
theorem rcmp_gt {a b:Wide} {k:Nat} (hk:0<k) (h1:¬a.getD (k-1) default<b.getD (k-1) default) (h:b.getD (k-1) default<a.getD (k-1) default):rcmp a b k=1:=by
  obtain⟨j,rfl⟩:∃j,k=j+1:=⟨k-1,by omega⟩;rw[Nat.add_sub_cancel] at h h1;rw[rcmp];have e:cmpU (a.getD j default) (b.getD j default)=1:=by unfold cmpU;rw[ur h1,ut h]
  rw[e];rfl
theorem rcmp_eq {a b:Wide} {k:Nat} (hk:0<k) (h1:¬a.getD (k-1) default<b.getD (k-1) default) (h:¬b.getD (k-1) default<a.getD (k-1) default):rcmp a b k=rcmp a b (k-1):=by
  obtain⟨j,rfl⟩:∃j,k=j+1:=⟨k-1,by omega⟩;rw[Nat.add_sub_cancel] at h h1 ⊢;rw[rcmp];have e:cmpU (a.getD j default) (b.getD j default)=0:=by unfold cmpU;rw[ur h1,ur h]
  rw[e,ut rfl]
def radF (a b:Wide) (i:Nat):UInt64:=addS (a.getD i default) (b.getD i default) (za6 addS addC a b i).2
theorem radF_all {a b:Wide} (ha:a.length=4) (hb:b.length=4):(List.range 4).map (radF a b)=addW a b:=by
  obtain⟨a0,a1,a2,a3,rfl⟩:=zfi ha;obtain⟨b0,b1,b2,b3,rfl⟩:=zfi hb;rfl
theorem zgA {a b:Wide} {k:Nat} (ha:a.length=4) (hb:b.length=4) (hk:k<4):(za6 addS addC a b (k+1)).2=addC (a.getD k default) (b.getD k default) (za6 addS addC a b k).2:=by
  obtain⟨a0,a1,a2,a3,rfl⟩:=zfi ha;obtain⟨b0,b1,b2,b3,rfl⟩:=zfi hb
  match k,hk with
  | 0,_=>rfl
  | 1,_=>rfl
  | 2,_=>rfl
  | 3,_=>rfl
theorem zrp (x y c:UInt64):addS x y c=x+y+c:=by
  apply UInt64.toNat_inj.1;rw[zqy,UInt64.toNat_add,UInt64.toNat_add];omega
theorem add_over {x y c:UInt64} (hc:c.toNat≤1):addC x y c=if x+y<x∨x+y+c<x+y then 1 else 0:=by
  have hx:x.toNat<18446744073709551616:=x.toNat_lt;have hy:y.toNat<18446744073709551616:=y.toNat_lt;apply UInt64.toNat_inj.1;rw[zqz _ _ hc];simp only[UInt64.lt_iff_toNat_lt,UInt64.toNat_add]
  split
  · show _=1;omega
  show _=0;omega
theorem zjv (n:UInt64):Tells P 165 [.val u64T n] (.val zL (ofW n)):=by
 refine zc Tryz.func165 rfl rfl rfl (fun ext w hext=>?_);refine CQR ?_;refine qau ?_;refine qbX ?_;refine A0 (zgq (T:=u64T) (xs:=[_,_,_,_]) rfl zaO zf7 yaK rfl) ?_;refine qag ?_;refine CN ?_;exact zq rfl rfl rfl rfl zV (rfl)
theorem ziI (a b:Wide):Tells P 51 [.val zL a,.val zL b] (.val i64T (cmpW a b)):=by
 refine zc Tryz.func51 rfl rfl rfl (fun ext w hext=>?_);refine ze (d:=0) rfl zaC (fun ha=>?_);refine ze (d:=1) rfl zaC (fun hb=>?_);refine qaw ?_;refine qbR ?_;refine Lp (ι:=Nat) 2 (fun (k:Nat)=>(((Fr.none).set 2 (.ptr 0 0)).set 3 (.ptr 1 0)).set 5 (.val i64T ((k:Int)-1))) (fun (k:Nat)=>((Hp.none).set 0 (.box 30 zL a)).set 1 (.box 30 zL b)) (fun (k:Nat)=>k≤4∧cmpW a b=rcmp a b k) (fun (k:Nat)=>k) (4) (⟨ug _,rcmp_all a b⟩) ?_;intro k hinv;refine qaK ?_;refine qbP ?_;refine Cf (p:=0<k) (fun ht7=>?_) (fun ht7=>?_)
 ·
  refine qaD ?_;refine CQ ?_;refine qaH ?_;refine G0 mV ?_;refine G0 (zs (i:=k-1) rfl rfl rfl yh zaO ya) ?_;refine xJ ?_;refine G0 mV ?_;refine G0 (zs (i:=k-1) rfl rfl rfl yh zaO ya) ?_;refine xJ ?_;refine G0 zbK ?_;refine GK.nil ?_;refine zk (p:=a.getD (k-1) default<b.getD (k-1) default) rfl yaS (fun ht16=>?_) (fun ht16=>?_)
  ·
   refine qaq ?_;exact za rfl rfl (zb rfl (by rw[hinv.2,rcmp_lt ht7 ht16]))
  refine CS ?_;refine qaH ?_;refine G0 mV ?_;refine G0 (zs (i:=k-1) rfl rfl rfl yh zaO ya) ?_;refine xJ ?_;refine G0 mV ?_;refine G0 (zs (i:=k-1) rfl rfl rfl yh zaO ya) ?_;refine xJ ?_;refine G0 zcm ?_;refine GK.nil ?_;refine zk (p:=b.getD (k-1) default<a.getD (k-1) default) rfl yaS (fun ht23=>?_) (fun ht23=>?_)
  ·
   refine qaq ?_;exact za rfl rfl (zb rfl (by rw[hinv.2,rcmp_gt ht7 ht16 ht23]))
  refine CSIR ?_;refine qco ?_;refine qad ?_;refine zi (d:=5) (y:=((k-1:Nat):Int)-1) rfl ya ?_;exact Nx (k-1) (⟨by omega,by rw[hinv.2,rcmp_eq ht7 ht16 ht23]⟩) ya
 obtain rfl:k=0:=ya;refine qcc ?_;exact za rfl rfl (zb rfl (by rw[hinv.2];rfl))
theorem zcR (a b:Wide):Tells P 86 [.val zL a,.val zL b] (.tup2 (.val zL (addW a b)) (.val zu (zf5 a b))):=by
 refine zc Tryz.func86 rfl rfl rfl (fun ext w hext=>?_);refine ze (d:=0) rfl zaC (fun ha=>?_);refine ze (d:=1) rfl zaC (fun hb=>?_);refine qaw ?_;refine qau ?_;refine qaj ?_;refine qau ?_;refine CNQR ?_;refine qbR ?_;refine Lp (ι:=Nat) 4 (fun (k:Nat)=>((((((Fr.none).set 2 (.ptr 0 0)).set 3 (.ptr 1 0)).set 4 (.ptr 2 0)).set 6 (.ptr 3 0)).set 7 (.val u64T (za6 addS addC a b k).2)).set 8 (.val i64T (k:Int))) (fun (k:Nat)=>((((Hp.none).set 0 (.box 30 zL a)).set 1 (.box 30 zL b)).set 2 (.box 30 zL zax)).set 3 (.box 30 zL (setN (radF a b) zax k))) (fun (k:Nat)=>k≤4∧(za6 addS addC a b k).2.toNat≤1) (fun (k:Nat)=>4-k) (0) (⟨uf _,uf 1⟩) ?_;intro k hinv;refine qaK ?_;refine qa1 ?_;refine Cf (p:=k<4) (fun ht12=>?_) (fun ht12=>?_)
 ·
  have hc2:=(zgA ha hb ht12).trans (add_over hinv.2);refine qcK ?_;refine G0 mV ?_;refine G0 (zs (i:=k) rfl rfl rfl yh zaO ya) ?_;refine G0 (zl rfl rfl rfl (Lens.elem (i:=k) ya u64T) zaQ) ?_;refine G0 mV ?_;refine G0 (zs (i:=k) rfl rfl rfl yh zaO ya) ?_;refine G0 (zl rfl rfl rfl (Lens.elem (i:=k) ya u64T) zaQ) ?_;refine G0 (zfC rfl rfl rfl) ?_;refine qa6 ?_;refine CQR ?_;refine qai ?_;refine A0 (zfC rfl rfl rfl) ?_;refine qaj ?_;refine qah ?_;refine qa9 ?_;refine xK ?_;refine A0 (zl rfl rfl rfl (Lens.elem (i:=k) ya u64T) zaQ) ?_;refine A0 zbK ?_;refine qa9 ?_;refine zad (d:=30) (p:=a.getD k default+b.getD k default<a.getD k default) rfl (uo.2 (by rw[UInt64.lt_iff_toNat_lt];exact Int.ofNat_lt)) (fun g30=>?_) (fun g30=>?_)
  ·
   refine qac ?_;refine qar ?_;refine Ct ?_;refine CR ?_;refine qci ?_;refine qai ?_;refine xK ?_;refine xL ?_;refine qb3 ?_;refine zJ (n:=3) (y:=setN (radF a b) zax (k+1)) rfl (by rw[←zeZ];unfold radF;rw[zrp]) ?_;refine zi (d:=7) (y:=(za6 addS addC a b (k+1)).2) rfl (by rw[hc2,ut (.inl g30)];rfl) ?_;exact Nx (k+1) (⟨by omega,by rw[zgA ha hb ht12];exact zin _ _ hinv.2⟩) ya
  refine A1 mV ?_;refine A1 mV ?_;refine A1 zbK ?_;refine qar ?_;refine zk (p:=a.getD k default+b.getD k default+(za6 addS addC a b k).2<a.getD k default+b.getD k default) rfl (uo.2 (by rw[UInt64.lt_iff_toNat_lt];exact Int.ofNat_lt)) (fun ht34=>?_) (fun ht34=>?_)
  ·
   refine CR ?_;refine qci ?_;refine qai ?_;refine xK ?_;refine xL ?_;refine qb3 ?_;refine zJ (n:=3) (y:=setN (radF a b) zax (k+1)) rfl (by rw[←zeZ];unfold radF;rw[zrp]) ?_;refine zi (d:=7) (y:=(za6 addS addC a b (k+1)).2) rfl (by rw[hc2,ut (.inr ht34)];rfl) ?_;exact Nx (k+1) (⟨by omega,by rw[zgA ha hb ht12];exact zin _ _ hinv.2⟩) ya
  refine CS ?_;refine CR ?_;refine qai ?_;refine xK ?_;refine xL ?_;refine qb3 ?_;refine zJ (n:=3) (y:=setN (radF a b) zax (k+1)) rfl (by rw[←zeZ];unfold radF;rw[zrp]) ?_;refine zi (d:=7) (y:=(za6 addS addC a b (k+1)).2) rfl (by rw[hc2,ur (fun h=>h.elim g30 ht34)];rfl) ?_;exact Nx (k+1) (⟨by omega,by rw[zgA ha hb ht12];exact zin _ _ hinv.2⟩) ya
 obtain rfl:k=4:=ya;refine qbQ ?_;refine qay ?_;refine qa9 ?_;refine A0 zct ?_;refine qag ?_;refine qad ?_;exact zx rfl rfl (zC rfl rfl zV ((ziA (k:=4) rfl).trans (radF_all ha hb))) (zX (zb rfl (by unfold zf5;rw[uo];simp[IntL.toI])))
def maxU:UInt64:=UInt64.ofNat (Int.toNat 18446744073709551615)
def zpP:UInt64:=UInt64.ofNat (Int.toNat 9223372036854775808)
theorem maxU_n:maxU.toNat=18446744073709551615:=by unfold maxU;rw[show Int.toNat 18446744073709551615=18446744073709551615 from rfl];exact UInt64.toNat_ofNat_of_lt' yp
theorem highU_n:zpP.toNat=9223372036854775808:=by unfold zpP;rw[show Int.toNat 9223372036854775808=9223372036854775808 from rfl];exact UInt64.toNat_ofNat_of_lt' yp
def compF (b:Wide) (i:Nat):UInt64:=maxU-b.getD i default
def compW (b:Wide):Wide:=(List.range 4).map (compF b)
theorem compW_n {b:Wide} (hb:b.length=4):(compW b).length=4∧nW (compW b)=W256-1-nW b:=by
  obtain⟨b0,b1,b2,b3,rfl⟩:=zfi hb;have e:∀x:UInt64,(maxU-x).toNat=18446744073709551615-x.toNat:=fun x=>by
    have hx:x.toNat<18446744073709551616:=x.toNat_lt;rw[UInt64.toNat_sub_of_le _ _ (by rw[UInt64.le_iff_toNat_le,maxU_n];omega),maxU_n]
  refine⟨rfl,?_⟩;show nW [maxU-b0,maxU-b1,maxU-b2,maxU-b3]=_;have k0:b0.toNat<18446744073709551616:=b0.toNat_lt;have k1:b1.toNat<18446744073709551616:=b1.toNat_lt;have k2:b2.toNat<18446744073709551616:=b2.toNat_lt;have k3:b3.toNat<18446744073709551616:=b3.toNat_lt;unfold nW W256;simp only[List.getD_cons_zero,List.getD_cons_succ,e];omega
theorem rsub_eq {a b:Wide} (ha:a.length=4) (hb:b.length=4):addW (addW a (compW b)) (ofW 1)=subW a b:=by
  obtain⟨c1,c2⟩:=compW_n hb;refine zgE (za0 (za0 ha c1) rfl) (zkz ha hb) ?_;rw[zj8 (za0 ha c1) rfl,zj8 ha c1,c2,(zsa ha hb).1];have h1:=zpC ha;have h2:=zpC hb;have h3:nW (ofW 1)=1:=rfl;rw[h3];unfold W256 at *;omega
theorem rsub_ok {a b:Wide} (ha:a.length=4) (hb:b.length=4):decide (0≤cmpW a b)=zpd a b:=by
  rw[Bool.eq_iff_iff,decide_eq_true_iff,(zsa ha hb).2,zmi ha hb]
  split
  · omega
  split<;>omega
def hafF (a:Wide) (i:Nat):UInt64:=a.getD i default/2+(if i=3 then 0 else a.getD (i+1) default%2*zpP)
def hafN (a:Wide) (j:Nat):Wide:=(List.range j).foldl (fun l i=>l.set (3-i) (hafF a (3-i))) zax
theorem hafN_succ {a:Wide} {j:Nat}:(hafN a j).set (3-j) (hafF a (3-j))=hafN a (j+1):=(zcu (f:=fun (l:List UInt64) i=>l.set (3-i) (hafF a (3-i)))).symm
theorem haf_all {a:Wide} (ha:a.length=4):hafN a 4=zc2 a 1:=by
  obtain⟨a0,a1,a2,a3,rfl⟩:=zfi ha;refine zgE rfl (zdG rfl) ?_;have h:=zh8 (a:=[a0,a1,a2,a3]) (n:=1) rfl yp;rw[show((1:Nat):Int)=1 from rfl] at h;rw[h];show nW [a0/2+a1%2*zpP,a1/2+a2%2*zpP,a2/2+a3%2*zpP,a3/2+0]=_;have h0:a0.toNat<18446744073709551616:=a0.toNat_lt;have h1:a1.toNat<18446744073709551616:=a1.toNat_lt;have h2:a2.toNat<18446744073709551616:=a2.toNat_lt;have h3:a3.toNat<18446744073709551616:=a3.toNat_lt;have t2:(2:UInt64).toNat=2:=rfl;have t9:=highU_n;have t0:(0:UInt64).toNat=0:=rfl;unfold nW;simp only[List.getD_cons_zero,List.getD_cons_succ,UInt64.toNat_add,UInt64.toNat_mul,UInt64.toNat_div,UInt64.toNat_mod,t2,t9,t0];omega
theorem down_step {a:Wide} {k:Nat} (ha:a.length=4) (hk:k+1<256):zc2 (zc2 a k) 1=zc2 a ((k:Int)+1):=by
  refine zgE (zdG (zdG ha)) (zdG ha) ?_;have h1:=zh8 (n:=k) ha ya;have h2:=zh8 (n:=k+1) ha hk;have h3:=zh8 (n:=1) (zdG (n:=(k:Int)) ha) yp;rw[show((1:Nat):Int)=1 from rfl,h1,Nat.div_div_eq_div_mul,←Nat.pow_succ] at h3;rw[show((k+1:Nat):Int)=(k:Int)+1 by omega] at h2;rw[h3,h2]
theorem zqd {a:Wide} (ha:a.length=4):zc2 a 0=a:=by
  refine zgE (zdG ha) ha ?_
  have:=zh8 (n:=0) ha yp
  rw[show((0:Nat):Int)=0 from rfl] at this;rw[this,Nat.pow_zero,Nat.div_one]
theorem up_zero {a:Wide} (ha:a.length=4):upW a 0=a:=by
  refine zgE (zhW ha) ha ?_
  have:=nW_up (n:=0) ha yp
  rw[show((0:Nat):Int)=0 from rfl] at this;rw[this,Nat.pow_zero,Nat.mul_one,Nat.mod_eq_of_lt (zpC ha)]
theorem down_end {a:Wide} {n:Int} {k:Nat} (ha:a.length=4) (h:k=0∨(k:Int)≤n) (h2:¬(k:Int)<n):zc2 a k=zc2 a n:=by
  by_cases c:n<0
  · have hk:k=0:=by omega
    subst hk;rw[show((0:Nat):Int)=0 from rfl,zqd ha];unfold zc2;rw[ut c]
  rw[show(k:Int)=n by omega]
theorem up_end {a:Wide} {n:Int} {k:Nat} (ha:a.length=4) (h:k=0∨(k:Int)≤n) (h2:¬(k:Int)<n):upW a k=upW a n:=by
  by_cases c:n<0
  · have hk:k=0:=by omega
    subst hk;rw[show((0:Nat):Int)=0 from rfl,up_zero ha];unfold upW;rw[ut c]
  rw[show(k:Int)=n by omega]
theorem up_step {a:Wide} {k:Nat} (ha:a.length=4) (hk:k+1<256):addW (upW a k) (upW a k)=upW a ((k:Int)+1):=by
  refine zgE (za0 (zhW ha) (zhW ha)) (zhW ha) ?_;have h1:=nW_up (n:=k) ha ya;have h2:=nW_up (n:=k+1) ha hk;rw[show((k+1:Nat):Int)=(k:Int)+1 by omega] at h2;rw[zj8 (zhW ha) (zhW ha),h1,h2,Nat.pow_succ,←Nat.mul_assoc];unfold W256;omega
theorem rhalf_ok (a:Wide):Tells P 253 [.val zL a] (.val zL (zc2 a 1)):=by
 refine zc Tryz.func253 rfl rfl rfl (fun ext w hext=>?_);refine ze (d:=0) rfl zaC (fun ha=>?_);refine qaf ?_;refine qau ?_;refine CNQR ?_;refine qau ?_;refine CNQR ?_;refine qbR ?_;refine Lp (ι:=Nat) 3 (fun (k:Nat)=>(((((Fr.none).set 1 (.ptr 0 0)).set 2 (.ptr 1 0)).set 3 (.ptr 2 0)).set 4 (.val u64T (if k=4 then 0 else a.getD k default%2*zpP))).set 5 (.val i64T ((k:Int)-1))) (fun (k:Nat)=>(((Hp.none).set 0 (.box 30 zL a)).set 1 (.box 30 zL zax)).set 2 (.box 30 zL (hafN a (4-k)))) (fun (k:Nat)=>k≤4) (fun (k:Nat)=>k) (4) (ug _) ?_;intro k hinv;refine qaK ?_;refine qbP ?_;refine Cf (p:=0<k) (fun ht7=>?_) (fun ht7=>?_)
 ·
  refine CSQBQR ?_;refine qai ?_;refine xr ?_;refine xu ?_;refine A0 (zlZ rfl rfl rfl yp) ?_;refine qa9 ?_;refine A0 (zfC rfl rfl rfl) ?_;refine xr ?_;refine zg rfl rfl rfl rfl rfl (Lens.elem (i:=k-1) ya u64T) zaQ rfl ?_;refine CNR ?_;refine qa9 ?_;refine xr ?_;refine xu ?_;refine A0 (zos rfl rfl rfl yp) ?_;refine A0 (zg0 rfl rfl rfl) ?_;refine A0 aV ?_;refine CNIR ?_;refine qco ?_;refine qad ?_;refine zJ (n:=2) (y:=hafN a (4-(k-1))) rfl (by rw[show 4-(k-1)=4-k+1 by omega,←hafN_succ,show 3-(4-k)=k-1 by omega];unfold hafF;congr 2;rw[show k-1+1=k by omega];split<;>split<;>first|rfl|omega) ?_;refine zi (d:=4) (y:=(if k-1=4 then 0 else a.getD (k-1) default%2*zpP)) rfl (by rw[ur ya];rfl) ?_;refine zi (d:=5) (y:=((k-1:Nat):Int)-1) rfl ya ?_;exact Nx (k-1) ya ya
 obtain rfl:k=0:=ya;refine CE ?_;refine qbs ?_;exact zq rfl rfl rfl rfl zV (haf_all ha)
theorem rdownW_ok (a:Wide) (n:Int):Tells P 240 [.val zL a,.val i64T n] (.val zL (zc2 a n)):=by
 refine zc Tryz.func240 rfl rfl rfl (fun ext w hext=>?_);refine ze (d:=1) rfl zab (fun hin1=>?_);refine ze (d:=0) rfl zaC (fun ha=>?_);refine qaf ?_;refine qau ?_;refine qb2 ?_;refine qbP ?_;refine Cf (p:=256≤n) (fun ht7=>?_) (fun ht7=>?_)
 ·
  refine qaL ?_;refine CN ?_;exact zq rfl rfl rfl rfl zV (by unfold zc2;rw[ur ya,ut ht7])
 refine CSQQR ?_;refine qcn ?_;refine zJ (n:=0) (y:=zc2 a ((0:Nat):Int)) rfl (zqd ha).symm ?_;refine Lp (ι:=Nat) 2 (fun (k:Nat)=>((((Fr.none).set 1 (.val i64T n)).set 2 (.ptr 0 0)).set 4 (.ptr 1 0)).set 5 (.val i64T (k:Int))) (fun (k:Nat)=>((Hp.none).set 0 (.box 30 zL (zc2 a (k:Int)))).set 1 (.box 30 zL zax)) (fun (k:Nat)=>k=0∨(k:Int)≤n) (fun (k:Nat)=>n.toNat-k) (0) (.inl rfl) ?_;intro k hinv;refine qb9 ?_;refine qa1 ?_;refine Cf (p:=(k:Int)<n) (fun ht11=>?_) (fun ht11=>?_)
 ·
  refine qaD ?_;refine CR ?_;refine qay ?_;refine A0 (oCl (rhalf_ok (zc2 a k)) rfl fn_253 ye) ?_;refine qag ?_;refine qb3 ?_;refine zJ (n:=0) (y:=zc2 a ((k+1:Nat):Int)) rfl (by rw[down_step ha ya];congr 1) ?_;exact Nx (k+1) (.inr ya) ya
 refine CE ?_;refine qbs ?_;exact zq rfl rfl rfl rfl zV (down_end ha hinv ht11)
theorem rupW_ok (a:Wide) (n:Int):Tells P 164 [.val zL a,.val i64T n] (.val zL (upW a n)):=by
 refine zc Tryz.func164 rfl rfl rfl (fun ext w hext=>?_);refine ze (d:=1) rfl zab (fun hin1=>?_);refine ze (d:=0) rfl zaC (fun ha=>?_);refine qaf ?_;refine qau ?_;refine qb2 ?_;refine qbP ?_;refine Cf (p:=256≤n) (fun ht9=>?_) (fun ht9=>?_)
 ·
  refine qaL ?_;refine CN ?_;exact zq rfl rfl rfl rfl zV (by unfold upW;rw[ur ya,ut ht9])
 refine CSQQR ?_;refine qcn ?_;refine zJ (n:=0) (y:=upW a ((0:Nat):Int)) rfl (up_zero ha).symm ?_;refine Lp (ι:=Nat) 2 (fun (k:Nat)=>((((Fr.none).set 1 (.val i64T n)).set 2 (.ptr 0 0)).set 4 (.ptr 1 0)).set 5 (.val i64T (k:Int))) (fun (k:Nat)=>((Hp.none).set 0 (.box 30 zL (upW a (k:Int)))).set 1 (.box 30 zL zax)) (fun (k:Nat)=>k=0∨(k:Int)≤n) (fun (k:Nat)=>n.toNat-k) (0) (.inl rfl) ?_;intro k hinv;refine qb9 ?_;refine qa1 ?_;refine Cf (p:=(k:Int)<n) (fun ht13=>?_) (fun ht13=>?_)
 ·
  refine CSQBQR ?_;refine qcS ?_;refine A0 (oCl (zcR (upW a k) (upW a k)) rfl zjI yf) ?_;refine qcl ?_;refine qci ?_;refine qay ?_;refine qag ?_;refine qb3 ?_;refine zJ (n:=0) (y:=upW a ((k+1:Nat):Int)) rfl (by rw[up_step ha ya];congr 1) ?_;exact Nx (k+1) (.inr ya) ya
 refine CE ?_;refine qbs ?_;exact zq rfl rfl rfl rfl zV (up_end ha hinv ht13)
def powN:Nat→UInt32
  | 0=>1
  | n+1=>2*powN n
theorem zkE:∀n,n<32→(powN n).toNat=2^n
  | 0,_=>rfl
  | n+1,h=>by
    have ih:=zkE n ya;have h2:2^n≤2^30:=Nat.pow_le_pow_right yp ya;rw[powN,UInt32.toNat_mul,ih,Nat.pow_succ];have e:(2:UInt32).toNat=2:=rfl;rw[e];omega
theorem turn_n:∀n:Nat,n<32→0<n→(z6 (IntKind.i64.wrap (0-(n:Int)))&&&31).toNat=32-n∧(32-(z6 (IntKind.i64.wrap (0-(n:Int)))&&&31)).toNat=n:=yc
theorem zr3 {a b k:Nat} (h:b<2^k):a*2^k|||b=a*2^k+b:=by
  rw[Nat.mul_comm];exact(Nat.two_pow_add_eq_or_of_lt h a).symm
theorem turn_rr (x:UInt32) {n:Nat} (h0:0<n) (h:n<32):x/powN n+x*powN (32-n)=rr x n:=by
  have hx:x.toNat<2^32:=x.toNat_lt;obtain⟨e1,e2⟩:=turn_n n h h0;apply UInt32.toNat_inj.1;unfold rr rotl;rw[e1,e2,UInt32.toNat_add,UInt32.toNat_div,UInt32.toNat_mul,zkE n h,zkE (32-n) ya,UInt32.toNat_or];unfold zpi zdy;rw[UInt32.toNat_ofNat',Nat.min_eq_left ya,UInt32.toNat_ofNat_of_lt' (Nat.lt_of_le_of_lt (Nat.div_le_self _ _) hx),Nat.min_eq_left ya];have hp:2^32=2^n*2^(32-n):=by rw[←Nat.pow_add];congr 1;omega
  have hm:x.toNat*2^(32-n)%2^32=x.toNat%2^n*2^(32-n):=by rw[hp,Nat.mul_mod_mul_right]
  have hd:x.toNat/2^n<2^(32-n):=by rw[Nat.div_lt_iff_lt_mul (Nat.two_pow_pos n),Nat.mul_comm,←hp];exact hx
  rw[hm,zr3 hd,Nat.add_comm];refine Nat.mod_eq_of_lt ?_;have hl:=Nat.mod_lt x.toNat (Nat.two_pow_pos n)
  have:x.toNat%2^n*2^(32-n)+2^(32-n)≤2^n*2^(32-n):=by
    rw[←Nat.succ_mul];exact Nat.mul_le_mul_right _ hl
  omega
theorem maj_eq (a b c:UInt32):(a&&&b)|||(a&&&c)|||(b&&&c)=(a&&&b)^^^(a&&&c)^^^(b&&&c):=by
  apply UInt32.toBitVec_inj.1;simp only[UInt32.toBitVec_or,UInt32.toBitVec_and,UInt32.toBitVec_xor]
  ext i hi
  simp only[BitVec.getElem_or,BitVec.getElem_and,BitVec.getElem_xor];cases a.toBitVec[i]<;>cases b.toBitVec[i]<;>cases c.toBitVec[i]<;>rfl
theorem not_eq (a:UInt32):4294967295-a = ~~~ a:=by
  apply UInt32.toNat_inj.1;have ha:a.toNat<4294967296:=a.toNat_lt;rw[UInt32.toNat_sub,UInt32.toNat_not];have e:(4294967295:UInt32).toNat=4294967295:=rfl;rw[e]
  have:UInt32.size=4294967296:=rfl
  omega
theorem u32_of8 (x:UInt8):(zex (IntL.toI u8T x)).toNat=x.toNat:=by
  have hx:x.toNat<256:=x.toNat_lt;unfold zex;show(UInt32.ofNat ((x.toNat:Int)%4294967296).toNat).toNat=_;rw[show((x.toNat:Int)%4294967296).toNat=x.toNat by omega,UInt32.toNat_ofNat_of_lt' (by show _<4294967296;omega)]
theorem be_eq (x0 x1 x2 x3:UInt8):16777216*zex (IntL.toI u8T x0)+65536*zex (IntL.toI u8T x1)+256*zex (IntL.toI u8T x2)+zex (IntL.toI u8T x3)=zsQ x0 x1 x2 x3:=by
  have h0:x0.toNat<256:=x0.toNat_lt;have h1:x1.toNat<256:=x1.toNat_lt;have h2:x2.toNat<256:=x2.toNat_lt;have h3:x3.toNat<256:=x3.toNat_lt;apply UInt32.toNat_inj.1;unfold zsQ zpi;simp only[UInt32.toNat_or,UInt32.toNat_add,UInt32.toNat_mul,u32_of8];rw[UInt32.toNat_ofNat_of_lt' (show x0.toNat*2^min 24 32<2^32 by show x0.toNat*16777216<4294967296;omega),UInt32.toNat_ofNat_of_lt' (show x1.toNat*2^min 16 32<2^32 by show x1.toNat*65536<4294967296;omega),UInt32.toNat_ofNat_of_lt' (show x2.toNat*2^min 8 32<2^32 by show x2.toNat*256<4294967296;omega)];have e1:x0.toNat*2^min 24 32|||x1.toNat*2^min 16 32=(x0.toNat*256+x1.toNat)*2^16:=by
    rw[show x0.toNat*2^min 24 32=x0.toNat*2^24 from rfl,zr3 (k:=24) (by show x1.toNat*65536<16777216;omega)];show x0.toNat*16777216+x1.toNat*65536=(x0.toNat*256+x1.toNat)*65536;omega
  rw[e1,zr3 (k:=16) (by show x2.toNat*256<65536;omega)];have e2:(x0.toNat*256+x1.toNat)*2^16+x2.toNat*2^min 8 32=((x0.toNat*256+x1.toNat)*256+x2.toNat)*2^8:=by
    show(x0.toNat*256+x1.toNat)*65536+x2.toNat*256=((x0.toNat*256+x1.toNat)*256+x2.toNat)*256;omega
  rw[e2,zr3 (k:=8) (by show x3.toNat<256;omega)];have c1:(16777216:UInt32).toNat=16777216:=rfl;have c2:(65536:UInt32).toNat=65536:=rfl;have c3:(256:UInt32).toNat=256:=rfl;rw[c1,c2,c3];omega
theorem div8 (x:UInt32):x/8=zdy x 3:=by
  apply UInt32.toNat_inj.1;have hx:x.toNat<4294967296:=x.toNat_lt;unfold zdy;rw[UInt32.toNat_div,UInt32.toNat_ofNat_of_lt' (Nat.lt_of_le_of_lt (Nat.div_le_self _ _) hx)];rfl
theorem div1024 (x:UInt32):x/1024=zdy x 10:=by
  apply UInt32.toNat_inj.1;have hx:x.toNat<4294967296:=x.toNat_lt;unfold zdy;rw[UInt32.toNat_div,UInt32.toNat_ofNat_of_lt' (Nat.lt_of_le_of_lt (Nat.div_le_self _ _) hx)];rfl
theorem zbM {b:List UInt8}:∀k,(zaS b k).length=64
  | 0=>by simp[zaS]
  | k+1=>by
    have e:zaS b (k+1)=zfQ b (zaS b k) k:=zcu;rw[e];unfold zfQ
    have:=zbM (b:=b) k
    split<;>rw[List.length_set]<;>exact this
theorem zrC {α:Type} {l:List α} {k:Nat} {x:α} (hk:k<l.length):(l.set k x).take (k+1)=l.take k++[x]:=by
  rw[un,List.take_set_of_le (ug k),List.getElem?_set_self hk];rfl
theorem words_lo {b:List UInt8} {k:Nat} {x0 x1 x2 x3:UInt8} (hk:k<16) (h0:b[4*k]?=some x0) (h1:b[4*k+1]?=some x1) (h2:b[4*k+2]?=some x2) (h3:b[4*k+3]?=some x3):(zaS b k).take k++[16777216*zex (IntL.toI u8T x0)+65536*zex (IntL.toI u8T x1)+256*zex (IntL.toI u8T x2)+zex (IntL.toI u8T x3)]=(zaS b (k+1)).take (k+1):=by
  rw[be_eq,←zrM hk h0 h1 h2 h3,zrC (by rw[zbM];omega)]
theorem zit {l:List UInt32} {k j:Nat} {x:UInt32} (h:(l.take k)[j]?=some x):l.getD j default=x:=by
  have hj:j<k:=by
    have:=(ul.1 h).1
    rw[um] at this;omega
  rw[List.getElem?_take_of_lt hj] at h;rw[uq,h];rfl
theorem words_hi {b:List UInt8} {k:Nat} {u v x y:UInt32} (hk:¬k<16) (hk2:k<64) (hu:((zaS b k).take k)[k-16]?=some u) (hv:((zaS b k).take k)[k-7]?=some v) (hx:((zaS b k).take k)[k-15]?=some x) (hy:((zaS b k).take k)[k-2]?=some y) :
    (zaS b k).take k++[u+(rr x 7^^^rr x 18^^^x/8)+v+(rr y 17^^^rr y 19^^^y/1024)]=(zaS b (k+1)).take (k+1):=by
  rw[←zrN hk,zrC (by rw[zbM];omega),zit hu,zit hv,zit hx,zit hy,div8,div1024];unfold zlg;rw[UInt32.add_assoc u _ v,UInt32.add_comm _ v,←UInt32.add_assoc]
theorem eight {l:List UInt32} (h:l.length=8):∃a b c d e f g i,l=[a,b,c,d,e,f,g,i]:=by
  match l,h with
  | [a,b,c,d,e,f,g,i],_=>exact⟨a,b,c,d,e,f,g,i,rfl⟩
theorem round_ref {w h:List UInt32} {k:Nat} {a b c d e f g i kk ww:UInt32} (hv:zez w h k=[a,b,c,d,e,f,g,i]) (hk:shaK[k]?=some kk) (hw:w[k]?=some ww) :
    [i+(rr e 6^^^rr e 11^^^rr e 25)+((e&&&f)^^^((4294967295-e)&&&g))+kk+ww+(rr a 2^^^rr a 13^^^rr a 22)+((a&&&b)|||(a&&&c)|||(b&&&c)),a,b,c,d+(i+(rr e 6^^^rr e 11^^^rr e 25)+((e&&&f)^^^((4294967295-e)&&&g))+kk+ww),e,f,g]=zez w h (k+1):=by
  rw[←zju,hv,maj_eq,not_eq,UInt32.add_assoc _ _ ((a&&&b)^^^(a&&&c)^^^(b&&&c))];unfold zll roundX roundY;simp only[uq (l:=shaK),uq (l:=w),hk,hw,Option.getD_some];rfl
theorem sumN_comm {v s:List UInt32} (hv:v.length=8) (hs:s.length=8):sumN v s 8=sumN s v 8:=by
  obtain⟨a,b,c,d,e,f,g,i,rfl⟩:=eight hv;obtain⟨a',b',c',d',e',f',g',i',rfl⟩:=eight hs;show [a'+a,b'+b,c'+c,d'+d,e'+e,f'+f,g'+g,i'+i]=[a+a',b+b',c+c',d+d',e+e',f+f',g+g',i+i'];simp only[UInt32.add_comm]
theorem sum_succ2 {v s:List UInt32} {k:Nat} {x y:UInt32} (h:v[k]?=some x) (hy:(sumN v s k)[k]?=some y):(sumN v s k).set k (y+x)=sumN v s (k+1):=by
  rw[←zrD h,uq,hy];rfl
theorem rpow_ok (n:Int) (hn:n<100):Tells P 237 [.val i64T n] (.val u32T (powN n.toNat)):=by
 refine zc Tryz.func237 rfl rfl rfl (fun ext w hext=>?_);refine ze (d:=0) rfl zab (fun hin0=>?_);refine CQR ?_;refine qaj ?_;refine qbR ?_;refine Lp (ι:=Nat) 0 (fun (k:Nat)=>(((Fr.none).set 0 (.val i64T n)).set 3 (.val u32T (powN k))).set 4 (.val i64T (k:Int))) (fun (k:Nat)=>Hp.none) (fun (k:Nat)=>k≤n.toNat) (fun (k:Nat)=>n.toNat-k) (0) (uf _) ?_;intro k hinv;refine qb9 ?_;refine qa1 ?_;refine Cf (p:=k<n.toNat) (fun ht7=>?_) (fun ht7=>?_)
 ·
  refine qaD ?_;refine CR ?_;refine qa9 ?_;refine A0 (zl0 rfl rfl rfl) ?_;refine A0 aV ?_;refine qb3 ?_;exact Nx (k+1) ya ya
 obtain rfl:k=n.toNat:=ya;refine CE ?_;refine qcg ?_;exact za rfl rfl (zb rfl rfl)
theorem zd1 (x:UInt32) (n:Nat) (h0:0<n) (h:n<32):Tells P 204 [.val u32T x,.val i64T (n:Int)] (.val u32T (rr x (n:Int))):=by
 refine zc Tryz.func204 rfl rfl rfl (fun ext w hext=>?_);refine ze (d:=1) rfl zab (fun hin1=>?_);refine CQR ?_;refine qb5 ?_;refine qbk ?_;refine G0 (oCl (rpow_ok (n:Int) ya) rfl fn_237 ye) ?_;refine G0 (zic rfl rfl rfl (by rw[Int.toNat_natCast,zkE _ h];exact Nat.ne_of_gt (Nat.two_pow_pos n))) ?_;refine qbk ?_;refine G0 za1 ?_;refine G0 (oCl (rpow_ok (32-(n:Int)) ya) rfl fn_237 ye) ?_;refine G0 (zl0 rfl rfl rfl) ?_;refine xj ?_;refine qa6 ?_;exact za rfl rfl (zb rfl (by rw[show(32-(n:Int)).toNat=32-n by omega,Int.toNat_natCast];exact turn_rr x h0 h))
theorem zqM:Tells P 203 [] (.val (sl u32T) shaK):=by
 refine zc Tryz.func203 rfl rfl rfl (fun ext w hext=>?_);refine qaB ?_;refine CNQR ?_;refine A0 (zW (T:=u32T) (xs:=[_,_,_,_,_,_,_,_,_,_,_,_,_,_,_,_,_,_,_,_,_,_,_,_,_,_,_,_,_,_,_,_,_,_,_,_,_,_,_,_,_,_,_,_,_,_,_,_,_,_,_,_,_,_,_,_,_,_,_,_,_,_,_,_]) rfl zaW zgP yI rfl rfl) ?_;refine qad ?_;exact za rfl rfl (zb rfl rfl)
theorem rfirst_ok:Tells P 161 [] (.val (sl u32T) shaH):=by
 refine zc Tryz.func161 rfl rfl rfl (fun ext w hext=>?_);refine qaB ?_;refine CNQR ?_;refine A0 (zW (T:=u32T) (xs:=[_,_,_,_,_,_,_,_]) rfl zaW zgP yai rfl rfl) ?_;refine qad ?_;exact za rfl rfl (zb rfl rfl)
theorem rwords_ok (b:List UInt8) (hb:b.length=64):Tells P 163 [.val (bsl u8T) b] (.fresh 31 u32T (zaS b 64)):=by
 refine zc Tryz.func163 rfl rfl rfl (fun ext w hext=>?_);refine ze (d:=0) rfl zm (fun hsl0=>?_);refine qaB ?_;refine CNQR ?_;refine A0 aL ?_;refine qa2 ?_;refine zcw (T:=u32T) (d:=3) 31 rfl ?_;refine Lp (ι:=Nat) 1 (fun (k:Nat)=>(((Fr.none).set 0 (.val (bsl u8T) b)).set 3 (.own 0)).set 4 (.val i64T (k:Int))) (fun (k:Nat)=>(Hp.none).set 0 (.row 31 u32T ((zaS b k).take k))) (fun (k:Nat)=>k≤16) (fun (k:Nat)=>16-k) (0) (uf _) ?_;intro k hinv;refine qaK ?_;refine qa1 ?_;refine Cf (p:=k<16) (fun ht9=>?_) (fun ht9=>?_)
 ·
  obtain⟨x0,hx0⟩:∃x,b[4*k]?=some x:=yq;obtain⟨x1,hx1⟩:∃x,b[4*k+1]?=some x:=yq;obtain⟨x2,hx2⟩:∃x,b[4*k+2]?=some x:=yq;obtain⟨x3,hx3⟩:∃x,b[4*k+3]?=some x:=yq;refine qaD ?_;refine zn [some 1,some 1,some 1,some 1,some 1,some 1,some 1,some 1,some 1,some 1,some 1,some 1,some 1,some 1,some 1,some 1,some 1,some 1,some 1,some 1,some 1,some 1,some 1,some 1,some 1,some 1,some 1,some 1,some 1,some 1,some 1,some 1,some 1,some 1,some 1,none,some 1] mixed yc ?_;refine X0 mO ?_;refine qb7 ?_;refine X0 zfT ?_;refine X0 (zD (i:=4*k) rfl rfl rfl ya zch yj) ?_;refine qbu ?_;refine X0 (zl0 rfl rfl rfl) ?_;refine qb7 ?_;refine X0 zfT ?_;refine X0 zbh ?_;refine X0 (zD (i:=4*k+1) rfl rfl rfl ya zch yj) ?_;refine qbu ?_;refine X0 (zl0 rfl rfl rfl) ?_;refine qcq ?_;refine qb7 ?_;refine X0 zfT ?_;refine X0 zbh ?_;refine X0 (zD (i:=4*k+2) rfl rfl rfl ya zch yj) ?_;refine qbu ?_;refine X0 (zl0 rfl rfl rfl) ?_;refine qcq ?_;refine qb7 ?_;refine X0 zfT ?_;refine X0 zbh ?_;refine X0 (zD (i:=4*k+3) rfl rfl rfl ya zch yj) ?_;refine qbu ?_;refine qcq ?_;refine X0 (zW (T:=u32T) (xs:=[_]) rfl zaW zgP yz rfl rfl) ?_;refine XK.e (fun fr' hfr kk H=>by exact zo rfl rfl rfl rfl ((hfr 12 yc).trans rfl) rfl ((hfr 46 yc).trans rfl) zgP ybC (zp H)) ?_;refine X0 aO ?_;refine qba ?_;refine qak ?_;refine xh ?_;refine zB (n:=0) rfl (words_lo ht9 hx0 hx1 hx2 hx3) ?_;exact Nx (k+1) ya ya
 obtain rfl:k=16:=ya;refine CE ?_;refine CQQR ?_;refine qcn ?_;refine Lp (ι:=Nat) 1 (fun (k:Nat)=>((Fr.none).set 3 (.own 0)).set 5 (.val i64T (k:Int))) (fun (k:Nat)=>(Hp.none).set 0 (.row 31 u32T ((zaS b k).take k))) (fun (k:Nat)=>16≤k∧k≤64) (fun (k:Nat)=>64-k) (16) (⟨ug _,by decide⟩) ?_;intro k hinv;refine qaK ?_;refine qa1 ?_;refine Cf (p:=k<64) (fun ht49=>?_) (fun ht49=>?_)
 ·
  obtain⟨u,hu⟩:∃x,((zaS b k).take k)[k-16]?=some x:=⟨_,ub (by rw[um,zbM];omega)⟩;obtain⟨v,hv⟩:∃x,((zaS b k).take k)[k-7]?=some x:=⟨_,ub (by rw[um,zbM];omega)⟩;obtain⟨x,hx⟩:∃x,((zaS b k).take k)[k-15]?=some x:=⟨_,ub (by rw[um,zbM];omega)⟩;obtain⟨y,hy⟩:∃x,((zaS b k).take k)[k-2]?=some x:=⟨_,ub (by rw[um,zbM];omega)⟩;have hl:((zaS b k).take k).length=k:=by rw[um,zbM];omega
  refine qcK ?_;refine G0 mO ?_;refine G0 mV ?_;refine G0 za1 ?_;refine G0 (zI (i:=k-15) rfl rfl rfl rfl yh zaW yd) ?_;refine qax ?_;refine G0 (oCl (zd1 x 7 yp yp) rfl zhS yf) ?_;refine G0 mO ?_;refine G0 mV ?_;refine G0 za1 ?_;refine G0 (zI (i:=k-15) rfl rfl rfl rfl yh zaW yd) ?_;refine qax ?_;refine G0 (oCl (zd1 x 18 yp yp) rfl zhS yf) ?_;refine qbY ?_;refine G0 mO ?_;refine G0 mV ?_;refine G0 za1 ?_;refine G0 (zI (i:=k-15) rfl rfl rfl rfl yh zaW yd) ?_;refine qax ?_;refine G0 (zic rfl rfl rfl yp) ?_;refine qbY ?_;refine qa6 ?_;refine qaH ?_;refine G0 mO ?_;refine G0 mV ?_;refine G0 za1 ?_;refine G0 (zI (i:=k-2) rfl rfl rfl rfl yh zaW yd) ?_;refine qax ?_;refine G0 (oCl (zd1 y 17 yp yp) rfl zhS yf) ?_;refine G0 mO ?_;refine G0 mV ?_;refine G0 za1 ?_;refine G0 (zI (i:=k-2) rfl rfl rfl rfl yh zaW yd) ?_;refine qax ?_;refine G0 (oCl (zd1 y 19 yp yp) rfl zhS yf) ?_;refine qbY ?_;refine G0 mO ?_;refine G0 mV ?_;refine G0 za1 ?_;refine G0 (zI (i:=k-2) rfl rfl rfl rfl yh zaW yd) ?_;refine qax ?_;refine G0 (zic rfl rfl rfl yp) ?_;refine qbY ?_;refine qa6 ?_;refine zn [some 1,some 1,some 1,some 1,some 1,some 1,some 1,some 1,some 1,some 1,some 1,some 1,some 1,some 1,some 1,some 1,some 1,none,some 1] mixed yc ?_;refine X0 mO ?_;refine qct ?_;refine X0 za1 ?_;refine X0 (zI (i:=k-16) rfl rfl rfl rfl yh zaW yd) ?_;refine qbb ?_;refine X0 mV ?_;refine qcq ?_;refine qct ?_;refine X0 za1 ?_;refine X0 (zI (i:=k-7) rfl rfl rfl rfl yh zaW yd) ?_;refine qbb ?_;refine qcq ?_;refine X0 mV ?_;refine qcq ?_;refine X0 (zW (T:=u32T) (xs:=[_]) rfl zaW zgP yz rfl rfl) ?_;refine XK.e (fun fr' hfr kk H=>by exact zo rfl rfl rfl rfl ((hfr 92 yc).trans rfl) rfl ((hfr 108 yc).trans rfl) zgP ybC (zp H)) ?_;refine X0 aO ?_;refine qba ?_;refine qak ?_;refine xh ?_;refine zB (n:=0) rfl (words_hi ya ht49 hu hv hx hy) ?_;exact Nx (k+1) (⟨by omega,by omega⟩) ya
 obtain rfl:k=64:=ya;refine qa7 ?_;exact za rfl rfl (zf rfl rfl (uc (by rw[zbM];exact ug _)))
theorem rrounds_ok (hs ws:List UInt32) (hh:hs.length=8) (hw:ws.length=64):Tells P 162 [.val (bsl u32T) hs,.val (bsl u32T) ws] (.fresh 31 u32T (sumN (zez ws hs 64) hs 8)):=by
 refine zc Tryz.func162 rfl rfl rfl (fun ext w hext=>?_);refine ze (d:=0) rfl zm (fun hsl0=>?_);refine ze (d:=1) rfl zm (fun hsl1=>?_);refine qaB ?_;refine CNQR ?_;refine A0 (oCl (zqM) rfl fn_203 trivial) ?_;refine qaS ?_;refine zcA rfl rfl rfl rfl rfl rfl zgP ya ?_;refine A0 aO ?_;refine qa2 ?_;refine Lp (ι:=Nat) 1 (fun (k:Nat)=>(((((Fr.none).set 0 (.val (bsl u32T) hs)).set 1 (.val (bsl u32T) ws)).set 5 (.val (sl u32T) shaK)).set 6 (.own 0)).set 7 (.val i64T (k:Int))) (fun (k:Nat)=>(Hp.none).set 0 (.row 31 u32T (zez ws hs k))) (fun (k:Nat)=>k≤64) (fun (k:Nat)=>64-k) (0) (uf _) ?_;intro k hinv;refine qaK ?_;refine qa1 ?_;refine Cf (p:=k<64) (fun ht18=>?_) (fun ht18=>?_)
 ·
  obtain⟨kk,hkk⟩:∃x,shaK[k]?=some x:=⟨_,ub (by show k<64;omega)⟩;obtain⟨ww,hww⟩:∃x,ws[k]?=some x:=yq;obtain⟨a,b,c,d,e,f,g,i,hv⟩:=eight (zhn (w:=ws) hh k);refine zB (n:=0) rfl hv ?_;have h0:([a,b,c,d,e,f,g,i]:List UInt32)[0]?=some a:=rfl;have h1:([a,b,c,d,e,f,g,i]:List UInt32)[1]?=some b:=rfl;have h2:([a,b,c,d,e,f,g,i]:List UInt32)[2]?=some c:=rfl;have h3:([a,b,c,d,e,f,g,i]:List UInt32)[3]?=some d:=rfl;have h4:([a,b,c,d,e,f,g,i]:List UInt32)[4]?=some e:=rfl;have h5:([a,b,c,d,e,f,g,i]:List UInt32)[5]?=some f:=rfl;have h6:([a,b,c,d,e,f,g,i]:List UInt32)[6]?=some g:=rfl;have h7:([a,b,c,d,e,f,g,i]:List UInt32)[7]?=some i:=rfl;have b0:0<([a,b,c,d,e,f,g,i]:List UInt32).length:=yx;have b1:1<([a,b,c,d,e,f,g,i]:List UInt32).length:=yx;have b2:2<([a,b,c,d,e,f,g,i]:List UInt32).length:=yx;have b3:3<([a,b,c,d,e,f,g,i]:List UInt32).length:=yx;have b4:4<([a,b,c,d,e,f,g,i]:List UInt32).length:=yx;have b5:5<([a,b,c,d,e,f,g,i]:List UInt32).length:=yx;have b6:6<([a,b,c,d,e,f,g,i]:List UInt32).length:=yx;have b7:7<([a,b,c,d,e,f,g,i]:List UInt32).length:=yx;refine qcK ?_;refine qbm ?_;refine G0 (oCl (zd1 e 6 yp yp) rfl zhS yf) ?_;refine qbm ?_;refine G0 (oCl (zd1 e 11 yp yp) rfl zhS yf) ?_;refine qbY ?_;refine qbm ?_;refine G0 (oCl (zd1 e 25 yp yp) rfl zhS yf) ?_;refine qbY ?_;refine qa6 ?_;refine qaH ?_;refine qbm ?_;refine G0 mO ?_;refine G0 (zI (i:=5) rfl rfl rfl rfl yh zaW yd) ?_;refine qax ?_;refine xk ?_;refine qbm ?_;refine G0 (g_sub32 rfl rfl rfl) ?_;refine G0 mO ?_;refine G0 (zI (i:=6) rfl rfl rfl rfl yh zaW yd) ?_;refine qax ?_;refine xk ?_;refine qbY ?_;refine qa6 ?_;refine qaH ?_;refine G0 mO ?_;refine G0 (zI (i:=7) rfl rfl rfl rfl yh zaW yd) ?_;refine qax ?_;refine G0 mV ?_;refine xj ?_;refine G0 mV ?_;refine xj ?_;refine qbk ?_;refine G0 (zD (i:=k) rfl rfl rfl ya zaW yj) ?_;refine G0 (zh rfl rfl zaY) ?_;refine xj ?_;refine qbk ?_;refine G0 (zD (i:=k) rfl rfl rfl ya zaW yj) ?_;refine G0 (zh rfl rfl zaY) ?_;refine xj ?_;refine qa6 ?_;refine qaH ?_;refine qbr ?_;refine G0 (oCl (zd1 a 2 yp yp) rfl zhS yf) ?_;refine qbr ?_;refine G0 (oCl (zd1 a 13 yp yp) rfl zhS yf) ?_;refine qbY ?_;refine qbr ?_;refine G0 (oCl (zd1 a 22 yp yp) rfl zhS yf) ?_;refine qbY ?_;refine qa6 ?_;refine qaH ?_;refine qbr ?_;refine G0 mO ?_;refine G0 (zI (i:=1) rfl rfl rfl rfl yh zaW yd) ?_;refine qax ?_;refine xk ?_;refine qbr ?_;refine G0 mO ?_;refine G0 (zI (i:=2) rfl rfl rfl rfl yh zaW yd) ?_;refine qax ?_;refine xk ?_;refine G0 (znq rfl rfl rfl) ?_;refine G0 mO ?_;refine G0 (zI (i:=1) rfl rfl rfl rfl yh zaW yd) ?_;refine qax ?_;refine G0 mO ?_;refine G0 (zI (i:=2) rfl rfl rfl rfl yh zaW yd) ?_;refine qax ?_;refine xk ?_;refine G0 (znq rfl rfl rfl) ?_;refine qa6 ?_;refine zn [some 1,some 1,some 1,some 1,some 1,some 1,some 1,some 1,some 1,some 1,some 1,some 1,some 1,some 1,some 1,some 1,some 1,some 1,some 1,some 1,some 1,some 1,some 1,some 1,some 1,some 1,some 1,some 1,none,some 1] mixed yc ?_;refine qb7 ?_;refine qcq ?_;refine X0 mV ?_;refine qcq ?_;refine X0 mO ?_;refine X0 (zI (i:=0) rfl rfl rfl rfl yh zaW yd) ?_;refine qbb ?_;refine X0 mO ?_;refine X0 (zI (i:=1) rfl rfl rfl rfl yh zaW yd) ?_;refine qbb ?_
  refine X0 mO ?_;refine X0 (zI (i:=2) rfl rfl rfl rfl yh zaW yd) ?_;refine qbb ?_;refine X0 mO ?_;refine X0 (zI (i:=3) rfl rfl rfl rfl yh zaW yd) ?_;refine qbb ?_;refine X0 mV ?_;refine qcq ?_;refine X0 mO ?_;refine X0 (zI (i:=4) rfl rfl rfl rfl yh zaW yd) ?_;refine qbb ?_;refine X0 mO ?_;refine X0 (zI (i:=5) rfl rfl rfl rfl yh zaW yd) ?_;refine qbb ?_;refine X0 mO ?_;refine X0 (zI (i:=6) rfl rfl rfl rfl yh zaW yd) ?_;refine qbb ?_;refine XK.e (fun fr' hfr kk H=>by exact zbk (T:=u32T) (xs:=[_,_,_,_,_,_,_,_]) rfl rfl rfl rfl zaW zgP ⟨rfl,((hfr 109 yc).trans rfl),rfl,((hfr 112 yc).trans rfl),rfl,((hfr 115 yc).trans rfl),rfl,((hfr 118 yc).trans rfl),rfl,((hfr 123 yc).trans rfl),rfl,((hfr 126 yc).trans rfl),rfl,((hfr 129 yc).trans rfl),rfl,((hfr 132 yc).trans rfl),trivial⟩ rfl rfl (zp H)) ?_;refine X0 aO ?_;refine qba ?_;refine qak ?_;refine zcP 0 ?_;refine xh ?_;refine zB (n:=0) rfl (round_ref hv hkk hww) ?_;exact Nx (k+1) ya ya
 obtain rfl:k=64:=ya;refine CE ?_;refine CQQR ?_;refine qcn ?_;refine zB (n:=0) (y:=sumN hs (zez ws hs 64) 0) rfl (by simp[sumN]) ?_;refine Lp (ι:=Nat) 1 (fun (k:Nat)=>(((Fr.none).set 0 (.val (bsl u32T) hs)).set 6 (.own 0)).set 13 (.val i64T (k:Int))) (fun (k:Nat)=>(Hp.none).set 0 (.row 31 u32T (sumN hs (zez ws hs 64) k))) (fun (k:Nat)=>k≤8) (fun (k:Nat)=>8-k) (0) (uf _) ?_;intro k hinv;refine qaK ?_;refine qa1 ?_;refine Cf (p:=k<8) (fun ht135=>?_) (fun ht135=>?_)
 ·
  have hsl:(sumN hs (zez ws hs 64) k).length=8:=by rw[znR,zhn hh]
  obtain⟨y,hy⟩:∃x,(sumN hs (zez ws hs 64) k)[k]?=some x:=yq;obtain⟨x,hx⟩:∃x,hs[k]?=some x:=yq;refine qaD ?_;refine zn [some 1,some 1,some 1,some 1,some 1,some 1,some 1,some 1,some 1,some 1,some 1,some 1,none] mixed yc ?_;refine qct ?_;refine qct ?_;refine X0 (zI (i:=k) rfl rfl rfl rfl yh zaW yd) ?_;refine qbb ?_;refine qb7 ?_;refine X0 (zD (i:=k) rfl rfl rfl ya zaW yj) ?_;refine X0 (zh rfl rfl zaY) ?_;refine qcq ?_;refine X0 (zI (i:=k) rfl rfl rfl rfl yh zaW yd) ?_;refine XK.e (x:=.idk) (fun fr' hfr kk H=>by exact zai rfl rfl rfl ((hfr 149 yc).trans rfl) rfl rfl yj (Lens.self _) zaY ((hfr 148 yc).trans rfl) (zp H)) ?_;refine qba ?_;refine qak ?_;refine zB (n:=0) rfl (sum_succ2 hx hy) ?_;exact Nx (k+1) ya ya
 obtain rfl:k=8:=ya;refine qa7 ?_;exact za rfl rfl (zf rfl rfl (sumN_comm hh (zhn hh _)))
theorem low8 (x:UInt64):zb2 (IntL.toI u64T (x%256))=zb2 (IntL.toI u64T x):=by
  unfold zb2;show UInt8.ofNat (((x%256).toNat:Int)%256).toNat=UInt8.ofNat ((x.toNat:Int)%256).toNat
  rw[UInt64.toNat_mod];congr 1
  have:(256:UInt64).toNat=256:=rfl
  rw[this];omega
theorem low8w (x:UInt32):zb2 (IntL.toI u32T (x%256))=zb2 (IntL.toI u32T x):=by
  unfold zb2;show UInt8.ofNat (((x%256).toNat:Int)%256).toNat=UInt8.ofNat ((x.toNat:Int)%256).toNat
  rw[UInt32.toNat_mod];congr 1
  have:(256:UInt32).toNat=256:=rfl
  rw[this];omega
theorem ziy (x:UInt64) {m:Nat} (h:m≤64):(zaB x m).toNat=x.toNat/2^m:=by
  have hx:x.toNat<18446744073709551616:=x.toNat_lt;unfold zaB;rw[UInt64.toNat_ofNat_of_lt' (Nat.lt_of_le_of_lt (Nat.div_le_self _ _) hx),Nat.min_eq_left h]
theorem zrI (x:UInt64):x=zaB x (8*0):=by
  apply UInt64.toNat_inj.1;rw[ziy x yp];simp
theorem zrJ {x:UInt64} {k:Nat} (h:k<8):zaB x (8*k)/256=zaB x (8*(k+1)):=by
  apply UInt64.toNat_inj.1;rw[UInt64.toNat_div,ziy x ya,ziy x ya,Nat.mul_add,Nat.pow_add,←Nat.div_div_eq_div_mul];rfl
def byN (k:Nat):UInt64:=zaB 72057594037927936 (8*k)
theorem byN_nat:∀k:Nat,k<8→(byN k).toNat=2^(8*(7-k)):=yc
theorem byN_ne {k:Nat} (h:k<8):(byN k).toNat≠0:=by
  rw[byN_nat k h];exact Nat.ne_of_gt (Nat.two_pow_pos _)
theorem div_by {x:UInt64} {k:Nat} (h:k<8):zb2 (IntL.toI u64T (x/byN k%256))=zb2 (IntL.toI u64T (zaB x (8*(8-1-k)))):=by
  rw[low8];congr 2;apply UInt64.toNat_inj.1;rw[UInt64.toNat_div,byN_nat k h,ziy x ya]
theorem mul8 (n:Int):z6 (IntL.toI i64T (8*n))=8*z6 (IntL.toI i64T n):=by
  apply UInt64.toNat_inj.1;unfold z6;show(UInt64.ofNat ((8*n)%18446744073709551616).toNat).toNat=(8*UInt64.ofNat (n%18446744073709551616).toNat).toNat
  rw[UInt64.toNat_mul,UInt64.toNat_ofNat_of_lt' yQ,UInt64.toNat_ofNat_of_lt' yQ];show _=8*_%18446744073709551616;omega
theorem zn9 {x:UInt64} {k:Nat} (h:k<8):(zaj x 8).take k++[zb2 (IntL.toI u64T (x/byN k%256))]=(zaj x 8).take (k+1):=by
  rw[un,div_by h];unfold zaj;rw[List.getElem?_map,List.getElem?_range h];rfl
theorem flat_take {α:Type} {k:Nat} (ls:List (List α)):(ls.take k).flatten.length≤ls.flatten.length:=by
  conv=>rhs;rw[←List.take_append_drop k ls,List.flatten_append,ue]
  omega
theorem flat_succ {α:Type} {k:Nat} {ls:List (List α)} {x:List α} (h:ls[k]?=some x):(ls.take (k+1)).flatten=(ls.take k).flatten++x:=by
  rw[un,h,List.flatten_append];simp
theorem znT {v:UInt32} {m:Nat} {c:UInt32} (h:m≤32) (hc:c.toNat=2^m):v/c=zdy v m:=by
  have hx:v.toNat<4294967296:=v.toNat_lt;apply UInt32.toNat_inj.1;unfold zdy;rw[UInt32.toNat_div,hc,UInt32.toNat_ofNat_of_lt' (Nat.lt_of_le_of_lt (Nat.div_le_self _ _) hx),Nat.min_eq_left h]
theorem shr32_zero (v:UInt32):v=zdy v 0:=by
  have hx:v.toNat<4294967296:=v.toNat_lt;apply UInt32.toNat_inj.1;unfold zdy;rw[UInt32.toNat_ofNat_of_lt' (Nat.lt_of_le_of_lt (Nat.div_le_self _ _) hx)];simp
theorem zkH {V:List UInt32} {k j:Nat} {v:UInt32} (hv:V[k]?=some v) (hj:j<4):zh3 V (4*k+j)=zb2 (IntL.toI u32T (zdy v (24-8*j))):=by
  unfold zh3;rw[show(4*k+j)/4=k by omega,show(4*k+j)%4=j by omega,uq,hv];rfl
theorem out4 {V:List UInt32} {k:Nat} {v:UInt32} (hv:V[k]?=some v):((((zdA V (4*k)).set (4*k) (zb2 (IntL.toI u32T (v/16777216)))).set (4*k+1) (zb2 (IntL.toI u32T (v/65536%256)))).set (4*k+2) (zb2 (IntL.toI u32T (v/256%256)))).set (4*k+3) (zb2 (IntL.toI u32T (v%256)))=zdA V (4*(k+1)):=by
  rw[low8w,low8w,low8w,znT (m:=24) yp rfl,znT (m:=16) yp rfl,znT (m:=8) yp rfl];have e0:=zkH hv (j:=0) yp;have e1:=zkH hv (j:=1) yp;have e2:=zkH hv (j:=2) yp;have e3:=zkH hv (j:=3) yp;have z:zb2 (IntL.toI u32T v)=zb2 (IntL.toI u32T (zdy v 0)):=by rw[←shr32_zero v]
  have s0:(zdA V (4*k)).set (4*k) (zb2 (IntL.toI u32T (zdy v 24)))=zdA V (4*k+1):=zeY e0.symm;have s1:(zdA V (4*k+1)).set (4*k+1) (zb2 (IntL.toI u32T (zdy v 16)))=zdA V (4*k+2):=zeY e1.symm;have s2:(zdA V (4*k+2)).set (4*k+2) (zb2 (IntL.toI u32T (zdy v 8)))=zdA V (4*k+3):=zeY e2.symm;have s3:(zdA V (4*k+3)).set (4*k+3) (zb2 (IntL.toI u32T (zdy v 0)))=zdA V (4*k+4):=zeY e3.symm;rw[z,s0,s1,s2,s3];rfl
theorem zls (n:UInt64) (size:Nat) (hs:size≤8):Tells P 122 [.val u64T n,.val i64T (size:Int)] (.fresh 5 u8T (zaj n size)):=by
 refine zc Tryz.func122 rfl rfl rfl (fun ext w hext=>?_);refine ze (d:=1) rfl zab (fun hin1=>?_);refine qaB ?_;refine qb2 ?_;refine A0 zbK ?_;refine zgG (d:=8) rfl (uh (by show ¬((size:Int)<0);omega)) ?_;refine qa9 ?_;refine A1 mV ?_;refine A1 zcm ?_;refine zgG (d:=11) rfl (uh (by show ¬((8:Int)<(size:Int));omega)) ?_;refine qar ?_;refine Cg ?_;refine qbL ?_;refine zqp (T:=u8T) (n:=size) rfl rfl rfl rfl rfl rfl yh yh zaf ze_5 ⟨by omega,by omega,(show(size)*1≤16777216 by omega)⟩ ?_;refine A0 aO ?_;refine qb2 ?_;refine A0 za1 ?_;refine qcn ?_;refine zi (d:=6) (y:=(size:Int)-1-((0:Nat):Int)) rfl ya ?_;refine zi (d:=0) (y:=zaB n (8*0)) rfl (zrI n) ?_;refine Lp (ι:=Nat×List UInt8) 1 (fun(k,l)=>((Fr.none.set 0 (.val u64T (zaB n (8*k)))).set 5 (.own 0)).set 6 (.val i64T ((size:Int)-1-(k:Int)))) (fun(k,l)=>Hp.none.set 0 (.row 5 u8T l)) (fun(k,l)=>k≤size∧l.length=size∧∀j,size-k≤j→j<size→l[j]?=(zaj n size)[j]?) (fun(k,l)=>size-k) ((0,List.replicate size 0)) (⟨uf _,by simp,fun j h1 h2=>by omega⟩) ?_;intro⟨k,l⟩ hinv;dsimp only at hinv;refine qaK ?_;refine qbP ?_;refine Cf (p:=k<size) (fun ht18=>?_) (fun ht18=>?_)
 ·
  obtain⟨x,hx⟩:∃x,l[size-1-k]?=some x:=yq;refine CSQBQR ?_;refine A0 mO ?_;refine qai ?_;refine A0 (zos rfl rfl rfl yp) ?_;refine qbC ?_;refine A0 (zI (i:=size-1-k) rfl rfl rfl rfl yh zch yd) ?_;refine zai rfl rfl rfl rfl rfl rfl yj (Lens.self _) ty_5 rfl ?_;refine CNR ?_;refine qa9 ?_;refine A0 (zlZ rfl rfl rfl yp) ?_;refine A0 aV ?_;refine CNIR ?_;refine qco ?_;refine qad ?_;refine zi (d:=0) (y:=zaB n (8*(k+1))) rfl (zrJ ya) ?_;refine zi (d:=6) (y:=(size:Int)-1-((k+1:Nat):Int)) rfl ya ?_;refine zB (n:=0) (y:=l.set (size-1-k) (zb2 (IntL.toI u64T (zaB n (8*k))))) rfl (congrArg (fun z=>l.set (size-1-k) z) (low8 _)) ?_;exact Nx ((k+1,l.set (size-1-k) (zb2 (IntL.toI u64T (zaB n (8*k)))))) (⟨by omega,by simp;exact hinv.2.1,ziM ht18 hinv.2.1 hinv.2.2⟩) (by show _<size-k;simp only[];omega)
 refine qa7 ?_;exact za rfl rfl (zf rfl rfl (zj7 hinv.2.1 (by rw[show k=size by omega] at hinv;exact hinv.2.2)))
theorem rpad_ok (b:List UInt8) (hb:b.length≤70368744177664):Tells P 160 [.val (bsl u8T) b] (.fresh 5 u8T (zcl b)):=by
 have hz:padZ b.length=(64-(b.length+9)%64)%64:=rfl;refine zc Tryz.func160 rfl rfl rfl (fun ext w hext=>?_);refine ze (d:=0) rfl zm (fun hsl0=>?_);refine qaB ?_;refine qbX ?_;refine zcA rfl rfl rfl rfl rfl rfl zaf y7 ?_;refine qbd ?_;refine qaz ?_;refine zo rfl rfl rfl rfl rfl rfl rfl zaf y7 ?_;refine A0 aO ?_;refine CNQ ?_;refine CB ?_;refine zB (n:=1) (y:=b++128::List.replicate 0 0) rfl yx ?_;refine Lp (ι:=Nat) 2 (fun j=>(Fr.none.set 0 (.val (bsl u8T) b)).set 3 (.own 1)) (fun j=>Hp.none.set 1 (.row 5 u8T (b++128::List.replicate j 0))) (fun j=>j≤padZ b.length) (fun j=>padZ b.length-j) (0) (uf _) ?_;intro j hinv;refine CQQR ?_;refine A0 mO ?_;refine A0 (za9 rfl rfl rfl zco) ?_;refine qbj ?_;refine qaT ?_;refine zk (p:=j<padZ b.length) rfl (by simp[IntL.toI];rw[←decide_not,uo];omega) (fun ht15=>?_) (fun ht15=>?_)
 ·
  refine CS ?_;refine CB ?_;refine CR ?_;refine A0 mO ?_;refine qaz ?_;refine zo rfl rfl rfl rfl rfl rfl rfl zaf y7 ?_;refine qbK ?_;refine CI ?_;refine qbS ?_;refine zB (n:=1) (y:=b++128::List.replicate (j+1) 0) rfl (by rw[List.replicate_succ'];simp) ?_;exact Nx (j+1) ya ya
 obtain rfl:j=padZ b.length:=ya;refine CE ?_;refine qa0 ?_;refine A0 (zaZ rfl rfl zco) ?_;refine A0 zfT ?_;refine A0 (zdv rfl (zhX) (us_3) rfl) ?_;refine zi (d:=22) (y:=(8*z6 (IntL.toI i64T (b.length:Int)))) rfl (mul8 _) ?_;refine qaj ?_;refine qbR ?_;refine zB (n:=1) (y:=(b++128::List.replicate (padZ b.length) 0)++(zaj (8*z6 (IntL.toI i64T (b.length:Int))) 8).take 0) rfl yx ?_;refine zi (d:=5) (y:=byN 0) rfl (zrI _) ?_;refine Lp (ι:=Nat) 2 (fun k=>(((Fr.none.set 3 (.own 1)).set 4 (.val u64T (8*z6 (IntL.toI i64T (b.length:Int))))).set 5 (.val u64T (byN k))).set 6 (.val i64T (k:Int))) (fun k=>Hp.none.set 1 (.row 5 u8T ((b++128::List.replicate (padZ b.length) 0)++(zaj (8*z6 (IntL.toI i64T (b.length:Int))) 8).take k))) (fun k=>k≤8) (fun k=>8-k) (0) (uf _) ?_;intro k hinv;refine qaK ?_;refine qa1 ?_;refine Cf (p:=k<8) (fun ht24=>?_) (fun ht24=>?_)
 ·
  refine CSQBQR ?_;refine A0 mO ?_;refine qai ?_;refine A0 (zlZ rfl rfl rfl (by first|decide|exact byN_ne ht24)) ?_;refine A0 (zos rfl rfl rfl (by first|decide|exact byN_ne ht24)) ?_;refine qbC ?_;refine qaz ?_;refine zo rfl rfl rfl rfl rfl rfl rfl zaf y7 ?_;refine A0 aO ?_;refine CNR ?_;refine qa9 ?_;refine A0 (zlZ rfl rfl rfl (by first|decide|exact byN_ne ht24)) ?_;refine A0 aV ?_;refine qb3 ?_;refine qbS ?_;refine zB (n:=1) (y:=(b++128::List.replicate (padZ b.length) 0)++(zaj (8*z6 (IntL.toI i64T (b.length:Int))) 8).take (k+1)) rfl (by rw[List.append_assoc];exact congrArg _ (zn9 ht24)) ?_;refine zi (d:=5) (y:=byN (k+1)) rfl (zrJ ht24) ?_;exact Nx (k+1) ya ya
 obtain rfl:k=8:=ya;refine qa7 ?_;exact za rfl rfl (zf rfl rfl (by rw[uc (by rw[zU];exact ug _)];rfl))
theorem zkB (b:List UInt8) (hb:b.length≤70368744177664):Tells P 123 [.val (bsl u8T) b] (.val idT (zea b)):=by
 obtain⟨m,hm⟩:∃m,m=(b.length+padZ b.length+9)/64:=⟨_,rfl⟩;have hz2:padZ b.length<64:=by unfold padZ;omega
 have hpl:(zcl b).length=64*m:=by rw[zpB,hm]
 have hmb:m≤2000000000000:=ya;refine zc Tryz.func123 rfl rfl rfl (fun ext w hext=>?_);refine ze (d:=0) rfl zm (fun hsl0=>?_);refine CQR ?_;refine qaI ?_;refine qbX ?_;refine A0 (oCl (zF (rpad_ok b hb)) rfl fn_160 ye) ?_;refine qaj ?_;refine A0 (oCl (rfirst_ok) rfl fn_161 trivial) ?_;refine qbR ?_;refine Lp (ι:=Nat) 1 (fun (k:Nat)=>((((Fr.none).set 2 (.ptr 0 0)).set 3 (.val (sl u8T) (zcl b))).set 4 (.val (sl u32T) (shaN (zcl b) k))).set 5 (.val i64T ((64*k:Nat):Int))) (fun (k:Nat)=>(Hp.none).set 0 (.box 27 idT zId)) (fun (k:Nat)=>k≤m) (fun (k:Nat)=>m-k) (0) (uf _) ?_;intro k hinv;refine qb9 ?_;refine A0 (zaZ rfl rfl zco) ?_;refine qa1 ?_;refine Cf (p:=64*k<(zcl b).length) (fun ht14=>?_) (fun ht14=>?_)
 ·
  refine qaD ?_;refine CR ?_;refine qai ?_;refine qai ?_;refine A0 zbh ?_;refine A0 (g_sl_lh rfl rfl rfl rfl zch yd) ?_;refine zi (d:=22) (y:=((zcl b).take (64*k+64)).drop (64*k)) rfl (by congr 1) ?_;refine A0 (oCl (zF (rwords_ok (((zcl b).take (64*k+64)).drop (64*k)) (by rw[List.length_drop,um];omega))) rfl fn_163 ye) ?_;refine A0 (oCl (zF (rrounds_ok (shaN (zcl b) k) (zaS (((zcl b).take (64*k+64)).drop (64*k)) 64) (zkA _ k) (zbM 64))) rfl fn_162 yf) ?_;refine A0 aV ?_;refine qb3 ?_;refine zi (d:=4) (y:=shaN (zcl b) (k+1)) rfl zlc ?_;refine zi (d:=5) (y:=((64*(k+1):Nat):Int)) rfl ya ?_;exact Nx (k+1) ya ya
 obtain rfl:m=k:=ya;refine qbQ ?_;refine qaI ?_;refine qa2 ?_;refine Lp (ι:=Nat) 2 (fun (k:Nat)=>((((Fr.none).set 2 (.ptr 0 0)).set 4 (.val (sl u32T) (shaN (zcl b) m))).set 6 (.ptr 1 0)).set 7 (.val i64T (k:Int))) (fun (k:Nat)=>((Hp.none).set 0 (.box 27 idT zId)).set 1 (.box 27 idT (zdA (shaN (zcl b) m) (4*k)))) (fun (k:Nat)=>k≤8) (fun (k:Nat)=>8-k) (0) (uf _) ?_;intro k hinv;refine qaK ?_;refine qa1 ?_;refine Cf (p:=k<8) (fun ht26=>?_) (fun ht26=>?_)
 ·
  obtain⟨v,hv⟩:∃x,(shaN (zcl b) m)[k]?=some x:=⟨_,ub (by rw[zkA];exact ht26)⟩;refine qbe ?_;refine A0 zfT ?_;refine qai ?_;refine A0 (zD (i:=k) rfl rfl rfl ya zaW yj) ?_;refine A0 (zh rfl rfl zaY) ?_;refine A0 (zic rfl rfl rfl yp) ?_;refine A0 (zhL rfl (ui_5) (zk3) rfl) ?_;refine A0 (zs (i:=4*k) rfl rfl rfl yh zc8 ya) ?_;refine zg rfl rfl rfl rfl rfl (Lens.elem (i:=4*k) ya u8T) ty_5 rfl ?_;refine qbX ?_;refine A0 zfT ?_;refine A0 zbh ?_;refine qai ?_;refine A0 (zD (i:=k) rfl rfl rfl ya zaW yj) ?_;refine A0 (zh rfl rfl zaY) ?_;refine A0 (zic rfl rfl rfl yp) ?_;refine A0 (zot rfl rfl rfl yp) ?_;refine A0 (zhL rfl (ui_5) (zk3) rfl) ?_;refine A0 (zs (i:=4*k+1) rfl rfl rfl yh zc8 ya) ?_;refine zg rfl rfl rfl rfl rfl (Lens.elem (i:=4*k+1) ya u8T) ty_5 rfl ?_;refine qbX ?_;refine A0 zfT ?_;refine A0 zbh ?_;refine qai ?_;refine A0 (zD (i:=k) rfl rfl rfl ya zaW yj) ?_;refine A0 (zh rfl rfl zaY) ?_;refine A0 (zic rfl rfl rfl yp) ?_;refine A0 (zot rfl rfl rfl yp) ?_;refine A0 (zhL rfl (ui_5) (zk3) rfl) ?_;refine A0 (zs (i:=4*k+2) rfl rfl rfl yh zc8 ya) ?_;refine zg rfl rfl rfl rfl rfl (Lens.elem (i:=4*k+2) ya u8T) ty_5 rfl ?_;refine CNR ?_;refine qa9 ?_;refine A0 zfT ?_;refine A0 zbh ?_;refine qai ?_;refine A0 (zD (i:=k) rfl rfl rfl ya zaW yj) ?_;refine A0 (zh rfl rfl zaY) ?_;refine A0 (zot rfl rfl rfl yp) ?_;refine A0 (zhL rfl (ui_5) (zk3) rfl) ?_;refine A0 (zs (i:=4*k+3) rfl rfl rfl yh zc8 ya) ?_;refine zg rfl rfl rfl rfl rfl (Lens.elem (i:=4*k+3) ya u8T) ty_5 rfl ?_;refine qb3 ?_;refine zJ (n:=1) (y:=zdA (shaN (zcl b) m) (4*(k+1))) rfl (out4 hv) ?_;exact Nx (k+1) ya ya
 obtain rfl:k=8:=ya;refine qbQ ?_;refine qbw ?_;refine qcb ?_;exact zq rfl rfl rfl rfl zT yby
theorem zrQ (ls:List (List UInt8)) (hl:ls.flatten.length≤70368744177664):Tells P 78 [.val (bsl (bsl u8T)) ls] (.val idT (zea ls.flatten)):=by
 refine zc Tryz.func78 rfl rfl rfl (fun ext w hext=>?_);refine ze (d:=0) rfl zm (fun hsl0=>?_);refine CQR ?_;refine qaI ?_;refine CNQR ?_;refine A0 aL ?_;refine qa2 ?_;refine zcw (T:=u8T) (d:=3) 5 rfl ?_;refine Lp (ι:=Nat) 2 (fun (k:Nat)=>((((Fr.none).set 0 (.val (bsl (bsl u8T)) ls)).set 2 (.ptr 0 0)).set 3 (.own 1)).set 4 (.val i64T (k:Int))) (fun (k:Nat)=>((Hp.none).set 0 (.box 27 idT zId)).set 1 (.row 5 u8T (ls.take k).flatten)) (fun (k:Nat)=>k≤ls.length) (fun (k:Nat)=>ls.length-k) (0) (uf _) ?_;intro k hinv;refine qb9 ?_;refine A0 (zaZ rfl rfl zqW) ?_;refine qa1 ?_;refine Cf (p:=k<ls.length) (fun ht8=>?_) (fun ht8=>?_)
 ·
  obtain⟨x,hx⟩:∃x,ls[k]?=some x:=⟨_,ub ht8⟩;have hfl:=flat_take (k:=k+1) ls;have hfs:=flat_succ hx;rw[hfs,ue] at hfl;refine qaD ?_;refine CR ?_;refine A0 mO ?_;refine qai ?_;refine A0 (zD (i:=k) rfl rfl rfl ya zix yj) ?_;refine A0 (zh rfl rfl zmU) ?_;refine zo rfl rfl rfl rfl rfl rfl rfl zaf ya ?_;refine A0 aO ?_;refine qb3 ?_;refine qbS ?_;refine zB (n:=1) (y:=(ls.take (k+1)).flatten) rfl hfs.symm ?_;exact Nx (k+1) ya ya
 refine zB (n:=1) (y:=ls.flatten) rfl yak ?_;refine qbQ ?_;refine A0 mO ?_;refine A0 (oCl (zkB ls.flatten hl) rfl zsx ⟨(zG rfl rfl),trivial⟩) ?_;refine qcb ?_;exact zq rfl rfl rfl rfl zT (rfl)
theorem rput_ok (t:Tx):Tells P 212 [.val txT t] (.tup2 (.fresh 5 u8T (if zaz t=true then zqO t else [])) (.val zu (zaz t))):=by
 refine zc Tryz.func212 rfl rfl rfl (fun ext w hext=>?_);refine ze (d:=0) rfl zq3 (fun h32=>?_);refine qbO ?_;refine qaj ?_;refine qb0 ?_;refine A0 (oCl (zln _) rfl fn_176 ye) ?_;refine qah ?_;refine qaQ ?_;refine zk (p:=¬zaz t=true) rfl yx (fun ht11=>?_) (fun ht11=>?_)
 ·
  refine qaB ?_;refine qad ?_;exact zac rfl rfl (by rw[ur ht11];exact zr rfl) (zb rfl (by simpa using ht11))
 have hmay:=ua ht11;obtain⟨hmi,hm0,hmo⟩:=zcT hmay;refine CSQR ?_;refine qa3 ?_;refine xi ?_;refine zbk (T:=u8T) (xs:=[_]) rfl rfl rfl rfl zch zaf yz rfl rfl ?_;refine A0 aO ?_;refine qa2 ?_;refine Lp (ι:=Nat) 2 (fun (k:Nat)=>(((Fr.none).set 1 (.ptr 0 0)).set 5 (.own 1)).set 6 (.val i64T (k:Int))) (fun (k:Nat)=>((Hp.none).set 0 (.box 112 txT t)).set 1 (.row 5 u8T (zgQ t k))) (fun (k:Nat)=>k≤t.ins.length∧(zgQ t k).length=33*k+1) (fun (k:Nat)=>t.ins.length-k) (0) (⟨uf _,by simp[zgQ]⟩) ?_;intro k hinv;obtain⟨hk,hpl⟩:=hinv;have hinv:=And.intro hk hpl;refine qaK ?_;refine qa3 ?_;refine qa1 ?_;refine Cf (p:=k<t.ins.length) (fun ht21=>?_) (fun ht21=>?_)
 ·
  obtain⟨x,hx⟩:∃x,t.ins[k]?=some x:=⟨_,ub ht21⟩;have hx32:=h32 x (ud hx);refine CSQBQR ?_;refine A0 mO ?_;refine qc7 ?_;refine qa9 ?_;refine A0 (zD (i:=k) rfl rfl rfl ya zd9 yj) ?_;refine A0 (oFr zcH zd0) ?_;refine qbJ ?_;refine zo rfl rfl rfl rfl rfl rfl rfl zaf (by show(_+x.tx.length)*1≤_∧_+x.tx.length≤_;omega) ?_;refine A0 aO ?_;refine CNR ?_;refine A0 mO ?_;refine qc7 ?_;refine qa9 ?_;refine A0 (zD (i:=k) rfl rfl rfl ya zd9 yj) ?_;refine A0 (oFr zbm zeo) ?_;refine qbB ?_;refine xi ?_;refine qaz ?_;refine zo rfl rfl rfl rfl rfl rfl rfl zaf (by simp only[ue,List.length_cons,List.length_nil,hx32];omega) ?_;refine A0 aO ?_;refine qb3 ?_;refine xz ?_;refine zB (n:=1) rfl (zgj hx).symm ?_;exact Nx (k+1) (⟨by omega,by rw[zgj hx];simp only[ue,List.length_cons,List.length_nil,hx32];omega⟩) ya
 obtain rfl:k=t.ins.length:=ya;obtain⟨hli,_⟩:=hinv;refine qbQ ?_;refine A0 mO ?_;refine qaP ?_;refine xi ?_;refine qaz ?_;refine zo rfl rfl rfl rfl rfl rfl rfl zaf yV ?_;refine A0 aO ?_;refine qa2 ?_;refine qbS ?_;refine zB (y:=zdj t 0) (n:=1) rfl (by simp[zdj]) ?_;refine Lp (ι:=Nat) 2 (fun k=>((Fr.none.set 1 (.ptr 0 0)).set 5 (.own 1)).set 7 (.val i64T (k:Int))) (fun k=>(Hp.none.set 0 (.box 112 txT t)).set 1 (.row 5 u8T (zdj t k))) (fun k=>k≤t.outs.length∧(zdj t k).length=7*k+2+33*t.ins.length) (fun k=>t.outs.length-k) (0) (⟨uf _,by simp[zdj,hpl];omega⟩) ?_;intro k hinv;refine qaK ?_;refine qaP ?_;refine qa1 ?_;refine Cf (p:=k<t.outs.length) (fun ht53=>?_) (fun ht53=>?_)
 ·
  obtain⟨x,hx⟩:∃x,t.outs[k]?=some x:=⟨_,ub ht53⟩;refine CSQBQR ?_;refine A0 mO ?_;refine A0 (oFp zbd) ?_;refine A0 (oLb zaU zdp) ?_;refine qa9 ?_;refine A0 (zD (i:=k) rfl rfl rfl ya zeX yj) ?_;refine A0 (oFr zb9 zdo) ?_;refine qbB ?_;refine A0 (zdv rfl (zhX) (us_3) rfl) ?_;refine A0 (oCl (zF (zls _ 6 yp)) rfl zp2 yf) ?_;refine zo rfl rfl rfl rfl rfl rfl rfl zaf yas ?_;refine A0 aO ?_;refine CNR ?_;refine A0 mO ?_;refine A0 (oFp zbd) ?_;refine A0 (oLb zaU zdp) ?_;refine qa9 ?_;refine A0 (zD (i:=k) rfl rfl rfl ya zeX yj) ?_;refine A0 (oFr zcV zdL) ?_;refine qbB ?_;refine xi ?_;refine qaz ?_;refine zo rfl rfl rfl rfl rfl rfl rfl zaf yas ?_;refine A0 aO ?_;refine qb3 ?_;refine xz ?_;refine zB (n:=1) rfl (zfo hx).symm ?_;exact Nx (k+1) (⟨by omega,by rw[zfo hx];simp only[ue,List.length_cons,List.length_nil,zU];omega⟩) ya
 refine qbQ ?_;refine A0 mO ?_;refine A0 aO ?_;refine qad ?_;exact zac rfl rfl (zf rfl rfl (by rw[ut hmay,show k=t.outs.length by omega];rfl)) (zb rfl hmay.symm)
theorem zrU (t:Tx):Tells P 178 [.val txT t] (.val idT (idOf t)):=by
 refine zc Tryz.func178 rfl rfl rfl (fun ext w hext=>?_);refine ze (d:=0) rfl zq3 (fun h32=>?_);refine qaf ?_;refine qaI ?_;refine CNQR ?_;refine qb0 ?_;refine A0 (oCl (zdP (rput_ok t)) rfl fn_212 ye) ?_;refine qcz ?_;refine zk (p:=¬zaz t=true) rfl yx (fun ht11=>?_) (fun ht11=>?_)
 ·
  refine CQR ?_;refine A0 (zdF rfl zc8 zqB rfl) ?_;refine qcb ?_;exact zq rfl rfl rfl rfl zT (by unfold idOf;rw[ur ht11])
 refine zi (d:=3) rfl (ut (ua ht11)) ?_;refine CSQR ?_;refine qaz ?_;refine qa9 ?_;refine A0 (zW (T:=(sl u8T)) (xs:=[_,_]) rfl zix zjt yaJ rfl rfl) ?_;refine A0 (oCl (zrQ [[6],zqO t] (by have:=zpw (ua ht11) h32;simp;omega)) rfl fn_78 ye) ?_;refine qcb ?_;exact zq rfl rfl rfl rfl zT (by unfold idOf;rw[ut (ua ht11)];simp)
def zeD (c:Coin):Bool→List Coin→List Coin
  | d,[]=>if d=true then [] else [c]
  | d,x::l=>if zaI c.inn x.inn<0∧¬d=true then c::x::zeD c true l else x::zeD c d l
theorem zhk {c:Coin}:∀{l:List Coin},zeD c true l=l
  | []=>rfl
  | x::l=>by rw[zeD,ur yx,zhk]
theorem znQ {c x:Coin} {d:Bool} {p:List Coin} {k:Nat} (hx:p[k]?=some x) (h:zaI c.inn x.inn<0) (hd:d=false):zeD c d (p.drop k)=c::x::zeD c true (p.drop (k+1)):=by
  obtain⟨hk,rfl⟩:=ul.1 hx;rw[List.drop_eq_getElem_cons hk,zeD,ut ⟨h,by simp[hd]⟩]
theorem zhl {c x:Coin} {d:Bool} {p:List Coin} {k:Nat} (hx:p[k]?=some x) (h:¬(zaI c.inn x.inn<0∧d=false)):zeD c d (p.drop k)=x::zeD c d (p.drop (k+1)):=by
  obtain⟨hk,rfl⟩:=ul.1 hx;rw[List.drop_eq_getElem_cons hk,zeD,ur (by simpa using h)]
theorem zo5 {c:Coin}:∀{d:Bool} {l:List Coin},(zeD c d l).length≤l.length+1
  | d,[]=>by unfold zeD;split<;>simp
  | d,x::l=>by
    unfold zeD
    split
    · rw[zhk];simp
    have:=zo5 (c:=c) (d:=d) (l:=l);simp;omega
theorem zji {c:Coin}:∀{l:List Coin},(zeD c false l).Perm (l++[c])
  | []=>List.Perm.refl _
  | x::l=>by
    unfold zeD
    split
    · rw[zhk]
      exact(List.perm_append_singleton c (x::l)).symm
    rw[List.cons_append];exact List.Perm.cons _ zji
theorem zjY {c:Coin}:∀{l:List Coin},Sorted l→(∀x∈l,zaI c.inn x.inn≠0)→Sorted (zeD c false l)
  | [],_,_=>List.pairwise_singleton _ _
  | x::l,h,ha=>by
    have hl:=List.pairwise_cons.1 h;unfold zeD
    split
    · rename_i h0
      rw[zhk];refine List.pairwise_cons.2 ⟨fun y hy=>?_,h⟩;rcases List.mem_cons.1 hy with e|hy
      · rw[e];exact h0.1
      exact zdS h0.1 (hl.1 y hy)
    rename_i h0;have hx:zaI x.inn c.inn<0:=by
      have h1:=ha x List.mem_cons_self;have h2:=zbT c.inn x.inn;have h3:¬zaI c.inn x.inn<0:=fun h=>h0 ⟨h,by simp⟩
      omega
    refine List.pairwise_cons.2 ⟨fun y hy=>?_,zjY hl.2 fun y hy=>ha y (List.mem_cons_of_mem _ hy)⟩;rcases List.mem_append.1 (zji.mem_iff.1 hy) with hy|hy
    · exact hl.1 y hy
    simp at hy;rw[hy];exact hx
def withs (p:List Coin) (id:Ab.Id) (outs:List Out) (k:Nat):List Coin:=(newN id outs k).foldl (fun p c=>zeD c false p) p
theorem zjh {p:List Coin} {id:Ab.Id} {outs:List Out} {k:Nat} {o:Out} (h:outs[k]?=some o):zeD ⟨⟨id,(k:Int)⟩,o⟩ false (withs p id outs k)=withs p id outs (k+1):=by
  unfold withs
  have:=zlx (id:=id) h []
  simp only[List.nil_append] at this;rw[←this,List.foldl_append];rfl
theorem zo4 {p:List Coin} {id:Ab.Id} {outs:List Out}:∀{k:Nat},k≤outs.length→(withs p id outs k).length≤p.length+k
  | 0,_=>by unfold withs newN;simp
  | k+1,h=>by
    have:=zo4 (p:=p) (id:=id) (outs:=outs) (k:=k) ya
    rw[←zjh (ub (show k<outs.length by omega))]
    have:=zo5 (c:=⟨⟨id,(k:Int)⟩,outs[k]⟩) (d:=false) (l:=withs p id outs k)
    omega
theorem zmR {p:List Coin} {id:Ab.Id} {outs:List Out} (hs:Sorted p) (hn:(p.any fun c=>decide (c.inn.tx=id))=false):∀{k:Nat},k≤outs.length→(withs p id outs k).Perm (p++newN id outs k)∧Sorted (withs p id outs k)
  | 0,_=>by unfold withs newN;simp;exact hs
  | k+1,h=>by
    have ho:=ub (show k<outs.length by omega);obtain⟨h1,h2⟩:=zmR (outs:=outs) hs hn (k:=k) ya;have hap:=zhe (id:=id) (outs:=outs) (k:=k+1) (Sorted.apart hs) hn;rw[←zlx ho p] at hap ⊢;rw[←zjh ho];refine⟨zji.trans (List.Perm.append_right _ h1),zjY h2 fun x hx=>?_⟩;have h3:=(List.pairwise_append.1 hap).2.2 x (h1.mem_iff.1 hx) ⟨⟨id,(k:Int)⟩,outs[k]⟩ yx;have h4:=zbT x.inn (⟨⟨id,(k:Int)⟩,outs[k]⟩:Coin).inn;omega
theorem zmQ {p:List Coin} {t:Tx} (hs:Sorted p) (hm:(zaH p t).2=0):withs p (idOf t) t.outs t.outs.length=(zaH p t).1:=by
  unfold zaH at hm ⊢
  split
  · rename_i e;rw[ut e] at hm;exact absurd hm yp
  rename_i h;have hn:(p.any fun c=>decide (c.inn.tx=idOf t))=false:=by simpa using h
  obtain⟨h1,h2⟩:=zmR (outs:=t.outs) hs hn (ug _);refine zla (zhe (Sorted.apart hs) hn) h1 ?_;exact List.Pairwise.imp (fun {a b} h=>by have:=zbT a.inn b.inn;omega) h2
theorem zfq {p:List Coin} {t:Tx}:(zaH p t).2=if (p.any fun c=>decide (c.inn.tx=idOf t))=true then 10 else 0:=by unfold zaH;split<;>rfl
theorem rwith_ok (p:List Coin) (c:Coin) (hp:p.length≤1000):Tells P 213 [.val (bsl zal) p,.val zal c] (.fresh 180 zal (zeD c false p)):=by
 refine zc Tryz.func213 rfl rfl rfl (fun ext w hext=>?_);refine ze (d:=0) rfl zm (fun hsl0=>?_);refine qbO ?_;refine CNQR ?_;refine A0 aL ?_;refine CNQR ?_;refine qbR ?_;refine zcw (T:=zal) (d:=5) 180 rfl ?_;refine Lp (ι:=Nat×List Coin×Bool) 2 (fun(k,out,d)=>((((Fr.none.set 0 (.val (bsl zal) p)).set 3 (.ptr 0 0)).set 5 (.own 1)).set 6 (.val zu d)).set 7 (.val i64T (k:Int))) (fun(k,out,d)=>(Hp.none.set 0 (.box 180 zal c)).set 1 (.row 180 zal out)) (fun(k,out,d)=>k≤p.length∧out.length≤2*k∧out++zeD c d (p.drop k)=zeD c false p) (fun(k,out,d)=>p.length-k) ((0,[],false)) (⟨uf _,by simp,rfl⟩) ?_;intro⟨k,out,d⟩ hinv;dsimp only at hinv;refine qb9 ?_;refine qcP ?_;refine qa1 ?_;refine Cf (p:=k<p.length) (fun ht12=>?_) (fun ht12=>?_)
 ·
  obtain⟨x,hx⟩:∃x,p[k]?=some x:=⟨_,ub ht12⟩;refine qcK ?_;refine G0 (oLs rfl rfl rfl zd4) ?_;refine qbk ?_;refine G0 (zD (i:=k) rfl rfl rfl ya zeq yj) ?_;refine G0 (zh rfl rfl zd4) ?_;refine G0 (oCl (znf _ _) rfl fn_210 ybG) ?_;refine zaq (d:=20) (p:=zaI c.inn x.inn<0) rfl yr (fun g20=>?_) (fun g20=>?_)
  ·
   refine qa6 ?_;refine qb9 ?_;refine A1 mV ?_;refine A1 oN ?_;refine zad (d:=24) (p:=d=false) rfl (by cases d<;>rfl) (fun g24=>?_) (fun g24=>?_)
   ·
    refine qar ?_;refine Ct ?_;refine CQR ?_;refine A0 mO ?_;refine A0 (oLs rfl rfl rfl zd4) ?_;refine qbD ?_;refine xM ?_;refine A0 aO ?_;refine CNR ?_;refine qci ?_;refine A0 mO ?_;refine qai ?_;refine A0 (zD (i:=k) rfl rfl rfl ya zeq yj) ?_;refine A0 (zh rfl rfl zd4) ?_;refine qbD ?_;refine xM ?_;refine A0 aO ?_;refine qb3 ?_;refine xz ?_;exact Nx ((k+1,out++[c]++[x],true)) yK ybu
   refine qar ?_;refine Cg ?_;refine CS ?_;refine CR ?_;refine A0 mO ?_;refine qai ?_;refine A0 (zD (i:=k) rfl rfl rfl ya zeq yj) ?_;refine A0 (zh rfl rfl zd4) ?_;refine qbD ?_;refine xM ?_;refine A0 aO ?_;refine qb3 ?_;refine qbS ?_;exact Nx ((k+1,out++[x],d)) yK ybu
  refine qa6 ?_;refine qb9 ?_;refine qc1 ?_;refine Cg ?_;refine CS ?_;refine CR ?_;refine A0 mO ?_;refine qai ?_;refine A0 (zD (i:=k) rfl rfl rfl ya zeq yj) ?_;refine A0 (zh rfl rfl zd4) ?_;refine qbD ?_;refine xM ?_;refine A0 aO ?_;refine qb3 ?_;refine qbS ?_;exact Nx ((k+1,out++[x],d)) yK ybu
 refine CE ?_;refine qaK ?_;refine qaQ ?_;refine zk (p:=d=false) rfl (by cases d<;>rfl) (fun ht38=>?_) (fun ht38=>?_)
 ·
  refine CR ?_;refine A0 mO ?_;refine A0 (oLs rfl rfl rfl zd4) ?_;refine qbD ?_;refine xM ?_;refine qbd ?_;refine qbK ?_;exact za rfl rfl (zf rfl rfl ybB)
 refine CSQR ?_;refine A0 mO ?_;refine qbK ?_;exact za rfl rfl (zf rfl rfl ybB)
theorem zrR (p:List Coin) (t:Tx) (hp:p.length≤100) (ht:t.outs.length≤100):Tells P 180 [.val (sl zal) p,.val txT t] (.val (sl zal) (withs p (idOf t) t.outs t.outs.length)):=by
 refine zc Tryz.func180 rfl rfl rfl (fun ext w hext=>?_);refine ze (d:=0) rfl zm (fun hsl0=>?_);refine qbO ?_;refine CNQR ?_;refine qb0 ?_;refine A0 (oCl (zrU _) rfl zst ye) ?_;refine qaI ?_;refine qao ?_;refine qa2 ?_;refine zi (d:=0) (y:=withs p (idOf t) t.outs 0) rfl (by unfold withs newN;simp) ?_;refine Lp (ι:=Nat) 2 (fun (k:Nat)=>((((Fr.none).set 0 (.val (sl zal) (withs p (idOf t) t.outs k))).set 3 (.ptr 0 0)).set 5 (.ptr 1 0)).set 6 (.val i64T (k:Int))) (fun (k:Nat)=>((Hp.none).set 0 (.box 112 txT t)).set 1 (.box 27 idT (idOf t))) (fun (k:Nat)=>k≤t.outs.length) (fun (k:Nat)=>t.outs.length-k) (0) (uf _) ?_;intro k hinv;refine qaK ?_;refine qaP ?_;refine qa1 ?_;refine Cf (p:=k<t.outs.length) (fun ht13=>?_) (fun ht13=>?_)
 ·
  obtain⟨o,ho⟩:∃o,t.outs[k]?=some o:=⟨_,ub ht13⟩;refine qaD ?_;refine CD mixed ?_;refine G0 mV ?_;refine G0 (oLs rfl rfl rfl zT) ?_;refine G0 mV ?_;refine G0 (z7 rfl ze_120 bd_120 (.cons zcH zd0 zT rfl (.cons zbm zeo ty_3 rfl .nil)) rfl) ?_;refine G0 (oFp zbd) ?_;refine G0 (oLb zaU zdp) ?_;refine G0 mV ?_;refine G0 (zD (i:=k) rfl rfl rfl ya zeX yj) ?_;refine G0 (zh rfl rfl zeU) ?_;refine G0 (z7 rfl zo3 bd_180 (.cons zbc zau zbI rfl (.cons zdf zbR zeU rfl .nil)) rfl) ?_;refine G0 (oCl (zF (rwith_ok (withs p (idOf t) t.outs k) ⟨⟨idOf t,(k:Int)⟩,o⟩ (by have:=zo4 (p:=p) (id:=idOf t) hinv;omega))) rfl fn_213 yf) ?_;refine qa6 ?_;refine CI ?_;refine CR ?_;refine qak ?_;refine zi (d:=0) rfl (zjh ho) ?_;exact Nx (k+1) ya ya
 obtain rfl:k=t.outs.length:=ya;refine CE ?_;refine qcg ?_;exact za rfl rfl (zb rfl rfl)
theorem zlS {p:List Coin} {x:In} {k:Nat} {c:Coin} (hs:Sorted p) (hc:p[k]?=some c) (hx:c.inn=x) (lo hi:Nat) (h1:lo≤k) (h2:k≤hi) (h3:hi≤p.length):halves (fun c=>zaI c.inn x) p lo hi=k:=by
  obtain⟨hk,hk2⟩:=ul.1 hc;rw[halves]
  split
  · rename_i hlt
    have hm:(lo+hi)/2<p.length:=ya;rw[ub hm];simp only[]
    split
    · rename_i h0
      refine zlS hs hc hx _ _ ?_ h2 h3;rcases Nat.lt_trichotomy ((lo+hi)/2) k with h|h|h
      · omega
      · simp only[h,hk2,hx] at h0
        have:=zbN.2 (rfl:x=x);omega
      have:=List.pairwise_iff_getElem.1 hs k _ hk hm h
      rw[hk2,hx] at this
      have:=zbT x (p[(lo+hi)/2]).inn;omega
    rename_i h0;refine zlS hs hc hx _ _ h1 ?_ ya;rcases Nat.lt_trichotomy ((lo+hi)/2) k with h|h|h
    · have:=List.pairwise_iff_getElem.1 hs _ k hm hk h
      rw[hk2,hx] at this;exact absurd this h0
    · omega
    omega
  omega
termination_by hi-lo
theorem takeIns_at {p:List Coin} {x:In} {l:List In} {n:Int} {k:Nat} {c:Coin} (hs:Sorted p) (hc:p[k]?=some c) (hx:c.inn=x):za7 p n (x::l)=za7 (p.take k++p.drop (k+1)) (IntKind.i64.wrap (n+c.out.v)) l:=by
  have hk:=(ul.1 hc).1;have hp:placeOf p x=k:=zlS hs hc hx _ _ (uf _) (Nat.le_of_lt hk) (ug _);rw[za7.eq_2,hp,hc];simp only[];rw[ut (zbN.2 hx)]
theorem zqE {p:List Coin} {x:In} {l:List In} {n:Int} (h:∀c∈p,c.inn≠x):za7 p n (x::l)=none:=by
  rw[za7.eq_2]
  split
  · rfl
  rename_i c hc;rw[ur fun e=>h c (ud hc) (zbN.1 e)]
theorem zpf {p:List Coin} {t:Tx} (hp:zak p=true) (ht:zaz t=true) (hne:t.ins≠[]) (h:za7 p 0 t.ins=none):zy p t=(p,0,8):=by
  unfold zy;rw[ur (Classical.not_not.2 ⟨hp,ht,hne⟩),h]
theorem zgb {p rest:List Coin} {t:Tx} {n:Int} (hp:zak p=true) (ht:zaz t=true) (hne:t.ins≠[]) (h:za7 p 0 t.ins=some (rest,n)):zy p t=if n<zcs (·.v) t.outs then (p,0,8) else if (rest.any fun c=>decide (c.inn.tx=idOf t))=true then (p,0,10) else if 48<(zaH rest t).1.length then (p,0,11) else ((zaH rest t).1,n-zcs (·.v) t.outs,0):=by
  obtain⟨h1,h2,h3⟩:=zS.1 hp;have hT:=zdH h1 h3;have h4:=zf9 h h1 h3 (Int.le_refl _) ya;have hr:=zh1 (f:=fun c:Coin=>c.out.v) (l:=rest) fun c hc=>(zf0 h1 c ((zd7 h).subset hc)).1
  have ho:=zkG ht;rw[←ho.1] at ho;have e:IntKind.i64.wrap (n-zcs (·.v) t.outs)=n-zcs (·.v) t.outs:=zaF ya;unfold zy;rw[ur (Classical.not_not.2 ⟨hp,ht,hne⟩),h];simp only[];rw[e,zfq];by_cases c1:n<zcs (·.v) t.outs
  · rw[ut ya,ut c1]
  rw[ur ya,ur c1];by_cases c2:(rest.any fun c=>decide (c.inn.tx=idOf t))=true
  · simp only[ut c2];rfl
  simp only[ur c2,if_true]
theorem zpn (p:List Coin) (t:Tx):Tells P 175 [.val (sl zal) p,.val txT t] (.tup3 (.val (sl zal) (zy p t).1) (.val i64T (zy p t).2.1) (.val i64T (zy p t).2.2)):=by
 refine zc Tryz.func175 rfl rfl rfl (fun ext w hext=>?_);refine ze (d:=0) rfl zm (fun hsl0=>?_);refine ze (d:=1) rfl zkR (fun htl=>?_);refine qbO ?_;refine A0 aV ?_;refine qaS ?_;refine A0 (oCl (rmay_ok _) rfl fn_174 ye) ?_;refine qaj ?_;refine qb0 ?_;refine A0 (oCl (zln _) rfl fn_176 ye) ?_;refine qah ?_;refine A0 oN ?_;refine zad (d:=20) (p:=¬zak p=true) rfl yx (fun g20=>?_) (fun g20=>?_)
 ·
  refine qa9 ?_;refine qcI ?_;refine qbH ?_;refine qaZ ?_;refine Ct ?_;refine qa0 ?_;refine A0 aV ?_;refine qb6 ?_;have hS:zy p t=(p,0,1):=by unfold zy;rw[ut (fun h=>g20 h.1)]
  exact zcO rfl rfl (zb rfl yC) (zb rfl yC) (zb rfl yC)
 refine qa9 ?_;refine A1 mV ?_;refine A1 oN ?_;refine zad (d:=23) (p:=¬zaz t=true) rfl yx (fun g23=>?_) (fun g23=>?_)
 ·
  refine qbH ?_;refine qaZ ?_;refine Ct ?_;refine qa0 ?_;refine A0 aV ?_;refine qb6 ?_;have hS:zy p t=(p,0,1):=by unfold zy;rw[ut (fun h=>g23 h.2.1)]
  exact zcO rfl rfl (zb rfl yC) (zb rfl yC) (zb rfl yC)
 refine qat ?_;refine A1 (oFp zbB) ?_;refine A1 (oLb zbY zdN) ?_;refine A1 (zaZ rfl rfl ze4) ?_;refine A1 zct ?_;refine Sp (d:=29) (p:=t.ins.length=0) (fun g29=>?_) (fun g29=>?_)
 ·
  refine qar ?_;refine Ct ?_;refine qa0 ?_;refine A0 aV ?_;refine qb6 ?_;have hS:zy p t=(p,0,1):=by unfold zy;rw[ut (fun h=>h.2.2 (List.eq_nil_of_length_eq_zero g29))]
  exact zcO rfl rfl (zb rfl yC) (zb rfl yC) (zb rfl yC)
 have hmp:=ua g20;have hmt:=ua g23;have hpl:=zci hmp;have hne:t.ins≠[]:=fun e=>g29 (by rw[e];rfl)
 have hlens:=zcT hmt;refine qar ?_;refine Cg ?_;refine qbL ?_;refine zcA rfl rfl rfl rfl rfl rfl zfk ybg ?_;refine A0 aO ?_;refine CNQR ?_;refine qbR ?_;refine zfx (d:=9) rfl rfl ?_;refine Lp (ι:=Nat×List Coin×Int) 1 (fun(k,rest,n)=>((((Fr.none.set 0 (.val (sl zal) p)).set 3 (.ptr 0 0)).set 9 (.val (sl zal) rest)).set 10 (.val i64T n)).set 11 (.val i64T (k:Int))) (fun(k,rest,n)=>Hp.none.set 0 (.box 112 txT t)) (fun(k,rest,n)=>k≤t.ins.length∧Sorted rest∧rest.length≤48∧za7 p 0 t.ins=za7 rest n (t.ins.drop k)) (fun(k,rest,n)=>t.ins.length-k) ((0,p,0)) (⟨uf _,(zS.1 hmp).2.1,hpl,rfl⟩) ?_;intro⟨k,rest,n⟩ hinv;dsimp only at hinv;refine qaK ?_;refine qa3 ?_;refine qa1 ?_;refine Cf (p:=k<t.ins.length) (fun ht38=>?_) (fun ht38=>?_)
 ·
  obtain⟨x,hx⟩:∃x,t.ins[k]?=some x:=⟨_,ub ht38⟩;have hdr:t.ins.drop k=x::t.ins.drop (k+1):=by rw[List.drop_eq_getElem_cons ht38];congr 1;exact(ul.1 hx).2
  refine qbe ?_;refine qc7 ?_;refine qa9 ?_;refine A0 (zD (i:=k) rfl rfl rfl ya zd9 yj) ?_;refine A0 (zh rfl rfl zbI) ?_;refine A0 (oCl (rfind_ok _ _) rfl fn_211 ybG) ?_;refine qah ?_;refine qa1 ?_;refine Cf (p:=findC rest x<0) (fun ht49=>?_) (fun ht49=>?_)
  ·
   refine qa0 ?_;refine A0 aV ?_;refine qb6 ?_;have hS:zy p t=(p,0,8):=by exact zpf hmp hmt hne (by rw[hinv.2.2.2,hdr];exact zqE (findC_none ht49))
   exact zcO rfl rfl (zb rfl yC) (zb rfl yC) (zb rfl yC)
  obtain⟨c,hc,hcx,_⟩:=zeS (Int.not_lt.1 ht49);obtain⟨i,hi⟩:∃i:Nat,findC rest x=i:=⟨_,(Int.toNat_of_nonneg (Int.not_lt.1 ht49)).symm⟩;rw[hi,Int.toNat_natCast] at hc;have hil:=(ul.1 hc).1;refine zi (d:=12) (y:=(i:Int)) rfl hi ?_;refine CSQR ?_;refine qai ?_;refine qa9 ?_;refine A0 (zD (i:=i) rfl rfl rfl ya zeq yj) ?_;refine A0 (oFr zdf zbR) ?_;refine A0 (oFr zb9 zdo) ?_;refine qbB ?_;refine A0 zbh ?_;refine qad ?_;refine zn [some 1,some 1,some 1,none,some 2,some 2,some 2,some 2,none,some 1] mixed yc ?_;refine qb7 ?_;refine X0 (by first|exact zd2 rfl rfl rfl yar zeq|exact zhR rfl rfl rfl zeq yd) ?_;refine XK.e (fun fr' hfr kk H=>by exact zcA rfl rfl rfl rfl rfl ((hfr 61 yc).trans rfl) zfk ybg (zp H)) ?_;refine xN ?_;refine xN ?_;refine XK.g2 ybj ybj rfl rfl rfl ?_;refine XK.g2 (ziT rfl rfl rfl zeq yd) (ziT rfl rfl rfl zeq yd) rfl rfl rfl ?_;refine XK.e (fun fr' hfr kk H=>by exact zo rfl rfl rfl rfl ((hfr 62 yc).trans rfl) rfl ((hfr 66 yc).trans rfl) zfk ybg (zp H)) ?_;refine X0 aO ?_;refine qba ?_;refine qak ?_;refine zfx (d:=9) rfl rfl ?_;exact Nx ((k+1,rest.take i++rest.drop (i+1),IntKind.i64.wrap (n+c.out.v))) (⟨by omega,znD _ hinv.2.1,by simp;omega,by rw[hinv.2.2.2,hdr,takeIns_at hinv.2.1 hc hcx]⟩) (by show _<t.ins.length-k;simp only[];omega)
 obtain rfl:k=t.ins.length:=ya;have htk:za7 p 0 t.ins=some (rest,n):=by rw[hinv.2.2.2,List.drop_of_length_le (ug _)];rfl
 refine CE ?_;refine CQQR ?_;refine qb0 ?_;refine A0 (oCl (zlh _) rfl fn_179 ye) ?_;refine qa9 ?_;refine qc5 ?_;refine Cf (p:=n<zcs (·.v) t.outs) (fun ht71=>?_) (fun ht71=>?_)
 ·
  refine qa0 ?_;refine A0 aV ?_;refine qb6 ?_;have hS:zy p t=(p,0,8):=by rw[zgb hmp hmt hne htk];rw[ut ht71]
  exact zcO rfl rfl (zb rfl yC) (zb rfl yC) (zb rfl yC)
 refine qbL ?_;refine qb0 ?_;refine A0 (oCl (zrU _) rfl zst ye) ?_;refine A0 (oCl (zpm _ _) rfl fn_177 yf) ?_;refine qah ?_;refine CN ?_;refine zk (p:=(rest.any fun c=>decide (c.inn.tx=idOf t))=true) rfl (Bool.decide_eq_true.symm) (fun ht77=>?_) (fun ht77=>?_)
 ·
  refine qa0 ?_;refine A0 aV ?_;refine qb6 ?_;have hS:zy p t=(p,0,10):=by rw[zgb hmp hmt hne htk];rw[ur ht71,ut ht77]
  exact zcO rfl rfl (zb rfl yC) (zb rfl yC) (zb rfl yC)
 have hz:(zaH rest t).2=0:=by rw[zfq,ur ht77]
 obtain⟨hm1,hm2,hm3⟩:=zS.1 hmp;have hT:=zdH hm1 hm3;have hTt:=zf9 htk hm1 hm3 (Int.le_refl _) ya;have hTo:=zkG hmt;rw[←hTo.1] at hTo;have hTr:=zh1 (f:=fun c:Coin=>c.out.v) (l:=rest) fun c hc=>(zf0 hm1 c ((zd7 htk).subset hc)).1
 refine qbL ?_;refine qb0 ?_;refine A0 (oCl (zrR rest t ya ya) rfl fn_180 yf) ?_;refine zi (d:=81) (y:=(zaH rest t).1) rfl (zmQ hinv.2.1 hz) ?_;refine qah ?_;refine qcP ?_;refine qc5 ?_;refine Cf (p:=48<(zaH rest t).1.length) (fun ht84=>?_) (fun ht84=>?_)
 ·
  refine qa0 ?_;refine A0 aV ?_;refine qb6 ?_;have hS:zy p t=(p,0,11):=by rw[zgb hmp hmt hne htk];rw[ur ht71,ur ht77,ut ht84]
  exact zcO rfl rfl (zb rfl yC) (zb rfl yC) (zb rfl yC)
 refine CSQR ?_;refine qai ?_;refine qb0 ?_;refine A0 (oCl (zlh _) rfl fn_179 ye) ?_;refine A0 za1 ?_;refine A0 aV ?_;refine qb6 ?_;have hS:zy p t=((zaH rest t).1,n-zcs (·.v) t.outs,0):=by rw[zgb hmp hmt hne htk];rw[ur ht71,ur ht77,ur ht84]
 exact zcO rfl rfl (zb rfl yC) (zb rfl yC) (zb rfl yC)
theorem rapply_ok (p:List Coin) (l:List Tx):Tells P 133 [.val (sl zal) p,.val (sl txT) l] (.tup2 (.val (sl zal) (zw p l).1) (.val i64T (zw p l).2)):=by
 refine zc Tryz.func133 rfl rfl rfl (fun ext w hext=>?_);refine ze (d:=0) rfl zm (fun hsl0=>?_);refine ze (d:=1) rfl zm (fun hsl1=>?_);refine qaB ?_;refine qaS ?_;refine A0 (oCl (rmay_ok _) rfl fn_174 ye) ?_;refine qah ?_;refine qaQ ?_;refine zk (p:=¬zak p=true) rfl yx (fun ht18=>?_) (fun ht18=>?_)
 ·
  refine qa0 ?_;refine qb6 ?_;have hS:zw p l=(p,1):=by unfold zw;rw[ut ht18]
  exact zac rfl rfl (zb rfl yC) (zb rfl yC)
 have hmp:=ua ht18;have hpl:=zci hmp;have hT:=zdH (zS.1 hmp).1 (zS.1 hmp).2.2;refine qce ?_;refine qbG ?_;refine qc5 ?_;refine Cf (p:=4<l.length) (fun ht22=>?_) (fun ht22=>?_)
 ·
  refine qa0 ?_;refine qb6 ?_;have hS:zw p l=(p,3):=by unfold zw;rw[ur (Classical.not_not.2 hmp),ut ht22]
  exact zac rfl rfl (zb rfl yC) (zb rfl yC)
 refine qbL ?_;refine qaj ?_;refine qbR ?_;refine Lp (ι:=Nat×List Coin×Int) 0 (fun(k,out,left)=>((((Fr.none.set 0 (.val (sl zal) p)).set 1 (.val (sl txT) l)).set 7 (.val (sl zal) out)).set 8 (.val i64T left)).set 9 (.val i64T (k:Int))) (fun(k,out,left)=>Hp.none) (fun(k,out,left)=>k≤l.length∧zak out=true∧zdB p 50 (zds l 0)=zdB out (50+left) (zds l k)∧0≤left∧tot (·.out.v) out+left=tot (·.out.v) p) (fun(k,out,left)=>l.length-k) ((0,p,0)) (⟨uf _,hmp,rfl,Int.le_refl _,by simp⟩) ?_;intro⟨k,out,left⟩ hinv;dsimp only at hinv;refine qb9 ?_;refine qbG ?_;refine qa1 ?_;refine Cf (p:=k<l.length) (fun ht28=>?_) (fun ht28=>?_)
 ·
  obtain⟨t,hx⟩:∃t,l[k]?=some t:=⟨_,ub ht28⟩;obtain⟨t0,ht0⟩:∃t0,l[0]?=some t0:=yq;have hif:=zhs ht0;refine qaD ?_;refine qaK ?_;refine A0 zct ?_;refine Sp (d:=32) (p:=k=0) (fun g32=>?_) (fun g32=>?_)
  ·
   refine qa9 ?_;refine qbg ?_;refine A1 zct ?_;refine Sp (d:=39) (p:=t0.ins.length=0) (fun g39=>?_) (fun g39=>?_)
   ·
    refine qar ?_;refine Ct ?_;refine CE ?_;refine CR ?_;refine qak ?_;exact Nx ((k+1,out,left)) yS yao
   have hnf:¬(zcC l=true∧k=0):=fun h=>g39 (by have:=h.1;rw[hif] at this;exact of_decide_eq_true this)
   refine qar ?_;refine Cg ?_;refine CSQR ?_;refine qai ?_;refine qa9 ?_;refine A0 (zD (i:=k) rfl rfl rfl ya zhI yj) ?_;refine A0 (zh rfl rfl zdM) ?_;refine A0 (oCl (zpn out t) rfl fn_175 ybG) ?_;refine qaM ?_;refine A0 e32 ?_;refine A0 aV ?_;refine A0 aV ?_;refine qah ?_;refine qaT ?_;refine zk (p:=¬(zy out t).2.2=0) rfl yF (fun ht52=>?_) (fun ht52=>?_)
   ·
    refine CQR ?_;refine qai ?_;refine qb6 ?_;have hS:zw p l=(p,(zy out t).2.2):=yb0;exact zac rfl rfl (zb rfl yC) (zb rfl yC)
   have hs:=zh2 (t:=t) hinv.2.1;have hsm:=zdQ (t:=t) hinv.2.1;have hsc:=zdH (zS.1 hsm).1 (zS.1 hsm).2.2;have hgo:=ze0 (room:=50+left) hnf hx (ua ht52);have hw:IntKind.i64.wrap (50+left+(zy out t).2.1)=50+(left+(zy out t).2.1):=by rw[zaF ya];omega
   rw[hw] at hgo;refine qbL ?_;refine qci ?_;refine qai ?_;refine A0 zbh ?_;refine A0 aV ?_;refine qb3 ?_;exact Nx ((k+1,(zy out t).1,left+(zy out t).2.1)) yS yao
  have hnf:¬(zcC l=true∧k=0):=fun h=>g32 h.2
  refine qa9 ?_;refine qcT ?_;refine qar ?_;refine Cg ?_;refine CSQR ?_;refine qai ?_;refine qa9 ?_;refine A0 (zD (i:=k) rfl rfl rfl ya zhI yj) ?_;refine A0 (zh rfl rfl zdM) ?_;refine A0 (oCl (zpn out t) rfl fn_175 ybG) ?_;refine qaM ?_;refine A0 e32 ?_;refine A0 aV ?_;refine A0 aV ?_;refine qah ?_;refine qaT ?_;refine zk (p:=¬(zy out t).2.2=0) rfl yF (fun ht52=>?_) (fun ht52=>?_)
  ·
   refine CQR ?_;refine qai ?_;refine qb6 ?_;have hS:zw p l=(p,(zy out t).2.2):=yb0;exact zac rfl rfl (zb rfl yC) (zb rfl yC)
  have hs:=zh2 (t:=t) hinv.2.1;have hsm:=zdQ (t:=t) hinv.2.1;have hsc:=zdH (zS.1 hsm).1 (zS.1 hsm).2.2;have hgo:=ze0 (room:=50+left) hnf hx (ua ht52);have hw:IntKind.i64.wrap (50+left+(zy out t).2.1)=50+(left+(zy out t).2.1):=by rw[zaF ya];omega
  rw[hw] at hgo;refine qbL ?_;refine qci ?_;refine qai ?_;refine A0 zbh ?_;refine A0 aV ?_;refine qb3 ?_;exact Nx ((k+1,(zy out t).1,left+(zy out t).2.1)) yS yao
 have hrun:zdB p 50 (zds l 0) = .inr (out,50+left):=by rw[hinv.2.2.1,zjw k ya];rfl
 have hoc:=zdH (zS.1 hinv.2.1).1 (zS.1 hinv.2.1).2.2;have hol:=zci hinv.2.1;refine CE ?_;refine qaK ?_;refine qbG ?_;refine A0 zct ?_;refine Sp (d:=61) (p:=l.length=0) (fun g61=>?_) (fun g61=>?_)
 ·
  refine qa9 ?_;refine qcT ?_;refine qar ?_;refine Ct ?_;refine qa0 ?_;refine qb6 ?_;have hS:zw p l=(out,0):=by unfold zw;rw[ur (Classical.not_not.2 hmp),ur ht22];rw[hrun];simp only[zgl (show ¬0<l.length by omega)];rfl
  exact zac rfl rfl (zb rfl yC) (zb rfl yC)
 obtain⟨t0,ht0⟩:∃t0,l[0]?=some t0:=yq;have hif:=zhs ht0;refine qa9 ?_;refine qbg ?_;refine A1 zcm ?_;refine Sp (d:=68) (p:=0<t0.ins.length) (fun g68=>?_) (fun g68=>?_)
 ·
  refine qar ?_;refine Ct ?_;refine qa0 ?_;refine qb6 ?_;have hS:zw p l=(out,0):=by unfold zw;rw[ur (Classical.not_not.2 hmp),ur ht22];rw[hrun];simp only[show zcC l=false by rw[hif];exact uh ya];rfl
  exact zac rfl rfl (zb rfl yC) (zb rfl yC)
 have hf:zcC l=true:=by rw[hif];exact ui ya
 refine qar ?_;refine Cg ?_;refine qbL ?_;refine qaY ?_;refine A0 (oCl (zln _) rfl fn_176 ybD) ?_;refine qah ?_;refine qaQ ?_;refine zk (p:=¬zaz t0=true) rfl yx (fun ht76=>?_) (fun ht76=>?_)
 ·
  refine qa0 ?_;refine qb6 ?_;have hS:zw p l=(p,1):=by unfold zw;rw[ur (Classical.not_not.2 hmp),ur ht22];rw[hrun];simp only[ut hf,ht0];rw[ut ht76]
  exact zac rfl rfl (zb rfl yC) (zb rfl yC)
 have hmt:=ua ht76;refine CSQR ?_;refine qai ?_;refine qaY ?_;refine A0 (oCl (zrU _) rfl zst ybD) ?_;refine A0 (oCl (zpm _ _) rfl fn_177 yf) ?_;refine qah ?_;refine CN ?_;refine zk (p:=(out.any fun c=>decide (c.inn.tx=idOf t0))=true) rfl (Bool.decide_eq_true.symm) (fun ht84=>?_) (fun ht84=>?_)
 ·
  refine qa0 ?_;refine qb6 ?_;have hS:zw p l=(p,10):=by unfold zw;rw[ur (Classical.not_not.2 hmp),ur ht22];rw[hrun];simp only[ut hf,ht0];rw[ur (Classical.not_not.2 hmt),zfq,ut ht84,ut yp]
  exact zac rfl rfl (zb rfl yC) (zb rfl yC)
 have hz:(zaH out t0).2=0:=by rw[zfq,ur ht84]
 refine qce ?_;refine qaY ?_;refine A0 (oCl (zlh _) rfl fn_179 ybD) ?_;refine qa9 ?_;refine A0 zbh ?_;refine qc5 ?_;refine Cf (p:=50+left<zcs (·.v) t0.outs) (fun ht92=>?_) (fun ht92=>?_)
 ·
  refine qa0 ?_;refine qb6 ?_;have hS:zw p l=(p,8):=by unfold zw;rw[ur (Classical.not_not.2 hmp),ur ht22];rw[hrun];simp only[ut hf,ht0];rw[ur (Classical.not_not.2 hmt),ur (by rw[hz];simp),ut ht92]
  exact zac rfl rfl (zb rfl yC) (zb rfl yC)
 refine CSQR ?_;refine qai ?_;refine qaY ?_;refine A0 (oCl (zrR out t0 ya (by have:=zcT hmt;omega)) rfl fn_180 ybG) ?_;refine zi (d:=98) (y:=(zaH out t0).1) rfl (zmQ (zS.1 hinv.2.1).2.1 hz) ?_;refine qah ?_;refine qcP ?_;refine qc5 ?_;refine Cf (p:=48<(zaH out t0).1.length) (fun ht101=>?_) (fun ht101=>?_)
 ·
  refine qa0 ?_;refine qb6 ?_;have hS:zw p l=(p,11):=by unfold zw;rw[ur (Classical.not_not.2 hmp),ur ht22];rw[hrun];simp only[ut hf,ht0];rw[ur (Classical.not_not.2 hmt),ur (by rw[hz];simp),ur ht92,ut ht101]
  exact zac rfl rfl (zb rfl yC) (zb rfl yC)
 refine qbL ?_;refine qb6 ?_;have hS:zw p l=((zaH out t0).1,0):=by unfold zw;rw[ur (Classical.not_not.2 hmp),ur ht22];rw[hrun];simp only[ut hf,ht0];rw[ur (Classical.not_not.2 hmt),ur (by rw[hz];simp),ur ht92,ur ht101]
 exact zac rfl rfl (zb rfl yC) (zb rfl yC)
theorem half_of {n p:Nat} (h:2≤n) (hp:∃j,p=2^j) (h1:p=1∨p<n) (h2:¬2*p<n):p=halfN n:=by
  obtain⟨j,rfl⟩:=hp;unfold halfN zae;rw[ur ya,Nat.add_sub_cancel];congr 1;symm;refine(Nat.log2_eq_iff ya).2 ⟨by omega,?_⟩;rw[Nat.pow_succ];omega
theorem rhalfN_ok (n:Nat) (h:2≤n) (hn:n<4398046511104):Tells P 205 [.val i64T (n:Int)] (.val i64T (halfN n:Nat)):=by
 refine zc Tryz.func205 rfl rfl rfl (fun ext w hext=>?_);refine ze (d:=0) rfl zab (fun hin0=>?_);refine CQR ?_;refine qaj ?_;refine qaJ ?_;refine CB ?_;refine Lp (ι:=Nat) 0 (fun (p:Nat)=>((Fr.none).set 0 (.val i64T (n:Int))).set 3 (.val i64T (p:Int))) (fun (p:Nat)=>Hp.none) (fun (p:Nat)=>(∃j,p=2^j)∧1≤p∧(p=1∨p<n)) (fun (p:Nat)=>n-p) (1) (⟨⟨0,rfl⟩,ug _,.inl rfl⟩) ?_;intro p hinv;refine qaK ?_;refine A0 (g_mul rfl rfl rfl (show _=(((2*p:Nat):Int):Int) from(zaF ya).trans ya)) ?_;refine qa9 ?_;refine qa1 ?_;refine Cf (p:=2*p<n) (fun ht7=>?_) (fun ht7=>?_)
 ·
  refine CS ?_;refine CB ?_;refine CR ?_;refine qa9 ?_;refine A0 (g_mul rfl rfl rfl (show _=(((2*p:Nat):Int):Int) from(zaF ya).trans ya)) ?_;refine qad ?_;refine CI ?_;exact Nx (2*p) (⟨let ⟨j,hj⟩:=hinv.1;⟨j+1,by rw[hj,Nat.pow_succ,Nat.mul_comm]⟩,by omega,.inr ht7⟩) ya
 refine CE ?_;refine qcg ?_;exact za rfl rfl (zb rfl (by rw[half_of h hinv.1 hinv.2.2 ht7]))
theorem zpl (a b:Ab.Id) (ha:a.length=32) (hb:b.length=32):Tells P 238 [.val idT a,.val idT b] (.fresh 5 u8T (zeI a b)):=by
 refine zc Tryz.func238 rfl rfl rfl (fun ext w hext=>?_);refine qaw ?_;refine A0 aL ?_;refine CNQ ?_;refine zej (d:=2) rfl rfl (Lens.self _) ?_;refine zej (d:=3) rfl rfl (Lens.self _) ?_;refine CR ?_;refine zbk (T:=u8T) (xs:=[_]) rfl rfl rfl rfl zch zaf yz rfl rfl ?_;refine qbJ ?_;refine zo rfl rfl rfl rfl rfl rfl rfl zaf (by simp[ha,hb]) ?_;refine qbd ?_;refine qbJ ?_;refine zo rfl rfl rfl rfl rfl rfl rfl zaf (by simp[ha,hb]) ?_;refine qbK ?_;exact za rfl rfl (zf rfl rfl (by simp[zeI]))
theorem rnode_ok (a b:Ab.Id):Tells P 206 [.val idT a,.val idT b] (.val idT (nodeOf a b)):=by
 refine zc Tryz.func206 rfl rfl rfl (fun ext w hext=>?_);refine ze (d:=0) rfl zgv (fun ha=>?_);refine ze (d:=1) rfl zgv (fun hb=>?_);refine qaw ?_;refine qaI ?_;refine CNQR ?_;refine qbw ?_;refine qbw ?_;refine A0 (oCl (zF (zpl a b ha hb)) rfl fn_238 yf) ?_;refine A0 (oCl (zkB (zeI a b) (by unfold zeI;simp;omega)) rfl zsx ye) ?_;refine qcb ?_;exact zq rfl rfl rfl rfl zT (rfl)
theorem zkD (l:List Ab.Id) (hl:l.length<4398046511104):Tells P 166 [.val (bsl idT) l] (.val idT (zeA l)):=by
 refine zc Tryz.func166 rfl rfl rfl (fun ext w hext=>?_);refine ze (d:=0) rfl zm (fun hsl0=>?_);refine CQR ?_;refine qaI ?_;refine qb2 ?_;refine qbA ?_;refine qcC ?_;refine Cf (p:=l.length=0) (fun ht6=>?_) (fun ht6=>?_)
 ·
  refine CQR ?_;refine qaz ?_;refine A0 (oCl (zkB [2] yp) rfl zsx ye) ?_;refine qcb ?_;exact zq rfl rfl rfl rfl zT (by rw[zeA,ut ht6])
 refine qce ?_;refine qbA ?_;refine qcC ?_;refine Cf (p:=l.length=1) (fun ht11=>?_) (fun ht11=>?_)
 ·
  obtain⟨x,hx⟩:∃x,l[0]?=some x:=yq;refine qa0 ?_;refine A0 (zD (i:=0) rfl rfl rfl ya zdR yj) ?_;refine A0 (zh rfl rfl zT) ?_;refine qcb ?_;exact zq rfl rfl rfl rfl zT ya8
 have hp:=zop l.length;have hh:=zqY (n:=l.length) ya;refine qbL ?_;refine qbA ?_;refine A0 (oCl (rhalfN_ok l.length ya ya) rfl fn_205 ye) ?_;refine qaJ ?_;refine xm ?_;refine qb7 ?_;refine qcr ?_;refine X0 (oCl (zkD (l.take (halfN l.length)) yG) rfl zsu ye) ?_;refine qb7 ?_;refine X0 (ziT rfl rfl rfl zdR yd) ?_;refine X0 (oCl (zkD (l.drop (halfN l.length)) yG) rfl zsu ye) ?_;refine X0 (oCl (rnode_ok _ _) rfl fn_206 yf) ?_;refine XK.e (x:=.idk) (fun fr' hfr kk H=>by exact zg rfl rfl rfl ((hfr 2 yc).trans rfl) rfl (Lens.self _) zT ((hfr 26 yc).trans rfl) (zp H)) ?_;refine xc ?_;exact zq rfl rfl rfl rfl zT (by conv=>rhs;rw[zeA,ur ht6,dif_neg ya])
termination_by l.length
decreasing_by
  all_goals (simp;omega)
theorem rtxIds_ok (l:List Tx) (hl:l.length≤4000000000000):Tells P 168 [.val (bsl txT) l] (.fresh 27 idT (l.map idOf)):=by
 refine zc Tryz.func168 rfl rfl rfl (fun ext w hext=>?_);refine ze (d:=0) rfl zm (fun hsl0=>?_);refine qaB ?_;refine CNQR ?_;refine A0 aL ?_;refine qa2 ?_;refine zcw (T:=idT) (d:=3) 27 rfl ?_;refine Lp (ι:=Nat) 1 (fun (k:Nat)=>(((Fr.none).set 0 (.val (bsl txT) l)).set 3 (.own 0)).set 4 (.val i64T (k:Int))) (fun (k:Nat)=>(Hp.none).set 0 (.row 27 idT ((l.take k).map idOf))) (fun (k:Nat)=>k≤l.length) (fun (k:Nat)=>l.length-k) (0) (uf _) ?_;intro k hinv;refine qb9 ?_;refine qbG ?_;refine qa1 ?_;refine Cf (p:=k<l.length) (fun ht8=>?_) (fun ht8=>?_)
 ·
  obtain⟨x,hx⟩:∃x,l[k]?=some x:=⟨_,ub ht8⟩;refine qaD ?_;refine CR ?_;refine A0 mO ?_;refine qai ?_;refine A0 (zD (i:=k) rfl rfl rfl ya zhI yj) ?_;refine A0 (zh rfl rfl zdM) ?_;refine A0 (oCl (zrU _) rfl zst ybD) ?_;refine qbq ?_;refine qak ?_;refine xh ?_;refine zB (n:=0) (y:=(l.take (k+1)).map idOf) rfl (by rw[un,hx];simp) ?_;exact Nx (k+1) ya ya
 refine qa7 ?_;exact za rfl rfl (zf rfl rfl yak)
theorem zm8 (l:List Tx) (hl:l.length≤4000000000000):Tells P 126 [.val (bsl txT) l] (.val idT (zmV l)):=by
 refine zc Tryz.func126 rfl rfl rfl (fun ext w hext=>?_);refine ze (d:=0) rfl zm (fun hsl0=>?_);refine CQR ?_;refine qaI ?_;refine qbX ?_;refine A0 (oCl (zF (rtxIds_ok l hl)) rfl fn_168 ye) ?_;refine A0 (oCl (zkD (l.map idOf) yG) rfl zsu ye) ?_;refine qcb ?_;exact zq rfl rfl rfl rfl zT (rfl)
theorem fact_idsL {l:List Ab.Id} {ρ:Nat→Value} {B:Nat→Prop} {U N:Nat→Prop} {w:World} {v:Value} (h:(AV.val (bsl idT) l).rel ρ B U N w v):∀x∈l,x.length=32:=fun x hx=>by
  obtain⟨cs,⟨ad,cap,_,_,_,h3⟩,_⟩:=h;obtain⟨_,ds,_,_,hr,_⟩:=h3 (List.ne_nil_of_mem hx);obtain⟨c,hc⟩:=zjy hr x hx;exact hc.1
theorem rleaf_ok (b:List UInt8) (hb:b.length≤1000000):Tells P 207 [.val (bsl u8T) b] (.val idT (znm b)):=by
 refine zc Tryz.func207 rfl rfl rfl (fun ext w hext=>?_);refine ze (d:=0) rfl zm (fun hsl0=>?_);refine CQR ?_;refine qaI ?_;refine CNQR ?_;refine qaz ?_;refine zjR (S:=bsl u8T) (d:=3) rfl ?_;refine qa9 ?_;refine qck ?_;refine A0 (oCl (zrQ [[0],b] yG) rfl fn_78 ye) ?_;refine qcb ?_;exact zq rfl rfl rfl rfl zT (by unfold znm;simp)
theorem rleaves_ok (l:List Ab.Id) (hl:l.length≤4000000000000):Tells P 167 [.val (bsl idT) l] (.fresh 27 idT (l.map zeK)):=by
 refine zc Tryz.func167 rfl rfl rfl (fun ext w hext=>?_);refine ze (d:=0) rfl zm (fun hsl0=>?_);refine ze (d:=0) rfl fact_idsL (fun hids=>?_);refine qaB ?_;refine CNQR ?_;refine A0 aL ?_;refine qa2 ?_;refine zcw (T:=idT) (d:=3) 27 rfl ?_;refine Lp (ι:=Nat) 1 (fun (k:Nat)=>(((Fr.none).set 0 (.val (bsl idT) l)).set 3 (.own 0)).set 4 (.val i64T (k:Int))) (fun (k:Nat)=>(Hp.none).set 0 (.row 27 idT ((l.take k).map zeK))) (fun (k:Nat)=>k≤l.length) (fun (k:Nat)=>l.length-k) (0) (uf _) ?_;intro k hinv;refine qb9 ?_;refine qbA ?_;refine qa1 ?_;refine Cf (p:=k<l.length) (fun ht8=>?_) (fun ht8=>?_)
 ·
  obtain⟨x,hx⟩:∃x,l[k]?=some x:=⟨_,ub ht8⟩;have hx32:=hids x (ud hx);refine qaD ?_;refine CR ?_;refine A0 mO ?_;refine qai ?_;refine A0 (zD (i:=k) rfl rfl rfl ya zdR yj) ?_;refine qbJ ?_;refine A0 (oCl (rleaf_ok x ya) rfl fn_207 ye) ?_;refine qbq ?_;refine qak ?_;refine xh ?_;refine zB (n:=0) (y:=(l.take (k+1)).map zeK) rfl (by rw[un,hx];simp[zeK]) ?_;exact Nx (k+1) ya ya
 refine qa7 ?_;exact za rfl rfl (zf rfl rfl yak)
theorem zj2 (l:List Ab.Id) (hl:l.length≤4000000000000):Tells P 125 [.val (bsl idT) l] (.val idT (zhq l)):=by
 refine zc Tryz.func125 rfl rfl rfl (fun ext w hext=>?_);refine ze (d:=0) rfl zm (fun hsl0=>?_);refine CQR ?_;refine qaI ?_;refine qbX ?_;refine A0 (oCl (zF (rleaves_ok l hl)) rfl fn_167 ye) ?_;refine A0 (oCl (zkD (l.map zeK) yG) rfl zsu ye) ?_;refine qcb ?_;exact zq rfl rfl rfl rfl zT (rfl)
def dvU (x:UInt64) (m:Nat):UInt64:=UInt64.ofNat (x.toNat/256^m)
theorem dvU_n (x:UInt64) (m:Nat):(dvU x m).toNat=x.toNat/256^m:=by
  have hx:x.toNat<18446744073709551616:=x.toNat_lt;unfold dvU;rw[UInt64.toNat_ofNat_of_lt' (by show _<18446744073709551616;have:=Nat.div_le_self x.toNat (256^m);omega)]
theorem dvU_succ (x:UInt64) (m:Nat):dvU x m/256=dvU x (m+1):=by
  apply UInt64.toNat_inj.1;rw[UInt64.toNat_div,dvU_n,dvU_n,Nat.pow_succ,←Nat.div_div_eq_div_mul];rfl
theorem dvU_zero (x:UInt64):dvU x 0=x:=by
  apply UInt64.toNat_inj.1;rw[dvU_n,Nat.pow_zero,Nat.div_one]
def rbyN (a:Wide) (j:Nat):Ab.Id:=(List.range j).foldl (fun l i=>l.set (31-i) (zoJ a (31-i))) zId
theorem rbyN_succ {a:Wide} {j:Nat}:(rbyN a j).set (31-j) (zoJ a (31-j))=rbyN a (j+1):=(zcu (f:=fun (l:List UInt8) i=>l.set (31-i) (zoJ a (31-i)))).symm
theorem rby_gen (f:Nat→UInt8):(List.range 32).foldl (fun (l:Ab.Id) i=>l.set (31-i) (f (31-i))) zId=(List.range 32).map f:=yu
theorem rby_all {a:Wide}:rbyN a 32=zi5 a:=rby_gen (zoJ a)
theorem rby_at {a:Wide} {k:Nat} (hk:k<32):zb2 (IntL.toI u64T (dvU (a.getD (k/8) default) (k%8)%256))=zoJ a (31-k):=by
  unfold zoJ;rw[show 3-(31-k)/8=k/8 by omega,show(56-8*(((31-k:Nat):Int)%8)).toNat=8*(k%8) by omega];have e:zaB (a.getD (k/8) default) (8*(k%8))=dvU (a.getD (k/8) default) (k%8):=by
    unfold zaB dvU;rw[Nat.min_eq_left ya,Nat.pow_mul]
  rw[e];unfold zb2;congr 2;show(((dvU (a.getD (k/8) default) (k%8)%256).toNat:Nat):Int)%256=(((dvU (a.getD (k/8) default) (k%8)).toNat:Nat):Int)%256;rw[UInt64.toNat_mod,show(256:UInt64).toNat=256 from rfl];omega
theorem zne (a:Wide):Tells P 121 [.val zL a] (.val idT (zi5 a)):=by
 refine zc Tryz.func121 rfl rfl rfl (fun ext w hext=>?_);refine ze (d:=0) rfl zaC (fun ha=>?_);refine qaf ?_;refine qaI ?_;refine CNQR ?_;refine qaI ?_;refine qa2 ?_;refine Lp (ι:=Nat) 3 (fun (k:Nat)=>((((Fr.none).set 1 (.ptr 0 0)).set 2 (.ptr 1 0)).set 3 (.ptr 2 0)).set 4 (.val i64T (k:Int))) (fun (k:Nat)=>(((Hp.none).set 0 (.box 30 zL a)).set 1 (.box 27 idT zId)).set 2 (.box 27 idT (rbyN a k))) (fun (k:Nat)=>k≤32) (fun (k:Nat)=>32-k) (0) (uf _) ?_;intro k hinv;refine qaK ?_;refine qa1 ?_;refine Cf (p:=k<32) (fun ht8=>?_) (fun ht8=>?_)
 ·
  refine qbe ?_;refine qbx ?_;refine A0 (zs (i:=k/8) rfl rfl rfl yh zaO ya) ?_;refine A0 (zl rfl rfl rfl (Lens.elem (i:=k/8) ya u64T) zaQ) ?_;refine qbR ?_;refine zi (d:=5) (y:=dvU (a.getD (k/8) default) 0) rfl (dvU_zero _).symm ?_;refine Lp (ι:=Nat) 3 (fun m=>(((((Fr.none.set 1 (.ptr 0 0)).set 2 (.ptr 1 0)).set 3 (.ptr 2 0)).set 4 (.val i64T (k:Int))).set 5 (.val u64T (dvU (a.getD (k/8) default) m))).set 6 (.val i64T (m:Int))) (fun m=>((Hp.none.set 0 (.box 30 zL a)).set 1 (.box 27 idT zId)).set 2 (.box 27 idT (rbyN a k))) (fun m=>m≤k%8) (fun m=>k%8-m) (0) (uf _) ?_;intro m hin;refine qb9 ?_;refine qbj ?_;refine qa1 ?_;refine zk (p:=m<k%8) rfl yaL (fun ht18=>?_) (fun ht18=>?_)
  ·
   refine qaD ?_;refine CR ?_;refine qa9 ?_;refine A0 (zlZ rfl rfl rfl yp) ?_;refine A0 aV ?_;refine qb3 ?_;refine zi (d:=5) (y:=dvU (a.getD (k/8) default) (m+1)) rfl (dvU_succ _ _) ?_;exact Nx (m+1) ya ya
  obtain rfl:m=k%8:=ya;refine CE ?_;refine CR ?_;refine qco ?_;refine qa9 ?_;refine A0 (zos rfl rfl rfl yp) ?_;refine qbC ?_;refine A0 (zs (i:=31-k) rfl rfl rfl yh zc8 ya) ?_;refine zg rfl rfl rfl rfl rfl (Lens.elem (i:=31-k) ya u8T) ty_5 rfl ?_;refine qb3 ?_;refine zJ (n:=2) (y:=rbyN a (k+1)) rfl (by rw[←rbyN_succ,←rby_at ht8];rfl) ?_;exact Nx (k+1) ya ya
 obtain rfl:k=32:=ya;refine qbQ ?_;refine qbw ?_;refine qcb ?_;exact zq rfl rfl rfl rfl zT (rby_all)
theorem rmleaf_ok (id:Ab.Id) (w:Wide):Tells P 171 [.val idT id,.val zL w] (.val zao (leafT id w)):=by
 refine zc Tryz.func171 rfl rfl rfl (fun ext w hext=>?_);refine qaw ?_;refine qbI ?_;refine CNQR ?_;refine qbw ?_;refine qay ?_;refine A0 (z7 rfl zjW znK (.cons zdg zcy zT rfl (.cons zgt zfg zV rfl (.cons zcG zbZ ty_3 rfl .nil))) rfl) ?_;refine qaV ?_;refine CN ?_;exact zq rfl rfl rfl rfl zaV (rfl)
theorem ziC (t:Total) (hh:t.h.length=32):Tells P 208 [.val zao t] (.fresh 5 u8T (zcI t)):=by
 refine zc Tryz.func208 rfl rfl rfl (fun ext w hext=>?_);refine qbO ?_;refine CNQR ?_;refine qc9 ?_;refine A0 (oCl (zne _) rfl fn_121 ye) ?_;refine qaI ?_;refine qao ?_;refine qc8 ?_;refine zej (d:=3) rfl rfl (Lens.self _) ?_;have hbl:=zdW t.w;have hn:=zU (z6 (IntL.toI i64T t.n)) 4;refine CR ?_;refine A0 (oFr zdg zcy) ?_;refine qbJ ?_;refine zcA rfl rfl rfl rfl rfl rfl zaf (by simp[hh,hbl,hn]) ?_;refine qbd ?_;refine qbJ ?_;refine zo rfl rfl rfl rfl rfl rfl rfl zaf (by simp[hh,hbl,hn]) ?_;refine qbd ?_;refine A0 (oFr zcG zbZ) ?_;refine qbB ?_;refine A0 (zdv rfl (zhX) (us_3) rfl) ?_;refine A0 (oCl (zF (zls _ 4 yp)) rfl zp2 yf) ?_;refine zo rfl rfl rfl rfl rfl rfl rfl zaf (by simp[hh,hbl,hn]) ?_;refine qbK ?_;exact za rfl rfl (zf rfl rfl (by unfold zcI;simp))
theorem zrS (a b:Total):Tells P 170 [.val zao a,.val zao b] (.val zao (ziP a b)):=by
 refine zc Tryz.func170 rfl rfl rfl (fun ext w hext=>?_);refine ze (d:=0) rfl zhv (fun ha=>?_);refine ze (d:=1) rfl zhv (fun hb=>?_);refine qaw ?_;refine qbI ?_;refine CNQR ?_;refine qc9 ?_;refine qc9 ?_;refine A0 (oCl (zcR _ _) rfl zjI yf) ?_;refine qcl ?_;refine qaJ ?_;refine zn [some 1,some 1,some 1,some 1,some 1,some 1,some 1,some 1,some 1,some 1,some 1,some 1,some 1,some 1,none] mixed yc ?_;refine qcL ?_;refine X0 (oLs rfl rfl rfl zaV) ?_;refine X0 (zkf (T:=sl u8T) (S:=bsl u8T) (zb7 (zF (ziC a ha.1)) rfl fn_208 ye rfl)) ?_;refine X0 (oLs rfl rfl rfl zaV) ?_;refine X0 (zkf (T:=sl u8T) (S:=bsl u8T) (zb7 (zF (ziC b hb.1)) rfl fn_208 ye rfl)) ?_;refine qcd ?_;refine X0 (oCl (zrQ [[3],zcI a,zcI b] (by simp[zeF ha.1,zeF hb.1])) rfl fn_78 ye) ?_;refine qcm ?_;refine X0 (oFp zcG) ?_;refine X0 (oLb zbZ ty_3) ?_;refine X0 (oFp zcG) ?_;refine X0 (oLb zbZ ty_3) ?_;refine X0 zbh ?_;refine X0 (z7 rfl zjW znK (.cons zdg zcy zT rfl (.cons zgt zfg zV rfl (.cons zcG zbZ ty_3 rfl .nil))) rfl) ?_;refine XK.e (x:=.idk) (fun fr' hfr kk H=>by exact zg rfl rfl rfl ((hfr 4 yc).trans rfl) rfl (Lens.self _) zaV ((hfr 28 yc).trans rfl) (zp H)) ?_;refine xc ?_;exact zq rfl rfl rfl rfl zaV (by unfold ziP;simp)
theorem rallNil_ok:Tells P 169 [.val (bsl zao) []] (.val zao (zer [])):=by
 refine zc Tryz.func169 rfl rfl rfl (fun ext w hext=>?_);refine ze (d:=0) rfl zm (fun hsl0=>?_);refine CQR ?_;refine qbI ?_;refine qb2 ?_;refine xA ?_;refine qcC ?_;refine Ct ?_;refine CQR ?_;refine qaz ?_;refine A0 (oCl (zkB [4] yp) rfl zsx ye) ?_;refine A0 (z7 rfl zjW znK (.cons zdg zcy zT rfl .nil) rfl) ?_;refine qaV ?_;refine CN ?_;exact zq rfl rfl rfl rfl zaV (zlz.symm)
theorem zlm (p:List Total) (hp:p.length≤1000000):Tells P 127 [.val (bsl zao) p] (.val zao (zer p)):=by
 refine zc Tryz.func127 rfl rfl rfl (fun ext w hext=>?_);refine ze (d:=0) rfl zm (fun hsl0=>?_);refine CQR ?_;refine qbI ?_;refine qb2 ?_;refine xA ?_;refine qcC ?_;refine Cf (p:=p.length=0) (fun ht7=>?_) (fun ht7=>?_)
 ·
  obtain rfl:p=[]:=List.length_eq_zero_iff.1 ht7;refine CQR ?_;refine A0 (oCl (rallNil_ok) rfl fn_169 ybD) ?_;refine qaV ?_;refine CN ?_;exact zq rfl rfl rfl rfl zaV (rfl)
 obtain⟨n,hn⟩:∃n,p.length=n+1:=⟨p.length-1,by omega⟩;obtain⟨x0,hx0⟩:∃x,p[n]?=some x:=yq;have hroot:=zni hn hx0;refine CSQR ?_;refine qai ?_;refine xA ?_;refine A0 za1 ?_;refine A0 (zD (i:=n) rfl rfl rfl ya zeH yj) ?_;refine A0 (zh rfl rfl zaV) ?_;refine qbI ?_;refine qaV ?_;refine qb2 ?_;refine xA ?_;refine A0 za1 ?_;refine qcn ?_;refine zi (d:=4) (y:=(n:Int)-1) rfl (by rw[hn];simp;omega) ?_;refine Lp (ι:=Nat×Total) 2 (fun(k,y)=>(((Fr.none.set 0 (.val (bsl zao) p)).set 2 (.ptr 0 0)).set 3 (.ptr 1 0)).set 4 (.val i64T ((k:Int)-1))) (fun(k,y)=>(Hp.none.set 0 (.box 148 zao zrw)).set 1 (.box 148 zao y)) (fun(k,y)=>k≤n∧zer p=zfn (p.take k).reverse y) (fun(k,y)=>k) ((n,x0)) (⟨ug _,hroot⟩) ?_;intro⟨k,y⟩ hinv;dsimp only at hinv;refine qaK ?_;refine qbP ?_;refine Cf (p:=0<k) (fun ht19=>?_) (fun ht19=>?_)
 ·
  obtain⟨x,hx⟩:∃x,p[k-1]?=some x:=yq;refine qaD ?_;refine zn [some 1,some 1,some 1,some 1,some 1,some 1,none] mixed yc ?_;refine qb7 ?_;refine X0 (zD (i:=k-1) rfl rfl rfl ya zeH yj) ?_;refine X0 (zh rfl rfl zaV) ?_;refine X0 (oLs rfl rfl rfl zaV) ?_;refine X0 (oCl (zrS _ _) rfl fn_170 ybF) ?_;refine XK.e (x:=.idk) (fun fr' hfr kk H=>by exact zg rfl rfl rfl ((hfr 3 yc).trans rfl) rfl (Lens.self _) zaV ((hfr 27 yc).trans rfl) (zp H)) ?_;refine qba ?_;refine qco ?_;refine qad ?_;refine zi (d:=4) (y:=((k-1:Nat):Int)-1) rfl ya ?_;exact Nx ((k-1,ziP x y)) (⟨by omega,by rw[hinv.2,show k=k-1+1 by omega,ziD hx];rfl⟩) (by show k-1<k;omega)
 obtain rfl:k=0:=ya;refine qbQ ?_;refine A0 (oLs rfl rfl rfl zaV) ?_;refine qaV ?_;refine CN ?_;exact zq rfl rfl rfl rfl zaV (by rw[hinv.2];rfl)
theorem zlk (h:Head):Tells P 77 [.val zbU h] (.tup2 (.fresh 5 u8T (zbi h)) (.val zu (hOk h))):=by
 refine zc Tryz.func77 rfl rfl rfl (fun ext w hext=>?_);refine ze (d:=0) rfl ziY (fun hf=>?_);obtain⟨hf1,hf2,hf3,hf4,hf5⟩:=hf;have hbl:=zdW h.work;have hn1:=zU (z6 (IntL.toI i64T h.height)) 4;have hn2:=zU (z6 (IntL.toI u32T h.bits)) 4;have hn3:=zU h.nonce 8;refine qbO ?_;refine qcH ?_;refine qbN ?_;refine A0 zbK ?_;refine qa9 ?_;refine Sp (d:=9) (p:=h.height<0) (fun g9=>?_) (fun g9=>?_)
 ·
  refine qac ?_;refine qar ?_;refine Ct ?_;refine qaB ?_;refine qad ?_;exact zac rfl rfl ybk (zb rfl (uh ya).symm)
 refine A1 (oFp zdm) ?_;refine A1 (oLb zat ty_3) ?_;refine A1 zcm ?_;refine qar ?_;refine Cf (p:=1048576<h.height) (fun ht13=>?_) (fun ht13=>?_)
 ·
  have hE:hOk h=false:=uh ya;refine qaB ?_;refine qad ?_;exact zac rfl rfl ybk (zb rfl (uh ya).symm)
 refine CSQR ?_;refine A0 (oFp zfF) ?_;refine A0 (oLb zcq zV) ?_;refine A0 (oCl (zne _) rfl fn_121 ye) ?_;refine qaI ?_;refine qao ?_;refine qc8 ?_;refine zej (d:=4) rfl rfl (Lens.self _) ?_;refine CR ?_;refine A0 (oFr zdm zat) ?_;refine qbB ?_;refine A0 (zdv rfl (zhX) (us_3) rfl) ?_;refine zam (zls (z6 (IntL.toI i64T h.height)) 4 yp) rfl zp2 yf rfl rfl rfl ?_;refine qbd ?_;refine A0 (oFr zet zbz) ?_;refine qbJ ?_;refine xO ?_;refine qbd ?_;refine A0 (oFr zes zbb) ?_;refine qbJ ?_;refine xO ?_;refine qbd ?_;refine A0 (oFr zfH zcX) ?_;refine qbJ ?_;refine xO ?_;refine qbd ?_;refine A0 (oFr zfG zcr) ?_;refine qbJ ?_;refine xO ?_;refine qbd ?_;refine qbJ ?_;refine xO ?_;refine qbd ?_;refine A0 (oFr zcf zan) ?_;refine A0 (zh rfl rfl zaY) ?_;refine A0 (zdv rfl (zhX) (zk3) rfl) ?_;refine zam (zls (z6 (IntL.toI u32T h.bits)) 4 yp) rfl zp2 yf rfl rfl rfl ?_;refine zfx (d:=44) rfl rfl ?_;refine xO ?_;refine qbd ?_;refine A0 (oFr zfE zb0) ?_;refine A0 (zh rfl rfl zaQ) ?_;refine zam (zls h.nonce 8 yp) rfl zp2 ybF rfl rfl rfl ?_;refine zfx (d:=49) rfl rfl ?_;refine xO ?_;refine A0 aO ?_;refine qad ?_;exact zac rfl rfl (zf rfl rfl (by have hE:hOk h=true:=ui ya;unfold zbi;rw[ut hE];unfold zlt;simp)) (zb rfl (ui ya).symm)
theorem zdq (h:Head):Tells P 40 [.val zbU h] (.val idT (zR h)):=by
 refine zc Tryz.func40 rfl rfl rfl (fun ext w hext=>?_);refine ze (d:=0) rfl ziY (fun hh=>?_);obtain⟨hh1,hh2,hh3,hh4,hh5⟩:=hh;refine qaf ?_;refine qaI ?_;refine CNQR ?_;refine qcp ?_;refine A0 (oCl (zdP (zlk h)) rfl fn_77 ye) ?_;refine qcz ?_;refine zk (p:=¬hOk h=true) rfl (by cases hOk h<;>rfl) (fun ht11=>?_) (fun ht11=>?_)
 ·
  refine CQR ?_;refine A0 (zdF rfl zc8 zqB rfl) ?_;refine qcb ?_;exact zq rfl rfl rfl rfl zT (by unfold zR;rw[ur ht11]<;>rfl)
 refine CSQR ?_;refine qaz ?_;refine zjR (S:=bsl u8T) (d:=13) rfl ?_;refine qa9 ?_;refine zjR (S:=bsl u8T) (d:=14) rfl ?_;refine qck ?_;refine A0 (oCl (zrQ [[5],zbi h] (by unfold zbi;split<;>simp[zlt,hh1,hh2,hh3,hh4,zdW,zU])) rfl fn_78 ye) ?_;refine qcb ?_;exact zq rfl rfl rfl rfl zT (by unfold zR zbi;rw[ut (ua ht11),ut (ua ht11)];simp)
theorem zrB (bits:UInt32):IntL.toI u32T (bits/16777216)=tgtE bits:=by
  show(((bits/16777216).toNat:Nat):Int)=(((zdy bits 24).toNat:Nat):Int);have hx:bits.toNat<4294967296:=bits.toNat_lt;unfold zdy;rw[UInt32.toNat_div,UInt32.toNat_ofNat_of_lt' (by show _<4294967296;have:=Nat.div_le_self bits.toNat (2^min 24 32);omega)];rfl
theorem tgtM_rem (bits:UInt32):z6 (IntL.toI u32T (bits%16777216))=tgtM bits:=by
  unfold tgtM;congr 2;apply UInt32.toNat_inj.1;rw[UInt32.toNat_mod,UInt32.toNat_and];show bits.toNat%16777216=bits.toNat&&&(2^24-1);rw[Nat.and_two_pow_sub_one_eq_mod]
theorem zjr (bits:UInt32):Tells P 124 [.val u32T bits] (.tup2 (.val zL (tgtW bits)) (.val zu (zay bits))):=by
 have he0:0≤tgtE bits:=Int.natCast_nonneg _;have heL:tgtE bits<4294967296:=ybX;refine zc Tryz.func124 rfl rfl rfl (fun ext w hext=>?_);refine CQR ?_;refine qau ?_;refine qaS ?_;refine A0 (zic rfl rfl rfl yp) ?_;refine A0 (g_cvi rfl (ui_3) (zk3) rfl (zaF (by have e:IntL.toI u32T (bits/UInt32.ofNat (Int.toNat 16777216))=tgtE bits:=zrB bits;rw[e];omega))) ?_;refine zi (d:=8) (y:=tgtE bits) rfl (zrB bits) ?_;refine qaS ?_;refine A0 (zot rfl rfl rfl yp) ?_;refine A0 (zdv rfl (zhX) (zk3) rfl) ?_;refine zi (d:=11) (y:=tgtM bits) rfl (tgtM_rem bits) ?_;refine qah ?_;refine A0 zbK ?_;refine qa9 ?_;refine Sp (d:=14) (p:=tgtE bits<3) (fun g14=>?_) (fun g14=>?_)
 ·
  refine qcI ?_;refine qat ?_;refine qcI ?_;refine qat ?_;refine qc1 ?_;refine Ct ?_;refine qaL ?_;refine qad ?_;exact zx rfl rfl (zC rfl rfl zV yP) (zX (zb rfl yaj))
 refine A1 mV ?_;refine A1 zcm ?_;refine qat ?_;refine Sp (d:=18) (p:=32<tgtE bits) (fun g18=>?_) (fun g18=>?_)
 ·
  refine qcI ?_;refine qat ?_;refine qc1 ?_;refine Ct ?_;refine qaL ?_;refine qad ?_;exact zx rfl rfl (zC rfl rfl zV yP) (zX (zb rfl yaj))
 refine A1 mV ?_;refine A1 zbK ?_;refine qat ?_;refine zad (d:=22) (p:=(tgtM bits).toNat<32768) rfl (by rw[uo];show((tgtM bits).toNat:Int)<(32768:Int)↔_;omega) (fun g22=>?_) (fun g22=>?_)
 ·
  refine qc1 ?_;refine Ct ?_;refine qaL ?_;refine qad ?_;exact zx rfl rfl (zC rfl rfl zV yP) (zX (zb rfl yaj))
 refine A1 mV ?_;refine A1 zcm ?_;refine qar ?_;refine zk (p:=8388608≤(tgtM bits).toNat) rfl (by rw[uo];show(8388607:Int)<((tgtM bits).toNat:Int)↔_;omega) (fun ht25=>?_) (fun ht25=>?_)
 ·
  refine qaL ?_;refine qad ?_;exact zx rfl rfl (zC rfl rfl zV yP) (zX (zb rfl yaj))
 refine qbL ?_;refine A0 (oCl (zjv (tgtM bits)) rfl znt ye) ?_;refine qa9 ?_;refine A0 (zpS rfl rfl rfl (show _=(tgtE bits-3:Int) from(zaF ya).trans ya)) ?_;refine A0 (g_mul rfl rfl rfl (show _=(8*(tgtE bits-3):Int) from(zaF ya).trans ya)) ?_;refine A0 (oCl (rupW_ok (ofW (tgtM bits)) (8*(tgtE bits-3))) rfl fn_164 yf) ?_;refine qag ?_;refine qad ?_;exact zx rfl rfl (zC rfl rfl zV (by unfold tgtW;rw[ut yac])) (zX (zb rfl (by unfold zay;symm;apply ui;omega)))
def lnkN (l:List Ab.Id) (id:Ab.Id) (k:Nat):List Ab.Id:=l.take 1++List.replicate (k-1) id++l.drop k
theorem zoi {l:List Ab.Id} {id:Ab.Id} {k:Nat} (hl:1≤l.length) (hk:1≤k) (j:Nat):(lnkN l id k)[j]?=if j=0 then l[0]? else if j<k then some id else l[j]?:=by
  have ht:(l.take 1).length=1:=by rw[um];omega
  unfold lnkN;rw[List.append_assoc];by_cases c:j=0
  · rw[ut c,c,List.getElem?_append_left ya,List.getElem?_take,ut yp]
  rw[ur c,List.getElem?_append_right ya,ht];by_cases d:j<k
  · rw[ut d,List.getElem?_append_left (by rw[List.length_replicate];omega),List.getElem?_replicate,ut ya]
  rw[ur d,List.getElem?_append_right (by rw[List.length_replicate];omega),List.length_replicate,List.getElem?_drop];congr 1;omega
theorem zlC {l:List Ab.Id} {id:Ab.Id} {k:Nat} (hl:1≤l.length) (hk:1≤k):(lnkN l id k).length=max k l.length:=by
  unfold lnkN;simp only[ue,um,List.length_replicate,List.length_drop];omega
theorem lnk_app {l:List Ab.Id} {id:Ab.Id} {k:Nat} (hl:1≤l.length) (hk:1≤k) (h:k=(lnkN l id k).length):(lnkN l id k++[id]).set k id=lnkN l id (k+1):=by
  have hlen:=zlC (id:=id) hl hk;apply List.ext_getElem?;intro j;rw[zoi hl ya,List.getElem?_set];by_cases c:k=j
  · rw[ut c,ut ybw,ur ya,ut ya]
  rw[ur c];by_cases d:j<k
  · rw[List.getElem?_append_left ya,zoi hl hk]
    by_cases e:j=0
    · rw[ut e,ut e]
    rw[ur e,ur e,ut d,ut ya]
  rw[List.getElem?_eq_none ybw,ur ya,ur ya,List.getElem?_eq_none ya]
theorem lnk_set {l:List Ab.Id} {id:Ab.Id} {k:Nat} (hl:1≤l.length) (hk:1≤k) (h:¬k=(lnkN l id k).length):(lnkN l id k).set k id=lnkN l id (k+1):=by
  have hlen:=zlC (id:=id) hl hk;apply List.ext_getElem?;intro j;rw[zoi hl ya,List.getElem?_set];by_cases c:k=j
  · rw[ut c,ut ya,ur ya,ut ya]
  rw[ur c,zoi hl hk];by_cases e:j=0
  · rw[ut e,ut e]
  rw[ur e,ur e];by_cases d:j<k
  · rw[ut d,ut ya]
  rw[ur d,ur ya]
theorem lnk_one {l:List Ab.Id} {id:Ab.Id}:lnkN l id 1=l:=by unfold lnkN;rw[Nat.sub_self,List.replicate_zero,List.append_nil,List.take_append_drop]
theorem lnk_end {l:List Ab.Id} {id:Ab.Id} {level:Int} {k:Nat} (h1:¬32<l.length) (h2:¬l.length=0) (hk:1≤k) (hk2:k=1∨(k:Int)≤level+1) (hk3:k≤32) (h:¬((k:Int)≤level∧k≤31)):lnkN l id k=zb8 l id level:=by
  unfold zb8;rw[ur h1,ur h2];by_cases c:level<1
  · rw[ut c,show k=1 by omega,lnk_one]
  rw[ur c];obtain⟨m,hm⟩:∃m,m=(min level 31).toNat:=⟨_,rfl⟩;rw[←hm,show k=m+1 by omega];unfold lnkN;rw[Nat.add_sub_cancel]
theorem zpq (l:List Ab.Id) (id:Ab.Id) (level:Int):Tells P 172 [.val (bsl idT) l,.val idT id,.val i64T level] (.fresh 27 idT (zb8 l id level)):=by
 refine zc Tryz.func172 rfl rfl rfl (fun ext w hext=>?_);refine ze (d:=0) rfl zm (fun hsl0=>?_);refine ze (d:=2) rfl zab (fun hin2=>?_);refine qbO ?_;refine qb2 ?_;refine qbA ?_;refine qc5 ?_;refine Cf (p:=32<l.length) (fun ht11=>?_) (fun ht11=>?_)
 ·
  refine qaB ?_;refine CN ?_;exact za rfl rfl (by unfold zb8;rw[ut ht11];exact zr rfl)
 refine qce ?_;refine qbA ?_;refine qcC ?_;refine Cf (p:=l.length=0) (fun ht14=>?_) (fun ht14=>?_)
 ·
  refine CQR ?_;refine qbw ?_;refine zbk (T:=idT) (xs:=[_]) rfl rfl rfl rfl zdR zey yz rfl rfl ?_;refine qbK ?_;exact za rfl rfl (zf rfl rfl (by unfold zb8;rw[ur ht11,ut ht14]))
 refine qbL ?_;refine zcA rfl rfl rfl rfl rfl rfl zey (by first|omega|(rw[zlC ya hinv.1];simp;omega)) ?_;refine A0 aO ?_;refine qa2 ?_;refine zB (n:=1) (y:=lnkN l id 1) rfl lnk_one.symm ?_;refine Lp (ι:=Nat) 2 (fun (k:Nat)=>((((Fr.none).set 2 (.val i64T level)).set 4 (.ptr 0 0)).set 7 (.own 1)).set 8 (.val i64T (k:Int))) (fun (k:Nat)=>((Hp.none).set 0 (.box 27 idT id)).set 1 (.row 27 idT (lnkN l id k))) (fun (k:Nat)=>1≤k∧(k=1∨(k:Int)≤level+1)∧k≤32) (fun (k:Nat)=>32-k) (1) (⟨ug _,.inl rfl,by decide⟩) ?_;intro k hinv;refine qb9 ?_;refine A0 zhK ?_;refine qa9 ?_;refine Sp (d:=22) (p:=(k:Int)≤level) (fun g22=>?_) (fun g22=>?_)
 ·
  refine A1 mV ?_;refine A1 zhK ?_;refine qar ?_;refine Cf (p:=k≤31) (fun ht25=>?_) (fun ht25=>?_)
  ·
   have hll:=zlC (l:=l) (id:=id) (k:=k) ya hinv.1;refine qaD ?_;refine qaK ?_;refine A0 mO ?_;refine A0 (za9 rfl rfl rfl zdO) ?_;refine qcC ?_;refine Cf (p:=k=(lnkN l id k).length) (fun ht31=>?_) (fun ht31=>?_)
   ·
    obtain⟨o,ho⟩:∃o,(lnkN l id k++[id])[k]?=some o:=⟨_,ub ybw⟩;refine CR ?_;refine A0 mO ?_;refine qbw ?_;refine A0 (zW (T:=idT) (xs:=[_]) rfl zdR zey yz rfl rfl) ?_;refine zo rfl rfl rfl rfl rfl rfl rfl zey (by first|omega|(rw[zlC ya hinv.1];simp;omega)) ?_;refine A0 aO ?_;refine CNR ?_;refine A0 mO ?_;refine qa9 ?_;refine qbw ?_;refine A0 (zI (i:=k) rfl rfl rfl rfl yh zdR yd) ?_;refine zai rfl rfl rfl rfl rfl rfl yj (Lens.self _) zT rfl ?_;refine qb3 ?_;refine qbS ?_;refine zB (n:=1) (y:=lnkN l id (k+1)) rfl (lnk_app ya hinv.1 ht31) ?_;exact Nx (k+1) (⟨by omega,.inr ya,by omega⟩) ya
   obtain⟨o,ho⟩:∃o,(lnkN l id k)[k]?=some o:=yq;refine CS ?_;refine CR ?_;refine A0 mO ?_;refine qa9 ?_;refine qbw ?_;refine A0 (zI (i:=k) rfl rfl rfl rfl yh zdR yd) ?_;refine zai rfl rfl rfl rfl rfl rfl yj (Lens.self _) zT rfl ?_;refine qb3 ?_;refine zB (n:=1) (y:=lnkN l id (k+1)) rfl (lnk_set ya hinv.1 ht31) ?_;exact Nx (k+1) (⟨by omega,.inr ya,by omega⟩) ya
  refine qa7 ?_;exact za rfl rfl (zf rfl rfl (lnk_end ht11 ht14 hinv.1 hinv.2.1 hinv.2.2 ya))
 refine qc1 ?_;refine Cg ?_;refine qa7 ?_;exact za rfl rfl (zf rfl rfl (lnk_end ht11 ht14 hinv.1 hinv.2.1 hinv.2.2 ya))
theorem mul_or {x:UInt64} {y:UInt8}:256*x+z6 (IntL.toI u8T y)=zhJ x 8|||z6 (IntL.toI u8T y):=by
  have hx:x.toNat<18446744073709551616:=x.toNat_lt;have hy:y.toNat<256:=y.toNat_lt;have e:(z6 (IntL.toI u8T y)).toNat=y.toNat:=by
    unfold z6;show(UInt64.ofNat (((y.toNat:Nat):Int)%18446744073709551616).toNat).toNat=y.toNat
    rw[UInt64.toNat_ofNat_of_lt' yQ];omega
  apply UInt64.toNat_inj.1;rw[UInt64.toNat_or,shl_n yp,e,UInt64.toNat_add,UInt64.toNat_mul,e,show(256:UInt64).toNat=256 from rfl];have e2:x.toNat*2^8%18446744073709551616=x.toNat%72057594037927936*2^8:=ya;rw[e2,zr2 ya];omega
theorem rof32W_ok (b:Ab.Id):Tells P 239 [.val idT b] (.val zL (zgR b)):=by
 refine zc Tryz.func239 rfl rfl rfl (fun ext w hext=>?_);refine ze (d:=0) rfl zgv (fun hb=>?_);refine qaf ?_;refine qau ?_;refine CNQR ?_;refine qau ?_;refine qa2 ?_;refine Lp (ι:=Nat) 3 (fun (k:Nat)=>((((Fr.none).set 1 (.ptr 0 0)).set 2 (.ptr 1 0)).set 3 (.ptr 2 0)).set 4 (.val i64T (k:Int))) (fun (k:Nat)=>(((Hp.none).set 0 (.box 27 idT b)).set 1 (.box 30 zL zax)).set 2 (.box 30 zL (zn8 b k))) (fun (k:Nat)=>k≤32) (fun (k:Nat)=>32-k) (0) (uf _) ?_;intro k hinv;refine qaK ?_;refine qa1 ?_;refine Cf (p:=k<32) (fun ht7=>?_) (fun ht7=>?_)
 ·
  refine qbe ?_;refine qbx ?_;refine A0 za1 ?_;refine qad ?_;refine zn [some 1,some 1,some 1,some 1,some 1,some 1,some 1,some 1,some 1,some 1,some 1,none] mixed yc ?_;refine qb7 ?_;refine X0 (zs (i:=3-k/8) rfl rfl rfl yh zaO ya) ?_;refine X0 (zl rfl rfl rfl (Lens.elem (i:=3-k/8) ya u64T) zaQ) ?_;refine X0 (zg0 rfl rfl rfl) ?_;refine X0 mV ?_;refine X0 (zs (i:=k) rfl rfl rfl yh zc8 ya) ?_;refine X0 (zl rfl rfl rfl (Lens.elem (i:=k) ya u8T) ty_5) ?_;refine X0 (zdv rfl (zhX) (us_5) rfl) ?_;refine X0 (zfC rfl rfl rfl) ?_;refine X0 (zs (i:=3-k/8) rfl rfl rfl yh zaO ya) ?_;refine XK.e (x:=.idk) (fun fr' hfr kk H=>by exact zg rfl rfl rfl ((hfr 23 yc).trans rfl) rfl (Lens.elem (i:=3-k/8) ya u64T) zaQ ((hfr 22 yc).trans rfl) (zp H)) ?_;refine qba ?_;refine qak ?_;refine zJ (n:=2) (y:=zn8 b (k+1)) rfl (by unfold zn8;rw[zcu];unfold of32S;rw[←mul_or];rfl) ?_;exact Nx (k+1) ya ya
 obtain rfl:k=32:=ya;refine CE ?_;refine qbs ?_;exact zq rfl rfl rfl rfl zV (rfl)
theorem zqL {f:Int→Bool} (hm:∀i j:Nat,i≤j→f (i:Int)=true→f (j:Int)=true):∀(n lo hi:Nat),hi-lo=n→lo≤hi→(∀j:Nat,j<searchN f lo hi→lo≤j→f (j:Int)=false)∧(searchN f lo hi<hi→f ((searchN f lo hi:Nat):Int)=true)∧lo≤searchN f lo hi∧searchN f lo hi≤hi:=by
  intro n
  induction n using Nat.strongRecOn with
  | ind n ih =>
    intro lo hi hn hle;by_cases h:lo<hi
    · by_cases c:f (((lo+hi)/2:Nat):Int)=true
      · rw[zjp h c]
        obtain⟨h1,h2,h3,h4⟩:=ih ((lo+hi)/2-lo) ya lo ((lo+hi)/2) rfl ya;refine⟨h1,fun _=>?_,h3,by omega⟩;by_cases d:searchN f lo ((lo+hi)/2)<(lo+hi)/2
        · exact h2 d
        rw[show searchN f lo ((lo+hi)/2)=(lo+hi)/2 by omega];exact c
      rw[zld h c];obtain⟨h1,h2,h3,h4⟩:=ih (hi-((lo+hi)/2+1)) ya ((lo+hi)/2+1) hi rfl ya;refine⟨fun j hj hlo=>?_,h2,by omega,h4⟩;by_cases d:(lo+hi)/2+1≤j
      · exact h1 j hj d
      cases e:f (j:Int) with
      | false=>rfl
      | true=>exact absurd (hm j _ ya e) c
    have e:searchN f lo hi=lo:=by rw[searchN,dif_neg h]
    rw[e];exact⟨fun j hj hlo=>by omega,fun hh=>absurd hh h,ug _,hle⟩
def zhQ (x t:Wide):Nat→Int
  | 0=>-1
  | k+1=>if cmpW x (zc2 t k)≤0 then k else zhQ x t k
theorem zlI {x t:Wide} (hx:x.length=4) (ht:t.length=4) (i j:Nat) (hij:i≤j) (h:zfU x t (i:Int)=true):zfU x t (j:Int)=true:=by
  unfold zfU at *;rw[uj] at *;by_cases hj:j<256
  · rw[zmi hx (zdG ht),zh8 ht ya] at h
    rw[zmi hx (zdG ht),zh8 ht hj];have hd:nW t/2^j≤nW t/2^i:=Nat.div_le_div_left (Nat.pow_le_pow_right yp hij) (Nat.two_pow_pos i);have h1:nW t/2^i<nW x:=by
      by_cases c:nW x<nW t/2^i
      · rw[ut c] at h;exact absurd h yp
      rw[ur c] at h;by_cases d:nW t/2^i<nW x
      · exact d
      rw[ur d] at h;exact absurd h yp
    rw[ur ya,ut ya];decide
  have hz:zc2 t (j:Int)=zax:=by unfold zc2;rw[ur ya,ut ya]
  rw[hz,zmi hx rfl];rw[zmi hx (zdG ht)] at h;have hz0:nW zax=0:=rfl;rw[hz0];have h1:nW (zc2 t (i:Int))<nW x:=by
    by_cases c:nW x<nW (zc2 t (i:Int))
    · rw[ut c] at h;exact absurd h yp
    rw[ur c] at h;by_cases d:nW (zc2 t (i:Int))<nW x
    · exact d
    rw[ur d] at h;exact absurd h yp
  rw[ur ya,ut ya];decide
theorem zsi {x t:Wide} {s:Nat} (h1:∀j:Nat,j<s→zfU x t (j:Int)=false) (h2:∀j:Nat,s≤j→j<32→zfU x t (j:Int)=true):∀k,k≤32→zhQ x t k=(min k s:Nat)-1
  | 0,_=>by rw[zhQ];omega
  | k+1,hk=>by
    rw[zhQ,zsi h1 h2 k ya];by_cases c:k<s
    · have:=h1 k c
      unfold zfU at this;rw[decide_eq_false_iff_not] at this;rw[ut ya];omega
    have:=h2 k ya ya
    unfold zfU at this;rw[uj] at this;rw[ur ya];omega
theorem lastLv_all {id:Ab.Id} {t:Wide} (hx:(zgR id).length=4) (ht:t.length=4):zhQ (zgR id) t 32=znl id t:=by
  obtain⟨h1,h2,_,h4⟩:=zqL (f:=zfU (zgR id) t) (fun i j=>zlI hx ht i j) 32 0 32 rfl ya;rw[zsi (s:=searchN (zfU (zgR id) t) 0 32) (fun j hj=>h1 j hj ya) (fun j hj hj2=>zlI hx ht _ j hj (h2 ya)) 32 (ug _)];unfold znl;omega
theorem of32_len {b:Ab.Id}:(zgR b).length=4:=by
  have h:∀k,(zn8 b k).length=4:=fun k=>by
    induction k with
    | zero=>rfl
    | succ k ih=>unfold zn8;rw[zcu];unfold of32S;rw[List.length_set];exact ih
  exact h 32
theorem rlevelW_ok (id:Ab.Id) (t:Wide):Tells P 209 [.val idT id,.val zL t] (.val i64T (znl id t)):=by
 refine zc Tryz.func209 rfl rfl rfl (fun ext w hext=>?_);refine ze (d:=1) rfl zaC (fun ht=>?_);refine qaw ?_;refine qaj ?_;refine qbR ?_;refine Lp (ι:=Nat) 2 (fun (k:Nat)=>((((Fr.none).set 2 (.ptr 0 0)).set 3 (.ptr 1 0)).set 5 (.val i64T (zhQ (zgR id) t k))).set 6 (.val i64T (k:Int))) (fun (k:Nat)=>((Hp.none).set 0 (.box 27 idT id)).set 1 (.box 30 zL t)) (fun (k:Nat)=>k≤32) (fun (k:Nat)=>32-k) (0) (uf _) ?_;intro k hinv;refine qaK ?_;refine A0 zhK ?_;refine CN ?_;refine Cf (p:=k≤31) (fun ht8=>?_) (fun ht8=>?_)
 ·
  refine qcK ?_;refine G0 (oLs rfl rfl rfl zT) ?_;refine G0 (oCl (rof32W_ok id) rfl fn_239 ye) ?_;refine G0 (oLs rfl rfl rfl zV) ?_;refine G0 mV ?_;refine G0 (oCl (rdownW_ok t k) rfl fn_240 yf) ?_;refine G0 (oCl (ziI (zgR id) (zc2 t k)) rfl fn_51 yf) ?_;refine G0 zhK ?_;refine GK.nil ?_;refine Cf (p:=cmpW (zgR id) (zc2 t k)≤0) (fun ht17=>?_) (fun ht17=>?_)
  ·
   refine CR ?_;refine qa9 ?_;refine A0 aV ?_;refine qb3 ?_;refine zi (d:=5) (y:=zhQ (zgR id) t (k+1)) rfl (by rw[zhQ,ut ht17]) ?_;exact Nx (k+1) ya ya
  refine qbZ ?_;refine zi (d:=5) (y:=zhQ (zgR id) t (k+1)) rfl (by rw[zhQ,ur ht17]) ?_;exact Nx (k+1) ya ya
 obtain rfl:k=32:=ya;refine CE ?_;refine qcg ?_;exact za rfl rfl (zb rfl (lastLv_all of32_len ht))
theorem ziF (h:Head):Tells P 173 [.val zbU h] (.val i64T (zaL h)):=by
 refine zc Tryz.func173 rfl rfl rfl (fun ext w hext=>?_);refine qaf ?_;refine qaj ?_;refine qcp ?_;refine A0 (oCl (zdP (zlk h)) rfl fn_77 ye) ?_;refine qaM ?_;refine A0 aV ?_;refine qaj ?_;refine A0 (oFp zcf) ?_;refine A0 (oLb zan zaY) ?_;refine A0 (oCl (zjr h.bits) rfl fn_124 ye) ?_;refine qcl ?_;refine qah ?_;refine A0 oN ?_;refine qa9 ?_;refine zad (d:=20) (p:=¬hOk h=true) rfl (by cases hOk h<;>rfl) (fun g20=>?_) (fun g20=>?_)
 ·
  refine qc1 ?_;refine Ct ?_;refine qaq ?_;exact za rfl rfl (zb rfl (by unfold zaL;rw[ur (fun hc=>g20 hc.2)]))
 refine A1 mV ?_;refine A1 oN ?_;refine qar ?_;refine zk (p:=¬zay h.bits=true) rfl ybA (fun ht23=>?_) (fun ht23=>?_)
 ·
  refine qaq ?_;exact za rfl rfl (zb rfl (by unfold zaL;rw[ur (fun hc=>ht23 hc.1)]))
 refine CSQQR ?_;refine qbN ?_;refine qcC ?_;refine Cf (p:=h.height=0) (fun ht26=>?_) (fun ht26=>?_)
 ·
  refine qaq ?_;exact za rfl rfl (zb rfl (by unfold zaL;rw[ut ⟨ua ht23,ua g20⟩,ut ht26]))
 refine CS ?_;refine qaH ?_;refine G0 (oLs rfl rfl rfl za4) ?_;refine G0 (oCl (zdq h) rfl zpY ye) ?_;refine G0 (oLs rfl rfl rfl zV) ?_;refine G0 (oCl (rlevelW_ok (zR h) (tgtW h.bits)) rfl fn_209 yf) ?_;refine qa6 ?_;exact za rfl rfl (zb rfl (by unfold zaL;rw[ut ⟨ua ht23,ua g20⟩,ur ht26]))
theorem may_eq {h:Head}:decide (0≤zaL h)=zcd h:=by
  have h2:-1≤zaL h:=by
    unfold zaL
    split
    · split
      · decide
      unfold znl;omega
    omega
  unfold zcd;by_cases c:zaL h = -1
  · rw[c];rfl
  rw[ui (by omega:0≤zaL h),uh c];rfl
theorem zqN (h:Head):Tells P 132 [.val zbU h] (.val zu (zcd h)):=by
 refine zc Tryz.func132 rfl rfl rfl (fun ext w hext=>?_);refine qaf ?_;refine qaj ?_;refine qcp ?_;refine A0 (oCl (ziF h) rfl fn_173 ye) ?_;refine A0 zec ?_;refine qad ?_;exact za rfl rfl (zb rfl may_eq)
theorem znd (l m:List Int):Tells P 20 [.val (bsl i64T) l,.val (bsl i64T) m] (.val zu (decide (l=m))):=by
 refine zc Tryz.func20 rfl rfl rfl (fun ext w hext=>?_);refine ze (d:=0) rfl zm (fun hsl0=>?_);refine ze (d:=1) rfl zm (fun hsl1=>?_);refine qcJ ?_;refine qcA ?_;refine qa9 ?_;refine qcA ?_;refine qaT ?_;refine zk (p:=¬l.length=m.length) rfl yaq (fun ht10=>?_) (fun ht10=>?_)
 ·
  refine qaq ?_;exact za rfl rfl (zb rfl (uh (fun e=>ht10 ybh)).symm)
 refine CSQQR ?_;refine qcn ?_;refine Lp (ι:=Nat) 0 (fun (k:Nat)=>(((Fr.none).set 0 (.val (bsl i64T) l)).set 1 (.val (bsl i64T) m)).set 5 (.val i64T (k:Int))) (fun (k:Nat)=>Hp.none) (fun (k:Nat)=>k≤l.length∧l.take k=m.take k) (fun (k:Nat)=>l.length-k) (0) (⟨uf _,rfl⟩) ?_;intro k hinv;refine qb9 ?_;refine qcA ?_;refine qa1 ?_;refine Cf (p:=k<l.length) (fun ht14=>?_) (fun ht14=>?_)
 ·
  obtain⟨x,hx⟩:∃x,l[k]?=some x:=⟨_,ub ht14⟩;obtain⟨y,hy⟩:∃y,m[k]?=some y:=yq;refine qcK ?_;refine qbk ?_;refine G0 (zD (i:=k) rfl rfl rfl ya zcJ yj) ?_;refine G0 (zh rfl rfl ty_3) ?_;refine qbk ?_;refine G0 (zD (i:=k) rfl rfl rfl ya zcJ yj) ?_;refine G0 (zh rfl rfl ty_3) ?_;refine G0 zeb ?_;refine GK.nil ?_;refine zk (p:=¬x=y) rfl yF (fun ht25=>?_) (fun ht25=>?_)
  ·
   refine qaq ?_;exact za rfl rfl (zb rfl (uh (zde hx hy ht25)).symm)
  refine qbZ ?_;exact Nx (k+1) (⟨by omega,zaX hx hy hinv.2 (ua ht25)⟩) ya
 refine qcc ?_;exact za rfl rfl (zb rfl (ui yH).symm)
theorem ziG (l:List Block) (id:Ab.Id):Tells P 39 [.val (bsl zt) l,.val idT id] (.val i64T (zY l id)):=by
 refine zc Tryz.func39 rfl rfl rfl (fun ext w hext=>?_);refine ze (d:=0) rfl zm (fun hsl0=>?_);refine qaf ?_;refine qbR ?_;refine Lp (ι:=Nat) 1 (fun (k:Nat)=>(((Fr.none).set 0 (.val (bsl zt) l)).set 3 (.ptr 0 0)).set 5 (.val i64T (k:Int))) (fun (k:Nat)=>(Hp.none).set 0 (.box 27 idT id)) (fun (k:Nat)=>k≤l.length∧zY l id=shift k (idx (fun b=>decide (zR b.h=id)) (l.drop k))) (fun (k:Nat)=>l.length-k) (0) (⟨uf _,zeP _ l⟩) ?_;intro k hinv;refine qb9 ?_;refine qbf ?_;refine qa1 ?_;refine Cf (p:=k<l.length) (fun ht9=>?_) (fun ht9=>?_)
 ·
  obtain⟨x,hx⟩:∃x,l[k]?=some x:=ya0;refine qcK ?_;refine qbk ?_;refine G0 (zD (i:=k) rfl rfl rfl ya zbS yj) ?_;refine G0 (oFr zah zE) ?_;refine G0 (zh rfl rfl za4) ?_;refine G0 (oCl (zdq x.h) rfl zpY ybD) ?_;refine G0 (oLs rfl rfl rfl zT) ?_;refine G0 (zfY rfl rfl rfl (zdw)) ?_;refine GK.nil ?_;refine zk (p:=(decide (zR x.h=id))=true) rfl yx (fun ht19=>?_) (fun ht19=>?_)
  ·
   refine qcg ?_;exact za rfl rfl (zb rfl (hinv.2.trans (zia hx ht19)).symm)
  refine qbZ ?_;exact Nx (k+1) (⟨by omega,hinv.2.trans (zlN hx ht19)⟩) ya
 refine qcc ?_;exact za rfl rfl (zb rfl (hinv.2.trans (zib ya)).symm)
theorem zkC (a b:Wide):Tells P 214 [.val zL a,.val zL b] (.tup2 (.val zL (subW a b)) (.val zu (zpd a b))):=by
 refine zc Tryz.func214 rfl rfl rfl (fun ext w hext=>?_);refine ze (d:=0) rfl zaC (fun ha=>?_);refine ze (d:=1) rfl zaC (fun hb=>?_);refine qaw ?_;refine qau ?_;refine qaj ?_;refine qau ?_;refine qa2 ?_;refine Lp (ι:=Nat) 4 (fun (k:Nat)=>(((((Fr.none).set 2 (.ptr 0 0)).set 3 (.ptr 1 0)).set 4 (.ptr 2 0)).set 6 (.ptr 3 0)).set 7 (.val i64T (k:Int))) (fun (k:Nat)=>((((Hp.none).set 0 (.box 30 zL a)).set 1 (.box 30 zL b)).set 2 (.box 30 zL zax)).set 3 (.box 30 zL (setN (compF b) zax k))) (fun (k:Nat)=>k≤4) (fun (k:Nat)=>4-k) (0) (uf _) ?_;intro k hinv;refine qaK ?_;refine qa1 ?_;refine Cf (p:=k<4) (fun ht13=>?_) (fun ht13=>?_)
 ·
  refine qaD ?_;refine CR ?_;refine qai ?_;refine xK ?_;refine A0 (zl rfl rfl rfl (Lens.elem (i:=k) ya u64T) zaQ) ?_;refine A0 (g_sub64 rfl rfl rfl) ?_;refine xK ?_;refine xL ?_;refine qb3 ?_;refine zJ (n:=3) (y:=setN (compF b) zax (k+1)) rfl (by rw[←zeZ];unfold compF maxU;rfl) ?_;exact Nx (k+1) ya ya
 obtain rfl:k=4:=ya;obtain⟨c,hc⟩:∃c,c=compW b:=⟨_,rfl⟩;obtain⟨o,ho⟩:∃o,o=ofW (UInt64.ofNat (Int.toNat 1)):=⟨_,rfl⟩;have hof:=zjv (UInt64.ofNat (Int.toNat 1));rw[←ho] at hof;obtain⟨x1,hx1⟩:∃x,x=addW a c:=⟨_,rfl⟩;have h1:=zcR a c;rw[←hx1] at h1;obtain⟨x2,hx2⟩:∃x,x=addW x1 o:=⟨_,rfl⟩;have h2:=zcR x1 o;rw[←hx2] at h2;refine CE ?_;refine CQ ?_;refine zJ (n:=3) (y:=c) rfl ((ziA rfl).trans hc.symm) ?_;refine CR ?_;refine qcS ?_;refine A0 (oCl (h1) rfl zjI yf) ?_;refine qcl ?_;refine qaJ ?_;refine xy ?_;refine XK.gf (t:=8) rfl rfl (fun _ he=>zl rfl rfl he (Lens.self _) zV) ⟨hpB rfl rfl,trivial⟩ rfl rfl rfl ?_;refine XK.ga (fun _=>zb7 (hof) rfl znt ye rfl) rfl rfl rfl ?_;refine XK.ga (fun _=>zb7 (h2) rfl zjI yf rfl) rfl rfl rfl ?_;refine xw ?_;refine xx ?_;refine xq ?_;refine XK.e (fun fr' hfr kk H=>by exact zP zf7 rfl rfl rfl rfl (zp H)) ?_;refine XK.e (x:=.idk) (fun fr' hfr kk H=>by exact zg rfl rfl rfl ((hfr 10 yc).trans rfl) rfl (Lens.self _) zV ((hfr 32 yc).trans rfl) (zp H)) ?_;refine X0 aV ?_;refine xP ?_;refine CQ ?_;refine zn [some 1,some 1,some 1,some 1,some 1000001,none,some 1] mixed yc ?_;refine qcm ?_;refine qcm ?_;refine qcm ?_;refine X0 (oCl (ziI _ _) rfl fn_51 yf) ?_;refine XK.ga (fun _=>g_geq rfl rfl rfl rfl) rfl rfl rfl ?_;refine XK.e (x:=.idk) (fun fr' hfr kk H=>by exact zg rfl rfl rfl ((hfr 4 yc).trans rfl) rfl (Lens.self _) zV ((hfr 34 yc).trans rfl) (zp H)) ?_;refine X0 aV ?_;refine xc ?_;exact zx rfl rfl (zC rfl rfl zV (by rw[hx2,hx1,hc,ho];exact rsub_eq ha hb)) (zX (zb rfl (by rw[←rsub_ok ha hb,uo];rfl)))
theorem ziE (p:List Total) (leaf:Total) (hp:p.length≤1000000):Tells P 128 [.val (bsl zao) p,.val zao leaf] (.val (sl zao) (zbx p leaf)):=by
 refine zc Tryz.func128 rfl rfl rfl (fun ext w hext=>?_);refine ze (d:=0) rfl zm (fun hsl0=>?_);refine qbO ?_;refine qbX ?_;refine zcA rfl rfl rfl rfl rfl rfl zfl yE ?_;refine qbd ?_;refine A0 (oLs rfl rfl rfl zaV) ?_;refine A0 (zW (T:=zao) (xs:=[_]) rfl zeH zfl yz rfl rfl) ?_;refine zo rfl rfl rfl rfl rfl rfl rfl zfl yE ?_;refine A0 aO ?_;refine CNQ ?_;refine CB ?_;refine zfx (d:=5) rfl rfl ?_;refine zi (d:=5) (y:=p.reverse.reverse++[leaf]) rfl yx ?_;refine Lp (ι:=List Total×Total) 1 (fun(r,x)=>(Fr.none.set 3 (.ptr 0 0)).set 5 (.val (sl zao) (r.reverse++[x]))) (fun(r,x)=>Hp.none.set 0 (.box 148 zao leaf)) (fun(r,x)=>r.length≤1000000∧zkr r x=zkr p.reverse leaf) (fun(r,x)=>r.length) ((p.reverse,leaf)) (⟨by simp;omega,rfl⟩) ?_;intro⟨r,x⟩ hinv;dsimp only at hinv;have hlen:(r.reverse++[x]).length=r.length+1:=yx;refine CQ ?_;refine qaH ?_;refine G0 mV ?_;refine G0 (zaZ rfl rfl zfr) ?_;refine G0 zec ?_;refine G0 mV ?_;refine zaq (d:=17) (p:=¬r=[]) rfl (by rw[uo];show(2:Int)≤(((r.reverse++[x]).length:Nat):Int)↔_;rw[←List.length_eq_zero_iff];omega) (fun g17=>?_) (fun g17=>?_)
 ·
  obtain⟨y,s,hr⟩:∃y s,r=y::s:=by cases r with|nil=>exact absurd rfl g17|cons y s=>exact⟨y,s,rfl⟩
  have hrl:r.length=s.length+1:=by rw[hr];rfl
  have hx1:(r.reverse++[x])[s.length]?=some y:=by rw[hr];simp
  have hx2:(r.reverse++[x])[s.length+1]?=some x:=by rw[List.getElem?_append_right (by simp[hrl])];simp[hrl]
  refine G1 mV ?_;refine G1 mV ?_;refine G1 (zaZ rfl rfl zfr) ?_;refine G1 za1 ?_;refine G1 (zD (i:=s.length+1) rfl rfl rfl ya zeH yj) ?_;refine G1 (oFr zcG zbZ) ?_;refine G1 (zh rfl rfl ty_3) ?_;refine G1 mV ?_;refine G1 mV ?_;refine G1 (zaZ rfl rfl zfr) ?_;refine G1 za1 ?_;refine G1 (zD (i:=s.length) rfl rfl rfl ya zeH yj) ?_;refine G1 (oFr zcG zbZ) ?_;refine G1 (zh rfl rfl ty_3) ?_;refine G1 zct ?_;refine qbV ?_;refine zk (p:=x.n=y.n) rfl yF (fun ht33=>?_) (fun ht33=>?_)
  ·
   refine CS ?_;refine CB ?_;refine qa0 ?_;refine xA ?_;refine qaJ ?_;refine zn [some 1000001,some 1000001,some 1000001,some 1000001,some 1000001,some 1000001,some 1000001,some 1000001,some 1000001,some 1000001,some 1000001,none,none] mixed yc ?_;refine XK.ga (fun _=>g_mv (.inl rfl) rfl) rfl rfl rfl ?_;refine XK.ga (fun _=>g_mv (.inl rfl) rfl) rfl rfl rfl ?_;refine XK.ga ybc rfl rfl rfl ?_;refine XK.ga (fun _=>zD (i:=s.length) rfl rfl rfl ya zeH yj) rfl rfl rfl ?_;refine XK.ga (fun _=>zh rfl rfl zaV) rfl rfl rfl ?_;refine XK.ga (fun _=>g_mv (.inl rfl) rfl) rfl rfl rfl ?_;refine XK.ga (fun _=>g_mv (.inl rfl) rfl) rfl rfl rfl ?_;refine XK.ga ybc rfl rfl rfl ?_;refine XK.ga (fun _=>zD (i:=s.length+1) rfl rfl rfl ya zeH yj) rfl rfl rfl ?_;refine XK.ga (fun _=>zh rfl rfl zaV) rfl rfl rfl ?_;refine XK.ga (fun _=>zb7 (zrS y x) rfl fn_170 ⟨yb,yb,trivial⟩ rfl) rfl rfl rfl ?_;refine XK.e (fun fr' hfr kk H=>by exact zP zjW rfl rfl rfl rfl (zp H)) ?_;refine XK.e (x:=.idk) (fun fr' hfr kk H=>by exact zg rfl rfl rfl ((hfr 7 yc).trans rfl) rfl (Lens.self _) zaV ((hfr 46 yc).trans rfl) (zp H)) ?_;refine xc ?_;refine zn [some 1,some 1,some 1,some 1,none,some 2,some 2,none,some 1] mixed yc ?_;refine qb7 ?_;refine X0 za1 ?_;refine X0 yaN ?_;refine XK.e (fun fr' hfr kk H=>by exact zcA rfl rfl rfl rfl rfl ((hfr 50 yc).trans rfl) zfl yE (zp H)) ?_;refine XK.gb (t:=7) rfl rfl (fun _ he=>zl rfl rfl he (Lens.self _) zaV) rfl ⟨hpB rfl rfl,hpB rfl rfl,trivial⟩ rfl rfl rfl ?_;refine XK.g2 (zW (T:=zao) (xs:=[_]) rfl zeH zfl yz rfl rfl) (zW (T:=zao) (xs:=[_]) rfl zeH zfl yz rfl rfl) rfl rfl rfl ?_;refine XK.e (fun fr' hfr kk H=>by exact zo rfl rfl rfl rfl ((hfr 51 yc).trans rfl) rfl ((hfr 53 yc).trans rfl) zfl yE (zp H)) ?_;refine X0 aO ?_;refine xc ?_;refine CI ?_;refine zfx (d:=5) rfl rfl ?_;refine zi (d:=5) (y:=s.reverse++[ziP y x]) rfl (by simp[hr,List.take_append]<;>exact uc yx) ?_;exact Nx ((s,ziP y x)) (⟨by omega,by rw[←hinv.2,hr,zkr,ut ht33.symm]⟩) (by show s.length<r.length;omega)
  refine CE ?_;refine qcg ?_;exact za rfl rfl (zb rfl (by unfold zbx;rw[←hinv.2,hr,zkr,ur (fun h=>ht33 h.symm)];simp))
 refine qaa ?_;refine qaE ?_;refine qaE ?_;refine G2 ?_;refine qbV ?_;refine Cg ?_;refine CE ?_;refine qcg ?_;exact za rfl rfl (zb rfl (by unfold zbx;rw[←hinv.2,ua g17];rfl))
end Go.Proofs.YtgoebfjaaklopaaGreat
