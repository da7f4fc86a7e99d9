/- Parts of the proof: the layer that reads Go values as data, and what the functions of the program tell. -/
import Derived.Test.YtikaeepohlkjdaaGreatK6
set_option linter.unusedVariables false
set_option linter.unusedSimpArgs false
set_option maxRecDepth 20000
namespace Go.Proofs.YtikaeepohlkjdaaGreat
open Go.Ab Go.RowKit
def zam (b:List UInt8):Proof:=if zbs b=true then zjJ b else zb3
theorem zgU {b:List UInt8} (h:zbs b=false):zam b=zb3:=by unfold zam;rw[h];rfl
theorem zmZ {b:List UInt8} (h:zbs b=true):zam b=zjJ b:=by unfold zam;rw[ut h]
theorem no_len {b:List UInt8} (h:¬decide ((2:Int)<(b.length:Int))=true):zbs b=false:=by
  unfold zbs;rw[uj] at h;rw[uh ya];rfl
theorem no_split {b:List UInt8} (h:¬(zW (b.drop 2)).2=true):zbs b=false:=by
  unfold zbs;rw[Bool.eq_false_iff.2 h,Bool.and_false];rfl
theorem zqp {b r:List UInt8} (hr:r∈(zW (b.drop 2)).1) (h:¬zeH r=true):zbs b=false:=by
  unfold zbs
  have:(zW (b.drop 2)).1.all zeH=false:=List.all_eq_false.2 ⟨r,hr,h⟩
  rw[this,Bool.and_false];rfl
theorem no_size {b:List UInt8} (h:¬ziO (zjJ b)=true):zbs b=false:=by
  unfold zbs;rw[Bool.eq_false_iff.2 h,Bool.and_false]
theorem pno_split {r:List UInt8} (h:¬(zW r).2=true):¬zeH r=true:=fun hp=>by
  unfold zeH at hp;rw[uk] at hp;exact h hp.1
theorem pno_nil {r:List UInt8} (h:¬decide ((0:Int)<((zW r).1.length:Int))=true):¬zeH r=true:=fun hp=>by
  unfold zeH at hp;rw[uj] at h
  have:(zW r).1=[]:=List.length_eq_zero_iff.1 ya
  rw[this] at hp;simp at hp
theorem pno_head {r x:List UInt8} (hx:(zW r).1[0]?=some x) (h:¬zcV x=true):¬zeH r=true:=fun hp=>by
  unfold zeH at hp;cases hl:(zW r).1 with
  | nil=>rw[hl] at hx;simp at hx
  | cons z l =>
    rw[hl] at hx hp;simp at hx;subst hx;simp only[uk] at hp;exact h hp.2.1
theorem pno_id {r y:List UInt8} (hy:y∈(zW r).1.drop 1) (h:¬decide ((y.length:Int)=32)=true):¬zeH r=true:=fun hp=>by
  unfold zeH at hp;rw[uj] at h;cases hl:(zW r).1 with
  | nil=>rw[hl] at hy;simp at hy
  | cons z l =>
    rw[hl] at hy hp;simp only[uk,List.all_eq_true,uj] at hp;exact h (by have:=hp.2.2 y hy;omega)
theorem part_yes {r x:List UInt8} (h1:(zW r).2=true) (hx:(zW r).1[0]?=some x) (h2:zcV x=true) (h3:∀y∈(zW r).1.drop 1,y.length=32):zeH r=true∧(⟨zlS x,(zW r).1.drop 1⟩:Part)=zc9 r:=by
  unfold zeH zc9;cases hl:(zW r).1 with
  | nil=>rw[hl] at hx;simp at hx
  | cons z l =>
    rw[hl] at hx h3;simp at hx;subst hx;refine⟨?_,?_⟩
    · simp only[uk,List.all_eq_true,uj]
      exact⟨h1,h2,fun y hy=>h3 y hy⟩
    rw[zrY h2];rfl
theorem mem_sum {α:Type} (f:α→Nat) {x:α}:∀{l:List α},x∈l→f x≤(l.map f).sum
  | y::l,h=>by
    rw[List.map_cons,List.sum_cons];rcases List.mem_cons.1 h with e|h
    · rw[e];omega
    have:=mem_sum f h;omega
theorem row_short {b r:List UInt8} (h:(zW b).2=true) (hr:r∈(zW b).1):r.length≤b.length:=by
  have e:=(zo0 h).1;have h1:=zl6 (zW b).1;rw[e] at h1;have h2:2+r.length≤_:=mem_sum (fun x:List UInt8=>2+x.length) hr;omega
theorem zuW {b:List UInt8} (h:(zW b).2=true):(zW b).1.length≤255:=by
  have:=(zo0 h).2
  unfold zdO at this;rw[uk,uj] at this;exact this.1
theorem yes_read {b:List UInt8} (h1:decide ((2:Int)<(b.length:Int))=true) (h2:(zW (b.drop 2)).2=true) (h3:∀r∈(zW (b.drop 2)).1,zeH r=true) (h4:ziO (zjJ b)=true):zbs b=true:=by
  unfold zbs;rw[uj] at h1;rw[h2,h4,ui ya,List.all_eq_true.2 h3];rfl
theorem readP_is {b:List UInt8} {b0 b1:UInt8} (h0:b[0]?=some b0) (h1:b[1]?=some b1):(⟨(b0.toNat:Int),(b1.toNat:Int),(zW (b.drop 2)).1.map zc9⟩:Proof)=zjJ b:=by
  unfold zjJ;rw[uq,uq,h0,h1];rfl
theorem zn_paper:zaw P 110 proofN (0,0,()):=zU (zI zbn (zI zbn zjt)) yo
def partN:GoT (Head×Unit):=zbx zbU nilT
theorem zn_part:zaw P 72 partN (zkv,()):=zU (zI zht zjt) yo
theorem split_part {h:Head}:zdK partN (h,()) [.val zbU h,.lit (.slice none 0 0)]:=zaR zaS zmH
theorem join_part {h:Head} {l:List Ab.Id}:zlH zba (⟨h,l⟩:Part) [.val zbU h] idT l:=zvv (znn zsh)
theorem cvi_u8 (x:UInt8):IntKind.i64.wrap (IntL.toI u8T x)=(x.toNat:Int):=by
  have h:x.toNat<256:=x.toNat_lt;have e:IntL.toI u8T x=(x.toNat:Int):=rfl;rw[e];exact zas ya
theorem zcu (b:List UInt8) (hb:b.length≤1000000000):Tells P 16 [.val (bsl u8T) b] (.tup2 (.val zP (zam b)) (.val zl (zbs b))):=by
 refine zd Tryz.func16 rfl rfl rfl (fun ext w hext=>?_);refine ze (d:=0) rfl zm (fun hsl0=>?_);refine qah ?_;refine qbC ?_;refine qaj ?_;refine A0 (zy rfl zn_paper bd_110 .nil rfl) ?_;refine xb ?_;refine ziD zp_108 rfl rfl rfl rfl rfl rfl ?_;refine zap rfl rfl rfl rfl rfl rfl rfl rfl rfl rfl zle ?_;refine CN ?_;refine zfM 2 (x:=(0,0,())) zmG rfl ?_;refine zg9 2 72 zba [.val i64T 0,.val i64T 0] rfl yba ?_;refine CQQR ?_;refine A0 (zj6 (caps:=[_,_]) rfl rfl) ?_;refine zR rfl rfl rfl rfl Tryz.func49 fn_49 rfl rfl (fun ia3 iok3=>?_);refine CQR ?_;refine zq ze_4 rfl rfl rfl rfl ?_;refine CNQR ?_;refine xd ?_;refine zwk rfl rfl rfl rfl rfl rfl rfl (fun bD=>?_);refine CNQR ?_;refine A0 mC ?_;refine zdT rfl rfl rfl rfl rfl Tryz.func50 fn_50 rfl rfl yab (fun ia4 iok4=>?_);refine CR ?_;refine A0 yaK ?_;refine xl ?_;refine zR rfl rfl rfl rfl Tryz.func51 fn_51 rfl rfl (fun ia5 iok5=>?_);refine qaE ?_;refine xi ?_;refine A0 zbH ?_;refine zbb (zbW (decide ((2:Int)<(b.length:Int)))) rfl zdg rfl yd (fun hm1=>?_) (fun hm1=>?_)
 ·
  have hno:=no_len hm1;refine qbi ?_;refine Ct ?_;refine CQR ?_;refine xy ?_;refine qas ?_;refine qae ?_;exact zp rfl rfl (zs rfl rfl zaD ((zgU hno).symm)) (zQ (za rfl (hno.symm)))
 refine A0 (oCl ((zbW (decide ((2:Int)<(b.length:Int)))).1 hm1) rfl zdg yd) ?_;refine CNQ ?_;have hbl:2<b.length:=by have:=of_decide_eq_true hm1;omega
 obtain⟨b0,hb0⟩:∃x,b[0]?=some x:=yB;obtain⟨b1,hb1⟩:∃x,b[1]?=some x:=yB;have hb08:b0.toNat<256:=b0.toNat_lt;have hb18:b1.toNat<256:=b1.toNat_lt;refine zA [some 1,some 1000001,some 1,some 1,some 1,some 1,some 1,some 1,some 1,some 1000001,some 1,some 1,some 1,none,some 1,some 1,some 1,none] mixed yc ?_;refine X0 mP ?_;refine XK.ga (fun _=>g_mp (.inl rfl) rfl) rfl rfl rfl ?_;refine X0 mV ?_;refine X0 (zV (i:=0) rfl rfl rfl ya zcG yj) ?_;refine X0 (zf rfl rfl ty_5) ?_;refine X0 (znx rfl (ui_3) (us_5) rfl (by exact cvi_u8 _)) ?_;refine X0 mV ?_;refine X0 (zV (i:=1) rfl rfl rfl ya zcG yj) ?_;refine X0 (zf rfl rfl ty_5) ?_;refine XK.ga (fun _=>znx rfl (ui_3) (us_5) rfl (by exact cvi_u8 _)) rfl rfl rfl ?_;refine xk ?_;refine X0 (oFp zdz) ?_;refine X0 (oFp zcY) ?_;refine XK.e (x:=.idk) (fun fr' hfr kk H=>by exact zap rfl rfl rfl ((hfr 28 yc).trans rfl) rfl rfl ((hfr 21 yc).trans rfl) rfl rfl rfl ty_3 (zt H)) ?_;refine xk ?_;refine X0 (oFp zdz) ?_;refine X0 (oFp zcI) ?_;refine XK.e (x:=.idk) (fun fr' hfr kk H=>by exact zap rfl rfl rfl ((hfr 31 yc).trans rfl) rfl rfl ((hfr 25 yc).trans rfl) rfl rfl rfl ty_3 (zt H)) ?_;refine XK.nil' ?_;refine qbQ ?_;refine A0 (zhh rfl rfl rfl zcG yg) ?_;refine zbb (zjA (b.drop 2) yK) rfl zvU rfl yd (fun hs1=>?_) (fun hs1=>?_)
 ·
  have hno:=no_split hs1;refine qbi ?_;refine Ct ?_;refine CQR ?_;refine xy ?_;refine qas ?_;refine qae ?_;exact zp rfl rfl (zs rfl rfl zaD ((zgU hno).symm)) (zQ (za rfl (hno.symm)))
 refine A0 (oCl (zB ((zjA (b.drop 2) yK).1 hs1)) rfl zvU yd) ?_;obtain⟨R,hR⟩:∃R,R=(zW (b.drop 2)).1:=⟨_,rfl⟩;have hRl:R.length≤255:=hR▸zuW hs1;refine zi (d:=34) (y:=R) rfl (by rw[hR]) ?_;refine A0 (zN rfl rfl zgX) ?_;refine qaH ?_;refine zaz 4 6 7 rfl rfl rfl rfl rfl rfl ?_;refine Lp (ι:=Nat) 7 (fun i=>(((Fr.none.set 0 (.ptr 2 0)).set 34 (.val (sl (sl u8T)) R)).set 35 (.val i64T (R.length:Int))).set 36 (.val i64T (i:Int))) (fun i=>((((Hp.none.set 1 (.box 27 zP zb3)).set 2 (.parts 110 [.val i64T (b0.toNat:Int),.val i64T (b1.toNat:Int),.own 6])).set 3 (.parts 108 [.ptr 2 0])).set 6 (.row 72 zba ((R.take i).map zc9))).set 5 (.objAt bD (.cells #[.bool false] 4 (0,0)))) (fun i=>i≤R.length∧∀r∈R.take i,zeH r=true) (fun i=>R.length-i) (0) (⟨uf _,fun x hx=>by simp at hx⟩) ?_;intro i hi;refine qar ?_;refine Cf (p:=i<R.length) (fun ht37=>?_) (fun ht37=>?_)
 ·
  obtain⟨r,hr⟩:∃r,R[i]?=some r:=⟨_,ub ht37⟩;have hrm:r∈(zW (b.drop 2)).1:=by rw[←hR];exact ud hr
  have hrl:=row_short hs1 hrm;rw[List.length_drop] at hrl;refine CSQBQR ?_;refine A0 (zV (i:=i) rfl rfl rfl ya zdL yj) ?_;refine A0 (zf rfl rfl zcx) ?_;refine qcx ?_;refine zbb (zjA r ya) rfl zvU rfl ybM (fun hs2=>?_) (fun hs2=>?_)
  ·
   have hno:=zqp hrm (pno_split hs2);refine qbi ?_;refine Ct ?_;refine CQR ?_;refine xy ?_;refine qas ?_;refine qae ?_;exact zp rfl rfl (zs rfl rfl zaD ((zgU hno).symm)) (zQ (za rfl (hno.symm)))
  refine A0 (oCl (zB ((zjA r ya).1 hs2)) rfl zvU ybM) ?_;refine qaL ?_;refine A0 (zN rfl rfl zgX) ?_;refine A0 zbH ?_;refine zbb (zbW (decide ((0:Int)<((zW r).1.length:Int)))) rfl zdg rfl yd (fun hm2=>?_) (fun hm2=>?_)
  ·
   have hno:=zqp hrm (pno_nil hm2);refine qbi ?_;refine Ct ?_;refine CQR ?_;refine xy ?_;refine qas ?_;refine qae ?_;exact zp rfl rfl (zs rfl rfl zaD ((zgU hno).symm)) (zQ (za rfl (hno.symm)))
  refine A0 (oCl ((zbW (decide ((0:Int)<((zW r).1.length:Int)))).1 hm2) rfl zdg yd) ?_;have hlp:1≤(zW r).1.length:=by have:=of_decide_eq_true hm2;omega
  obtain⟨x,hx⟩:∃x,(zW r).1[0]?=some x:=⟨_,ub (by have:=of_decide_eq_true hm2;omega)⟩;refine CNQR ?_;refine qa7 ?_;refine A0 (zV (i:=0) rfl rfl rfl ya zdL yj) ?_;refine A0 (zf rfl rfl zcx) ?_;refine A0 (oCl (ztL x) rfl fn_111 ybM) ?_;refine qaN ?_;refine qcY ?_;refine qbu ?_;refine qaL ?_;refine zbb (zbW (zcV x)) rfl zdg rfl yd (fun hm3=>?_) (fun hm3=>?_)
  ·
   have hno:=zqp hrm (pno_head hx hm3);refine qbi ?_;refine Ct ?_;refine CQR ?_;refine xy ?_;refine qas ?_;refine qae ?_;exact zp rfl rfl (zs rfl rfl zaD ((zgU hno).symm)) (zQ (za rfl (hno.symm)))
  refine A0 (oCl ((zbW (zcV x)).1 hm3) rfl zdg yd) ?_;refine CNQR ?_;refine qc7 ?_;refine A0 (zy rfl zn_part bd_72 (.cons za7 (Lens.fst _ _) zaX rfl .nil) rfl) ?_;refine zq zn_part rfl rfl rfl rfl ?_;refine xc ?_;refine CN ?_;refine zfM 8 (x:=(zlS x,())) split_part rfl ?_;refine zg9 8 49 idT [.val zbU (zlS x)] rfl (by intro x hx;simp only[List.mem_cons,List.not_mem_nil,or_false] at hx;rcases hx with rfl<;>trivial) ?_;refine qbQ ?_;refine A0 (zhh rfl rfl rfl zdL yg) ?_;obtain⟨L,hL⟩:∃L,L=(zW r).1.drop 1:=⟨_,rfl⟩;have hLl:L.length≤255:=by rw[hL,List.length_drop];have:=zuW hs2;omega
  refine zi (d:=58) (y:=L) rfl (by rw[hL];rfl) ?_;refine A0 (zN rfl rfl zgX) ?_;refine qaH ?_;refine Lp (ι:=Nat) 10 (fun j=>(((((((Fr.none.set 0 (.ptr 2 0)).set 9 (.ptr 8 0)).set 34 (.val (sl (sl u8T)) R)).set 35 (.val i64T (R.length:Int))).set 36 (.val i64T (i:Int))).set 58 (.val (sl (sl u8T)) L)).set 59 (.val i64T (L.length:Int))).set 60 (.val i64T (j:Int))) (fun j=>((((((Hp.none.set 1 (.box 27 zP zb3)).set 2 (.parts 110 [.val i64T (b0.toNat:Int),.val i64T (b1.toNat:Int),.own 6])).set 3 (.parts 108 [.ptr 2 0])).set 6 (.row 72 zba ((R.take i).map zc9))).set 5 (.objAt bD (.cells #[.bool false] 4 (0,0)))).set 8 (.parts 72 [.val zbU (zlS x),.own 9])).set 9 (.row 49 idT (L.take j))) (fun j=>j≤L.length∧∀y∈L.take j,y.length=32) (fun j=>L.length-j) (0) (⟨uf _,fun x hx=>by simp at hx⟩) ?_;intro j hj;refine qar ?_;refine Cf (p:=j<L.length) (fun ht61=>?_) (fun ht61=>?_)
  ·
   obtain⟨y,hy⟩:∃y,L[j]?=some y:=⟨_,ub ht61⟩;refine CSQBQR ?_;refine A0 (zV (i:=j) rfl rfl rfl ya zdL yj) ?_;refine A0 (zf rfl rfl zcx) ?_;refine qcx ?_;refine qbE ?_;refine A0 zaH ?_;refine zbb (zbW (decide ((y.length:Int)=32))) rfl zdg rfl yd (fun hm4=>?_) (fun hm4=>?_)
   ·
    have hno:=zqp hrm (pno_id (hL▸ud hy) hm4);refine qbi ?_;refine Ct ?_;refine CQR ?_;refine xy ?_;refine qas ?_;refine qae ?_;exact zp rfl rfl (zs rfl rfl zaD ((zgU hno).symm)) (zQ (za rfl (hno.symm)))
   refine A0 (oCl ((zbW (decide ((y.length:Int)=32))).1 hm4) rfl zdg yd) ?_;refine CN ?_;refine zA [some 1,some 1,some 1,some 1,some 1,some 1,none,some 1,none] mixed yc ?_;refine X0 (oFp zbz) ?_;refine X0 (zO rfl rfl rfl rfl rfl zcc) ?_;refine X0 mX ?_;refine X0 (g_s2a (T:=u8T) (n:=32) 5 yr rfl rfl yo (by have:=of_decide_eq_true hm4;omega)) ?_;refine X0 (zf rfl rfl z6) ?_;refine X0 (zL (T:=idT) (xs:=[_]) rfl zdD zfU yE rfl rfl) ?_;refine XK.e (fun fr' hfr kk H=>by exact zC rfl rfl rfl rfl ((hfr 69 yc).trans rfl) rfl ((hfr 73 yc).trans rfl) zfU (by simp[um];omega) (zt H)) ?_;refine X0 (oFp zbz) ?_;refine XK.e (x:=.idk) (fun fr' hfr kk H=>by exact zap rfl rfl rfl ((hfr 75 yc).trans rfl) rfl rfl ((hfr 74 yc).trans rfl) rfl rfl rfl zcc (zt H)) ?_;refine qbj ?_;refine zaz 10 9 11 rfl rfl rfl rfl rfl rfl ?_;refine zj (n:=9) (y:=L.take (j+1)) rfl (by rw[un,hy];rfl) ?_;exact Nx (j+1) (⟨by omega,fun z hz=>by rw[un,hy] at hz;rcases List.mem_append.1 hz with h|h;exact hj.2 z h;simp at h;rw[h];have:=of_decide_eq_true hm4;omega⟩) ya
  refine CE ?_;have hLj:L.take j=L:=uc ya;have hpy:=part_yes hs2 hx hm3 (by rw[←hL,←hLj];exact hj.2);refine zj (n:=9) (y:=L) rfl (by rw[hLj]) ?_;refine zmn 8 9 [.val zbU (zlS x)] (z:=(⟨zlS x,L⟩:Part)) (R:=zba) rfl rfl rfl join_part ?_;refine zF (n:=8) (y:=(⟨zlS x,(zW r).1.drop 1⟩:Part)) rfl (by rw[hL]) ?_;refine zA [some 1000001,some 1,some 1,some 1,some 1,some 1,some 1,some 1,none,some 1,some 1,some 1,none] mixed yc ?_;refine XK.ga (fun _=>g_mp (.inl rfl) rfl) rfl rfl rfl ?_;refine X0 mP ?_;refine xk ?_;refine X0 (oFp zdz) ?_;refine X0 (oFp zag) ?_;refine X0 (zO rfl rfl rfl rfl rfl zci) ?_;refine X0 (oLs rfl rfl rfl zeW) ?_;refine X0 (zL (T:=zba) (xs:=[_]) rfl zdV zo2 yE rfl rfl) ?_;refine XK.e (fun fr' hfr kk H=>by exact zC rfl rfl rfl rfl ((hfr 82 yc).trans rfl) rfl ((hfr 84 yc).trans rfl) zo2 (by simp[um];omega) (zt H)) ?_;refine xk ?_;refine X0 (oFp zdz) ?_;refine X0 (oFp zag) ?_;refine XK.e (x:=.idk) (fun fr' hfr kk H=>by exact zap rfl rfl rfl ((hfr 88 yc).trans rfl) rfl rfl ((hfr 85 yc).trans rfl) rfl rfl rfl zci (zt H)) ?_;refine qbj ?_;refine zaz 10 6 11 rfl rfl rfl rfl rfl rfl ?_;refine zj (n:=6) (y:=(R.take (i+1)).map zc9) rfl (by rw[un,hr,List.map_append,hpy.2];rfl) ?_;exact Nx (i+1) (⟨by omega,fun y hy=>by rw[un,hr] at hy;rcases List.mem_append.1 hy with h|h;exact hi.2 y h;simp at h;rw[h];exact hpy.1⟩) ya
 refine CE ?_;have hRi:R.take i=R:=uc ya;refine zj (n:=6) (y:=(zW (b.drop 2)).1.map zc9) rfl (by rw[hRi,hR]) ?_;refine zmn 2 6 [.val i64T (b0.toNat:Int),.val i64T (b1.toNat:Int)] (z:=(⟨(b0.toNat:Int),(b1.toNat:Int),(zW (b.drop 2)).1.map zc9⟩:Proof)) (R:=zP) rfl rfl rfl zkP ?_;refine zF (n:=2) (y:=zjJ b) rfl (readP_is hb0 hb1) ?_;refine CR ?_;refine A0 mP ?_;refine zbb (zjO (zjJ b)) rfl zvT rfl ybO (fun hs3=>?_) (fun hs3=>?_)
 ·
  have hno:=no_size hs3;refine qbi ?_;refine Ct ?_;refine CQR ?_;refine xy ?_;refine qas ?_;refine qae ?_;exact zp rfl rfl (zs rfl rfl zaD ((zgU hno).symm)) (zQ (za rfl (hno.symm)))
 refine A0 (oCl ((zjO (zjJ b)).1 hs3) rfl zvT ybO) ?_;have hok:=yes_read hm1 hs1 (fun r hr=>hi.2 r (by rw[hRi,hR];exact hr)) hs3;refine CN ?_;refine zia rfl ?_;refine CN ?_;refine zia rfl ?_;refine CNQR ?_;refine zpI rfl rfl rfl rfl rfl ty_4 rfl ?_;refine CN ?_;refine zpK zf1 rfl rfl rfl ty_4 ?_;refine qb3 ?_;refine Cg ?_;refine CSQR ?_;refine A0 yaK ?_;refine qco ?_;refine A0 (oFp zdz) ?_;refine qaU ?_;refine qas ?_;refine qae ?_;exact zp rfl rfl (zs rfl rfl zaD ((zmZ hok).symm)) (zQ (za rfl (hok.symm)))
set_option maxRecDepth 20000
theorem easy_pw:PW zdG:=by
  intro x hx;have hx:x=⟨zh3,[]⟩∨x=⟨zbm.h,[id0]⟩:=by simpa [zdG] using hx
  rcases hx with rfl|rfl
  · exact⟨by refine⟨?_,?_,?_,?_,?_⟩<;>kernel_rfl,fun y hy=>by cases hy⟩
  refine⟨by refine⟨?_,?_,?_,?_,?_⟩<;>kernel_rfl,fun y hy=>?_⟩;rw[List.mem_singleton.1 hy];kernel_rfl
theorem zit:wOk zdG=true:=yo
theorem znK:(zja zdG).length=399:=by
  unfold zja;rw[ut zit,put_len easy_pw zit];rfl
theorem ziu:zbs (zja zdG)=true∧zjJ (zja zdG)=zdG:=by
  unfold zja;rw[ut zit];exact proof_back easy_pw zit
def many (v:List Int) (n:Nat):Nat:=(v.filter fun x=>decide ((n:Int)≤x)).length
def zmQ (v:List Int) (m:Int):Nat→Int
  | 0=>(many v 0:Int)
  | n+1=>if m≤(many v n:Int) then max (zmQ v m n) ((many v n:Int)*2^n) else zmQ v m n
def zp1 (v:List Int) (m:Int):Int:=if 100<v.length then 0 else zmQ v m 32
def cntK (v:List Int) (k:Int):List Int:=(List.range 32).map fun j=>(many v j:Int)+if (j:Int)<k then 1 else 0
def zl2 (v:List Int):List Int:=(List.range 32).map fun j=>(many v j:Int)
theorem many_le (v:List Int) (n:Nat):many v n≤v.length:=List.length_filter_le _ _
theorem many_snoc {v:List Int} {i:Nat} {x:Int} (h:v[i]?=some x) (n:Nat):(many (v.take (i+1)) n:Int)=(many (v.take i) n:Int)+if (n:Int)≤x then 1 else 0:=by
  unfold many;rw[un,h];simp only[Option.toList_some,List.filter_append,ue];by_cases c:(n:Int)≤x<;>simp[c]
theorem cnt_nil:zl2 []=List.replicate 32 0:=yr
theorem cnt_at (v:List Int) {n:Nat} (h:n<32):(zl2 v)[n]?=some (many v n:Int):=by
  unfold zl2;rw[List.getElem?_map,List.getElem?_range h];rfl
theorem zqX (v:List Int) (k:Int) {n:Nat} (h:n<32):(cntK v k)[n]?=some ((many v n:Int)+if (n:Int)<k then 1 else 0):=by
  unfold cntK;rw[List.getElem?_map,List.getElem?_range h];rfl
theorem cntK_zero (v:List Int) {k:Int} (h:k≤0):cntK v k=zl2 v:=by
  unfold cntK zl2;apply List.map_congr_left;intro j hj;rw[ur ya];simp
theorem zjm (v:List Int) (k:Int):(cntK v k).length=32:=by unfold cntK;simp
theorem cntK_step (v:List Int) {k:Nat} (h:k<32):(cntK v k).set k ((many v k:Int)+1)=cntK v ((k+1:Nat):Int):=by
  apply List.ext_getElem?;intro j;by_cases hj:j<32
  · by_cases e:k=j
    · subst e
      rw[List.getElem?_set_self (by rw[zjm];exact h),zqX _ _ h,ut ya]
    rw[List.getElem?_set_ne e,zqX _ _ hj,zqX _ _ hj];congr 2;by_cases c:(j:Int)<k
    · rw[ut c,ut ya]
    rw[ur c,ur ya]
  rw[List.getElem?_eq_none (by simp[zjm];omega),List.getElem?_eq_none (by simp[zjm];omega)]
theorem cntK_end {v:List Int} {i k:Nat} {x:Int} (hx:v[i]?=some x) (h1:(k:Int)≤max (min x 31+1) 0) (h2:¬(k:Int)<min x 31+1):cntK (v.take i) k=zl2 (v.take (i+1)):=by
  unfold cntK zl2;apply List.map_congr_left;intro j hj;rw[List.mem_range] at hj;rw[many_snoc hx];congr 1;by_cases c:(j:Int)<k
  · rw[ut c,ut ya]
  rw[ur c,ur ya]
theorem two_pow_le {n:Nat} (h:n<32):(2:Int)^n≤2147483648∧1≤(2:Int)^n:=by
  have h1:(2:Nat)^n≤2^31:=Nat.pow_le_pow_right yr ya;have h2:1≤(2:Nat)^n:=Nat.one_le_two_pow;have e:((2^n:Nat):Int)=(2:Int)^n:=yA;rw[←e];have h3:(2:Nat)^31=2147483648:=yr;omega
theorem shl_many {a n:Nat} (h:n<32) (ha:a≤100):IntKind.i64.wrap ((a:Int)*2^(min (IntL.toI i64T (n:Int)).toNat 64))=(a:Int)*2^n:=by
  have e:min (IntL.toI i64T (n:Int)).toNat 64=n:=by show min ((n:Int)).toNat 64=n;omega
  rw[e];have ⟨h1,h2⟩:=two_pow_le h;have h3:(a:Int)*2^n≤100*2147483648:=by
    have ha':(a:Int)≤100:=ya;exact Int.mul_le_mul ha' h1 ya yr
  have h4:0≤(a:Int)*2^n:=Int.mul_nonneg ya ya;exact zas ya
def zen (a b:List Ab.Id):Nat→Int×Int
  | 0=>(-1,-1)
  | i+1=>if idx (fun x=>decide (a.getD i zId=x)) b = -1 then zen a b i else ((i:Int),idx (fun x=>decide (a.getD i zId=x)) b)
def zcP (p q:Proof):Int×Int:=zen (idsP p) (idsP q) (idsP p).length
theorem common_go {a b:List Ab.Id} {k:Nat} {x:Ab.Id} (h0:0<k) (hx:a[k-1]?=some x) (h:idx (fun y=>decide (x=y)) b = -1):zen a b k=zen a b (k-1):=by
  obtain⟨j,rfl⟩:∃j,k=j+1:=⟨k-1,by omega⟩;have e:a.getD j zId=x:=by simp at hx;simp[hx]
  show(if _ then _ else _)=_;rw[e,ut h];rfl
theorem znR {a b:List Ab.Id} {k:Nat} {x:Ab.Id} (h0:0<k) (hx:a[k-1]?=some x) (h:¬idx (fun y=>decide (x=y)) b = -1):zen a b k=((k:Int)-1,idx (fun y=>decide (x=y)) b):=by
  obtain⟨j,rfl⟩:∃j,k=j+1:=⟨k-1,by omega⟩;have e:a.getD j zId=x:=by simp at hx;simp[hx]
  show(if _ then _ else _)=_;rw[e,ur h];congr 1;simp
theorem idx_ltL {α:Type} (p:α→Bool):∀l:List α,idx p l<l.length
  | []=>by simp[idx]
  | x::l=>by
    have:=idx_ltL p l
    unfold idx;rw[List.length_cons]
    split
    · omega
    split<;>omega
theorem zkh (a b:List Ab.Id):∀i,-1≤(zen a b i).1∧(zen a b i).1<i∧-1≤(zen a b i).2∧(zen a b i).2<b.length∨zen a b i=(-1,-1)
  | 0=>.inr rfl
  | i+1=>by
    unfold zen
    split
    · rcases zkh a b i with h|h
      · exact .inl ⟨h.1,by omega,h.2.2.1,h.2.2.2⟩
      exact .inr h
    have h1:=zlu (fun x=>decide (a.getD i zId=x)) b;have h2:=idx_ltL (fun x=>decide (a.getD i zId=x)) b;exact .inl ⟨by show(-1:Int)≤i;omega,by show(i:Int)<((i+1:Nat):Int);omega,h1,h2⟩
theorem zs0 (p q:Proof):(-1≤(zcP p q).1∧(zcP p q).1<p.p.length)∧-1≤(zcP p q).2∧(zcP p q).2<q.p.length:=by
  have e1:(idsP p).length=p.p.length:=by unfold idsP;simp
  have e2:(idsP q).length=q.p.length:=by unfold idsP;simp
  rcases zkh (idsP p) (idsP q) (idsP p).length with h|h
  · rw[e1,e2] at h
    unfold zcP;rw[e1];exact⟨⟨h.1,h.2.1⟩,h.2.2.1,h.2.2.2⟩
  unfold zcP;rw[h];exact⟨⟨by decide,by show(-1:Int)<_;omega⟩,by decide,by show(-1:Int)<_;omega⟩
def zfw (p:Proof):Prop:=p.p.length≤110∧∀x∈p.p,x.l.length≤40
def zhg (x:PPair):Int:=if ¬zK x.p=0 then zK x.p else zK x.q
def zhl (x:PPair):Int :=
  if ¬x.p.m=x.q.m∨¬x.p.k=x.q.k then 1 else if ¬(yAt x.p 0).h=(yAt x.q 0).h∧¬za5 (yAt x.p 0).h=za5 (yAt x.q 0).h then 12 else 0
def zeq (p q:Proof):Int:=if ¬zhg ⟨p,q⟩=0 then zhg ⟨p,q⟩ else zhl ⟨p,q⟩
def ztw (p:Proof) (i:Int):Int:=zp1 ((znk p).drop (i+1).toNat) p.m
def zc1 (p q:Proof):Bool:=decide (zeq p q=0)&&decide (ztw p (zcP p q).1<ztw q (zcP p q).2)
def zaq (p q:Proof):Proof×Int :=
  if ¬zK p=0∧zK q=0 then (q,0) else if ¬zK p=0∨¬zK q=0 then (p,zK p) else if zc1 p q=true then (q,0) else (p,zeq p q)
def zvM (l:List Proof):Proof×Int :=
  match l with
  | []=>(zb3,9)
  | p::l=>(l.foldl (fun o q=>(zaq o q).1) p,zK (l.foldl (fun o q=>(zaq o q).1) p))
theorem zsF {p:Proof} (h:zK p=0):0<p.p.length:=by
  have h:=zlC.1 h
  have:=h.k1
  have:=h.l1
  omega
theorem zpl {x:PPair} (h:zhg x=0):zK x.p=0∧zK x.q=0:=by
  unfold zhg at h
  split at h
  · rename_i c;exact absurd h c
  rename_i c;exact⟨ua c,h⟩
theorem zpa {p q:Proof} (hp:zfw p) (hq:zfw q):zfw (zaq p q).1:=by
  unfold zaq
  split
  · exact hq
  split
  · exact hp
  split
  · exact hq
  exact hp
theorem fold_small {l:List Proof} (hl:∀p∈l,zfw p):∀{o:Proof},zfw o→zfw (l.foldl (fun o q=>(zaq o q).1) o):=by
  induction l with
  | nil=>exact fun h=>h
  | cons q l ih=>exact fun h=>ih (fun p hp=>hl p (List.mem_cons_of_mem _ hp)) (zpa h (hl q (List.mem_cons_self ..)))
theorem zpY {α:Type} {l:List α} {i:Nat} {x:α} (h:l[i]?=some x):l.set i x=l:=by
  apply List.ext_getElem?;intro j;by_cases e:i=j
  · subst e
    rw[List.getElem?_set_self (ul.1 h).1,h]
  rw[List.getElem?_set_ne e]
theorem ze_204:zaw P 204 (arrT 2 yr zP) (List.replicate 2 zb3):=zU (zey yr zea) yo
theorem zua {p:Proof} (h:zoM p=true):zfw p:=⟨fewPr_len h,fun _ hx=>zub h hx⟩
theorem znX (l:List Part) (hl:l.length*208≤140737488355328∧l.length≤9223372036854775807):Tells P 107 [.val (bsl zba) l] (.fresh 72 zba l):=by
 refine zd Tryz.func107 rfl rfl rfl (fun ext w hext=>?_);refine ze (d:=0) rfl zm (fun hsl0=>?_);refine qa9 ?_;refine qbx ?_;refine zfk rfl rfl rfl rfl rfl zb5 (fun c4 hc4=>?_);refine CN ?_;refine zn (p:=c4=true) rfl yA (fun ht4=>?_) (fun ht4=>?_)
 ·
  obtain rfl:=hc4 ht4;refine qa9 ?_;refine CN ?_;exact zb rfl rfl (zx rfl)
 refine CSQR ?_;refine zb9 (T:=zba) (xs:=[]) rfl rfl rfl rfl zdV zo2 trivial rfl rfl ?_;refine qa7 ?_;refine zC rfl rfl rfl rfl rfl rfl rfl zo2 yaF ?_;refine qbJ ?_;exact zb rfl rfl (zh rfl rfl yA)
theorem score_ok (v:List Int) (m:Int):Tells P 64 [.val (bsl i64T) v,.val i64T m] (.val i64T (zp1 v m)):=by
 refine zd Tryz.func64 rfl rfl rfl (fun ext w hext=>?_);refine ze (d:=0) rfl zm (fun hsl0=>?_);refine ze (d:=1) rfl zu (fun hin1=>?_);refine qcQ ?_;refine qb5 ?_;refine qcL ?_;refine Cf (p:=100<v.length) (fun ht14=>?_) (fun ht14=>?_)
 ·
  refine qa3 ?_;exact zb rfl rfl (za rfl (by unfold zp1;rw[ut ht14]))
 refine CSQR ?_;refine zq ze_209 rfl rfl rfl rfl ?_;refine qbx ?_;refine qb5 ?_;refine qaH ?_;refine zF (n:=0) (y:=zl2 (v.take 0)) rfl (by rw[List.take_zero,cnt_nil]) ?_;refine Lp (ι:=Nat) 1 (fun (i:Nat)=>(((((Fr.none).set 1 (.val i64T m)).set 5 (.ptr 0 0)).set 15 (.val (bsl i64T) v)).set 16 (.val i64T (v.length:Int))).set 17 (.val i64T (i:Int))) (fun (i:Nat)=>(Hp.none).set 0 (.box 209 (arrT 32 yr i64T) (zl2 (v.take i)))) (fun (i:Nat)=>i≤v.length) (fun (i:Nat)=>v.length-i) (0) (uf _) ?_;intro i hinv;refine qar ?_;refine Cf (p:=i<v.length) (fun ht18=>?_) (fun ht18=>?_)
 ·
  obtain⟨x,hx⟩:∃x,v[i]?=some x:=⟨_,ub ht18⟩;refine CSQBQR ?_;refine qcc ?_;refine ze (d:=20) rfl zu (fun hxr=>?_);refine qcx ?_;refine A0 (g_min rfl rfl rfl) ?_;refine A0 zdl ?_;refine qaH ?_;refine zF (n:=0) (y:=cntK (v.take i) ((0:Nat):Int)) rfl (cntK_zero _ yA).symm ?_;refine Lp (ι:=Nat) 1 (fun (k:Nat)=>(((((((Fr.none).set 1 (.val i64T m)).set 5 (.ptr 0 0)).set 15 (.val (bsl i64T) v)).set 16 (.val i64T (v.length:Int))).set 17 (.val i64T (i:Int))).set 23 (.val i64T (min x 31+1))).set 24 (.val i64T (k:Int))) (fun (k:Nat)=>(Hp.none).set 0 (.box 209 (arrT 32 yr i64T) (cntK (v.take i) k))) (fun (k:Nat)=>(k:Int)≤max (min x 31+1) 0) (fun (k:Nat)=>33-k) (0) yK ?_;intro k hk;refine qar ?_;refine Cf (p:=(k:Int)<min x 31+1) (fun ht25=>?_) (fun ht25=>?_)
  ·
   have hg:(cntK (v.take i) k).getD k default=(many (v.take i) k:Int):=by rw[uq,zqX _ _ ya,ur ya];simp
   have hml:=many_le (v.take i) k;have hml2:(v.take i).length≤100:=by rw[um];omega
   refine qaR ?_;refine qc3 ?_;refine qa7 ?_;refine A0 (zD (i:=k) rfl rfl rfl yp zwp ya) ?_;refine A0 (zr rfl rfl rfl (Lens.elem (i:=k) ya i64T) ty_3) ?_;refine A0 (zlZ rfl rfl rfl (show _=((many (v.take i) k:Int)+1:Int) from by rw[hg];exact zas ya)) ?_;refine A0 (zD (i:=k) rfl rfl rfl yp zwp ya) ?_;refine zg rfl rfl rfl rfl rfl (Lens.elem (i:=k) ya i64T) ty_3 rfl ?_;refine qbt ?_;refine zF (n:=0) (y:=cntK (v.take i) ((k+1:Nat):Int)) rfl (cntK_step _ ya) ?_;exact Nx (k+1) ya ya
  refine CE ?_;refine CI ?_;refine CR ?_;refine qan ?_;refine zF (n:=0) (y:=zl2 (v.take (i+1))) rfl (cntK_end hx hk ht25) ?_;exact Nx (i+1) ya ya
 refine zF (n:=0) (y:=zl2 v) rfl yT ?_;refine CE ?_;refine CQR ?_;refine A0 (zD (i:=0) rfl rfl rfl yp zwp ya) ?_;refine A0 (zr rfl rfl rfl (Lens.elem (i:=0) ya i64T) ty_3) ?_;refine zi (d:=35) (y:=zmQ v m 0) rfl (by rw[uq,cnt_at v yr];rfl) ?_;refine qbO ?_;refine A0 (oLs rfl rfl rfl ty_209) ?_;refine qaH ?_;refine Lp (ι:=Nat) 1 (fun n=>(((Fr.none.set 1 (.val i64T m)).set 9 (.val i64T (zmQ v m n))).set 36 (.val (arrT 32 yr i64T) (zl2 v))).set 37 (.val i64T (n:Int))) (fun n=>Hp.none) (fun n=>n≤32) (fun n=>32-n) (0) (uf _) ?_;intro n hn;refine qar ?_;refine Cf (p:=n<32) (fun ht38=>?_) (fun ht38=>?_)
 ·
  have hc:=cnt_at v ht38;have hml:=many_le v n;refine qaR ?_;refine A0 (zhU rfl rfl rfl rfl zwp ty_3 yj) ?_;refine A0 aV ?_;refine qbv ?_;refine qcs ?_;refine Cf (p:=m≤(many v n:Int)) (fun ht43=>?_) (fun ht43=>?_)
  ·
   refine CR ?_;refine qav ?_;refine qa7 ?_;refine A0 (g_shlI rfl rfl rfl ya6 (shl_many (a:=many v n) ht38 ya)) ?_;refine A0 (g_max rfl rfl rfl) ?_;refine A0 aV ?_;refine qbt ?_;refine zi (d:=9) (y:=zmQ v m (n+1)) rfl (ut ht43).symm ?_;exact Nx (n+1) ya ya
  refine qbq ?_;refine zi (d:=9) (y:=zmQ v m (n+1)) rfl (ur ht43).symm ?_;exact Nx (n+1) ya ya
 refine CE ?_;refine qb4 ?_;exact zb rfl rfl (za rfl (by unfold zp1;rw[ur ht14,show n=32 by omega]))
theorem common_ok (p q:Proof) (hp:p.p.length≤110) (hq:q.p.length≤110):Tells P 62 [.val zP p,.val zP q] (.tup2 (.val i64T (zcP p q).1) (.val i64T (zcP p q).2)):=by
 have hia:=zB (zsD p ya);have hib:=zB (zsD q ya);obtain⟨A,hA⟩:∃A,A=idsP p:=⟨_,rfl⟩;obtain⟨B,hB⟩:∃B,B=idsP q:=⟨_,rfl⟩;have hcm:zcP p q=zen A B A.length:=by rw[hA,hB];rfl
 have hal:A.length≤110:=by rw[hA];unfold idsP;simpa using hp
 rw[←hA] at hia;rw[←hB] at hib;refine zd Tryz.func62 rfl rfl rfl (fun ext w hext=>?_);refine qaA ?_;refine zq ze_3 rfl rfl rfl rfl ?_;refine zq ze_3 rfl rfl rfl rfl ?_;refine CNQR ?_;refine qaU ?_;refine A0 (oCl (hib) rfl fn_22 yd) ?_;refine zq ze_56 rfl rfl rfl rfl ?_;refine zg rfl rfl rfl rfl rfl (Lens.self _) zcc rfl ?_;refine CNQQR ?_;refine qaU ?_;refine A0 (oCl (hia) rfl fn_22 yd) ?_;refine zR rfl rfl rfl rfl Tryz.func121 fn_121 rfl rfl (fun ia1 iok1=>?_);refine qah ?_;refine qbY ?_;refine CNB ?_;refine ziA rfl rfl rfl Tryz.func186 fn_186 rfl rfl yO (fun fid2 ca2 lN2 DN2 cok2 rc2 hrc2=>?_);refine CQR ?_;refine A0 (oLs rfl rfl rfl zcc) ?_;refine qcf ?_;refine A0 zbT ?_;refine qcq ?_;refine Lp (ι:=Nat) 8 (fun (k:Nat)=>(((Fr.none).set 0 (.lit (.func (.yield lN2) #[] #[]))).set 1 (.ptr 5 0)).set 3 (.val i64T ((k:Int)-1))) (fun (k:Nat)=>((((((Hp.none).set 2 (.box 3 i64T 0)).set 3 (.box 3 i64T 0)).set 4 (.box 56 (sl idT) B)).set 5 (.box 56 (sl idT) A)).set 6 (.objAt DN2 (.deferred (some [])))).set 7 (.objAt lN2 (rc2 .ready none))) (fun (k:Nat)=>k≤A.length∧zcP p q=zen A B k) (fun (k:Nat)=>k) (A.length) (⟨ug _,hcm⟩) ?_;intro k hinv;refine qbQ ?_;refine qcs ?_;refine Cf (p:=0<k) (fun ht8=>?_) (fun ht8=>?_)
 ·
  obtain⟨a,ha⟩:∃a,A[k-1]?=some a:=yB;refine CSQBQR ?_;refine A0 mL ?_;refine qa7 ?_;refine A0 (oLs rfl rfl rfl zcc) ?_;refine qa7 ?_;refine A0 (zV (i:=k-1) rfl rfl rfl ya zdD yj) ?_;refine A0 (zf rfl rfl z6) ?_;refine ziz (nL:=7) rfl rfl rfl rfl rfl hrc2 rfl rfl rfl (fun ya3 yok3=>?_);refine CQR ?_;refine qc3 ?_;refine qaX ?_;refine qa5 ?_;refine CN ?_;refine ziC (nL:=7) hrc2 rfl ?_;refine CB ?_;refine CQR ?_;refine A0 (oLs rfl rfl rfl zcc) ?_;refine qbG ?_;refine A0 (oCl (indexId B a) rfl fn_122 ye) ?_;refine qaL ?_;refine qbk ?_;refine zn (p:=¬idx (fun y=>decide (a=y)) B = -1) rfl yw (fun ht21=>?_) (fun ht21=>?_)
  ·
   refine CQR ?_;refine qav ?_;refine qcB ?_;refine qcB ?_;refine CN ?_;refine zlE (nL:=7) hrc2 rfl ?_;refine qb3 ?_;refine Ct ?_;refine zha (nL:=7) rfl hrc2 rfl yr ?_;refine zay (zcn (nD:=6) rfl rfl rfl ?_);exact zko rfl rfl (zs rfl rfl ty_3 (by rw[hinv.2,znR ht8 ha ht21])) (zs rfl rfl ty_3 (by rw[hinv.2,znR ht8 ha ht21]))
  refine CS ?_;refine CI ?_;refine zdS (nL:=7) hrc2 rfl ?_;refine qb3 ?_;refine Cg ?_;refine CSIR ?_;refine qcO ?_;refine qae ?_;refine zi (d:=3) (y:=((k-1:Nat):Int)-1) rfl ya ?_;exact Nx (k-1) (⟨by omega,by rw[hinv.2];exact common_go ht8 ha (ua ht21)⟩) ya
 refine CE ?_;refine zeQ (nL:=7) rfl hrc2 rfl yr ?_;refine CI ?_;refine CQR ?_;refine qcB ?_;refine qcB ?_;refine CN ?_;refine zay (zcn (nD:=6) rfl rfl rfl ?_);exact zko rfl rfl (zs rfl rfl ty_3 (by rw[hinv.2,show k=0 by omega];rfl)) (zs rfl rfl ty_3 (by rw[hinv.2,show k=0 by omega];rfl))
theorem zkJ (p:Proof) (hp:zfw p):Tells P 86 [.val zP p] (.val zP p):=by
 have hpl:=hp.1;refine zd Tryz.func86 rfl rfl rfl (fun ext w hext=>?_);refine qah ?_;refine qbC ?_;refine CN ?_;refine zfM 0 (x:=p) (zrH p) rfl ?_;refine CQR ?_;refine A0 (oFp zag) ?_;refine A0 (zO rfl rfl rfl rfl rfl zci) ?_;refine zaQ (znX p.p y6) rfl fn_107 yd rfl rfl rfl ?_;refine A0 (oFp zag) ?_;refine zap rfl rfl rfl rfl rfl rfl rfl rfl rfl rfl zci ?_;refine CNQQR ?_;refine qcK ?_;refine Lp (ι:=Nat) 3 (fun i=>((((Fr.none.set 1 (.ptr 0 0)).set 2 (.ptr 1 0)).set 10 (.own 2)).set 11 (.val i64T (p.p.length:Int))).set 12 (.val i64T (i:Int))) (fun i=>((Hp.none.set 0 (.parts 27 [.val i64T p.m,.val i64T p.k,.own 2])).set 1 (.box 27 zP zb3)).set 2 (.row 72 zba p.p)) (fun i=>i≤p.p.length) (fun i=>p.p.length-i) (0) (uf _) ?_;intro i hinv;refine qar ?_;refine Cf (p:=i<p.p.length) (fun ht13=>?_) (fun ht13=>?_)
 ·
  obtain⟨x,hx⟩:∃x,p.p[i]?=some x:=⟨_,ub ht13⟩;refine qaR ?_;refine A0 (zb8 (i:=i) rfl rfl rfl rfl yp zdV yg) ?_;refine qbF ?_;refine zA [some 1,some 1,some 1,some 1,some 1,some 1,some 1,some 1,none] mixed yc ?_;refine qcp ?_;refine X0 (oCl (zB (zh4 x.l (by have:=hp.2 x (ud hx);constructor<;>omega))) rfl zsN yd) ?_;refine X0 (zb8 (i:=i) rfl rfl rfl rfl yp zdV yg) ?_;refine X0 (znw rfl rfl zbz rfl) ?_;refine XK.e (x:=.idk) (fun fr' hfr kk H=>by exact zdc rfl rfl rfl ((hfr 24 yc).trans rfl) rfl rfl yj zbC zcc ((hfr 22 yc).trans rfl) (zt H)) ?_;refine qbj ?_;refine zj (n:=2) (y:=p.p) rfl (zpY hx) ?_;exact Nx (i+1) ya ya
 refine CE ?_;refine CQ ?_;refine zmn 0 2 [.val i64T p.m,.val i64T p.k] (z:=p) (R:=zP) rfl rfl rfl zkP ?_;refine CR ?_;refine qaU ?_;refine qas ?_;refine CN ?_;exact z7 rfl rfl rfl rfl zaD (rfl)
theorem holdsE_ok (x:PPair):Tells P 60 [.val zjR x] (.val i64T (zhg x)):=by
 refine zd Tryz.func60 rfl rfl rfl (fun ext w hext=>?_);refine qah ?_;refine qbO ?_;refine A0 (oFp zis) ?_;refine A0 (oLb zgL zaD) ?_;refine A0 (oFp zir) ?_;refine A0 (oLb zgK zaD) ?_;refine A0 (zil (T:=zP) (xs:=[_,_]) rfl ar_204 ze_204 yao rfl) ?_;refine qaH ?_;refine Lp (ι:=Nat) 1 (fun (k:Nat)=>((Fr.none).set 10 (.val (arrT 2 yr zP) [x.p,x.q])).set 11 (.val i64T (k:Int))) (fun (k:Nat)=>Hp.none) (fun (k:Nat)=>k≤2∧(0<k→zK x.p=0)∧(1<k→zK x.q=0)) (fun (k:Nat)=>2-k) (0) (⟨by omega,fun h=>absurd h yr,fun h=>absurd h yr⟩) ?_;intro k hinv;refine qar ?_;refine Cf (p:=k<2) (fun ht12=>?_) (fun ht12=>?_)
 ·
  obtain⟨e,he⟩:∃e,[x.p,x.q][k]?=some e:=⟨_,ub (show k < [x.p,x.q].length from ht12)⟩;have hek:(k=0∧e=x.p)∨(k=1∧e=x.q):=yb9;rcases hek with ⟨hk,rfl⟩|⟨hk,rfl⟩
  ·
   refine CSQBQR ?_;refine A0 (zhU rfl rfl rfl rfl ar_204 zaD yj) ?_;refine qbC ?_;refine qas ?_;refine CNQR ?_;refine qaU ?_;refine A0 (oCl (zeO x.p) rfl zsR yd) ?_;refine qaL ?_;refine qbk ?_;refine zn (p:=¬zK x.p=0) rfl yw (fun ht17=>?_) (fun ht17=>?_)
   ·
    refine qb4 ?_;exact zb rfl rfl (za rfl (by unfold zhg;rw[ut ht17]))
   refine qbq ?_;exact Nx (k+1) yaS ya
  refine CSQBQR ?_;refine A0 (zhU rfl rfl rfl rfl ar_204 zaD yj) ?_;refine qbC ?_;refine qas ?_;refine CNQR ?_;refine qaU ?_;refine A0 (oCl (zeO x.q) rfl zsR yd) ?_;refine qaL ?_;refine qbk ?_;refine zn (p:=¬zK x.q=0) rfl yw (fun ht17=>?_) (fun ht17=>?_)
  ·
   refine qb4 ?_;exact zb rfl rfl (za rfl (by unfold zhg;rw[ur (fun h=>h (hinv.2.1 ya))]))
  refine qbq ?_;exact Nx (k+1) yaS ya
 refine qcM ?_;exact zb rfl rfl (za rfl (by unfold zhg;rw[ur (fun h=>h (hinv.2.1 ya)),hinv.2.2 ya]))
theorem alikeE_ok (x:PPair) (h1:0<x.p.p.length) (h2:0<x.q.p.length) (h3:x.p.p.length≤110) (h4:x.q.p.length≤110):Tells P 61 [.val zjR x] (.val i64T (zhl x)):=by
 have hy:=at_ x.p h1;have hz:=at_ x.q h2;have hiy:=zsE x.p h1;have hiz:=zsE x.q h2;refine zd Tryz.func61 rfl rfl rfl (fun ext w hext=>?_);refine qah ?_;refine qaQ ?_;refine CB ?_;refine CQQR ?_;refine A0 (oFp zis) ?_;refine A0 (oFp zcY) ?_;refine A0 (oLb (zgL.comp zcB) ty_3) ?_;refine A0 (oFp zir) ?_;refine A0 (oFp zcY) ?_;refine A0 (oLb (zgK.comp zcB) ty_3) ?_;refine A0 zcQ ?_;refine qae ?_;refine zn (p:=¬x.p.m=x.q.m) rfl yw (fun ht3=>?_) (fun ht3=>?_)
 ·
  refine CS ?_;refine zes rfl (by simpa [IntL.toI] using ht3) ?_;refine qa3 ?_;exact zb rfl rfl (za rfl (by unfold zhl;rw[ut (.inl yj)]))
 refine CR ?_;refine A0 (oFp zis) ?_;refine A0 (oFp zcI) ?_;refine A0 (oLb (zgL.comp zcp) ty_3) ?_;refine A0 (oFp zir) ?_;refine A0 (oFp zcI) ?_;refine A0 (oLb (zgK.comp zcp) ty_3) ?_;refine A0 zcQ ?_;refine qae ?_;refine zn (p:=¬x.p.k=x.q.k) rfl yw (fun ht3=>?_) (fun ht3=>?_)
 ·
  refine qa3 ?_;exact zb rfl rfl (za rfl (by unfold zhl;rw[ut (.inr yj)]))
 refine qb0 ?_;refine G0 (oFp zis) ?_;refine G0 (oFp zag) ?_;refine G0 (oLb (zgL.comp zao) zci) ?_;refine G0 (zV (i:=0) rfl rfl rfl ya zdV yj) ?_;refine G0 (oFr za7 zaV) ?_;refine G0 (zf rfl rfl zaX) ?_;refine G0 (oFp zir) ?_;refine G0 (oFp zag) ?_;refine G0 (oLb (zgK.comp zao) zci) ?_;refine G0 (zV (i:=0) rfl rfl rfl ya zdV yj) ?_;refine G0 (oFr za7 zaV) ?_;refine G0 (zf rfl rfl zaX) ?_;refine G0 (zgy rfl rfl rfl (zlz)) ?_;refine G0 mV ?_;refine zaG (d:=32) (p:=¬(yAt x.p 0).h=(yAt x.q 0).h) rfl yA (fun g32=>?_) (fun g32=>?_)
 ·
  refine G1 (oFp zis) ?_;refine G1 (oLb zgL zaD) ?_;refine G1 (oCl (zB (zsD x.p ya)) rfl fn_22 yd) ?_;refine qcj ?_;refine G1 (oFp zir) ?_;refine G1 (oLb zgK zaD) ?_;refine G1 (oCl (zB (zsD x.q ya)) rfl fn_22 yd) ?_;refine qcj ?_;refine G1 (zgy rfl rfl rfl (zh1)) ?_;refine G0 oK ?_;refine qbs ?_;refine zn (p:=¬za5 (yAt x.p 0).h=za5 (yAt x.q 0).h) rfl yA (fun ht18=>?_) (fun ht18=>?_)
  ·
   refine qa3 ?_;exact zb rfl rfl (za rfl (by unfold zhl;rw[ur (fun h=>by omega),ut ⟨g32,ht18⟩]))
  refine CS ?_;refine CI ?_;refine qa3 ?_;exact zb rfl rfl (za rfl (by unfold zhl;rw[ur (fun h=>by omega),ur (fun h=>ht18 h.2)]))
 refine qad ?_;refine qbn ?_;refine G2 ?_;refine G2 ?_;refine G0 oK ?_;refine qbs ?_;refine Cg ?_;refine CS ?_;refine CI ?_;refine qa3 ?_;exact zb rfl rfl (za rfl (by unfold zhl;rw[ur (fun h=>by omega),ur (fun h=>g32 h.1)]))
theorem zuJ (p:Proof) (i:Int) (hp:p.p.length≤110) (h1:-1≤i) (h2:i<p.p.length):Tells P 63 [.val zP p,.val i64T i] (.val i64T (ztw p i)):=by
 have hll:(znk p).length=p.p.length:=by unfold znk;simp
 refine zd Tryz.func63 rfl rfl rfl (fun ext w hext=>?_);refine ze (d:=1) rfl zu (fun hin1=>?_);refine qah ?_;refine qcv ?_;refine G0 (oLs rfl rfl rfl zaD) ?_;refine G0 (oCl (zB (levelsP_ok p ya)) rfl fn_65 yd) ?_;refine G0 mV ?_;refine G0 zdl ?_;refine G0 (zhh rfl rfl rfl zcj yg) ?_;refine G0 (oFp zcY) ?_;refine G0 (oLb zcB ty_3) ?_;refine G0 (oCl (score_ok ((znk p).drop (i+1).toNat) p.m) rfl fn_64 ye) ?_;refine qbs ?_;exact zb rfl rfl (za rfl (rfl))
theorem ztd (p q:Proof) (hp:p.p.length≤110) (hq:q.p.length≤110):Tells P 19 [.val zP p,.val zP q] (.tup2 (.val zl (zc1 p q)) (.val i64T (zeq p q))):=by
 obtain⟨x,hx⟩:∃x:PPair,x=⟨p,q⟩:=⟨_,rfl⟩;have hbd:=zs0 p q;refine zd Tryz.func19 rfl rfl rfl (fun ext w hext=>?_);refine qaA ?_;refine A0 aV ?_;refine qaj ?_;refine qaU ?_;refine qaU ?_;refine A0 (zy rfl ze_124 bd_124 (.cons zis zgL zaD rfl (.cons zir zgK zaD rfl .nil)) rfl) ?_;refine zq ze_124 rfl rfl rfl rfl ?_;refine zg rfl rfl rfl rfl rfl (Lens.self _) ty_124 rfl ?_;refine CNQ ?_;refine CQ ?_;refine zF (n:=2) (y:=x) rfl hx.symm ?_;refine CR ?_;refine A0 (oLs rfl rfl rfl ty_124) ?_;refine A0 (g_mkbv rfl rfl) ?_;refine A0 (oLs rfl rfl rfl ty_124) ?_;refine A0 (g_mkbv rfl rfl) ?_;refine A0 (zL (T:=(bndvT zjR)) (xs:=[_,_]) rfl sl_203 row_203 yao rfl rfl) ?_;refine zR rfl rfl rfl rfl Tryz.func59 fn_59 rfl rfl (fun ia1 iok1=>?_);refine qcQ ?_;refine A0 (zN rfl rfl isl_203) ?_;refine qaH ?_;refine Lp (ι:=Nat) 3 (fun (k:Nat)=>(((Fr.none).set 6 (.val (sl (bndvT zjR)) [(60,x),(61,x)])).set 7 (.val i64T 2)).set 8 (.val i64T (k:Int))) (fun (k:Nat)=>((Hp.none).set 0 (.box 27 zP p)).set 1 (.box 27 zP q)) (fun (k:Nat)=>k≤2∧(0<k→zhg x=0)∧(1<k→zhl x=0)) (fun (k:Nat)=>2-k) (0) (⟨by omega,fun h=>absurd h yr,fun h=>absurd h yr⟩) ?_;intro k hinv;refine qar ?_;refine Cf (p:=k<2) (fun ht9=>?_) (fun ht9=>?_)
 ·
  obtain⟨e,he⟩:∃e,[((60:Nat),x),(61,x)][k]?=some e:=⟨_,ub (show k<2 from ht9)⟩;have hek:(k=0∧e=(60,x))∨(k=1∧e=(61,x)):=yb9;rcases hek with ⟨hk,rfl⟩|⟨hk,rfl⟩
  ·
   refine CSQBQR ?_;refine A0 (zbu rfl rfl rfl sl_203 yj) ?_;refine A0 (zf rfl rfl ty_119) ?_;refine qcx ?_;refine A0 (zvI (holdsE_ok x) rfl rfl fn_60 rfl) ?_;refine qay ?_;refine zn (p:=¬zhg x=0) rfl yw (fun ht15=>?_) (fun ht15=>?_)
   ·
    refine qbX ?_;refine qbV ?_;refine zes rfl (by simpa [IntL.toI] using ht15) ?_;refine CQR ?_;refine A0 mX ?_;refine A0 aV ?_;refine qaT ?_;exact zac rfl rfl (za rfl (by unfold zc1 zeq;rw[←hx,ut ht15,uh ht15];rfl)) (za rfl (by unfold zeq;rw[←hx,ut ht15]))
   refine qbq ?_;exact Nx (k+1) yaT ya
  refine CSQBQR ?_;refine A0 (zbu rfl rfl rfl sl_203 yj) ?_;refine A0 (zf rfl rfl ty_119) ?_;refine qcx ?_;refine A0 (zvI (alikeE_ok x (by have:=zpl (hinv.2.1 ya);exact zsF this.1) (by have:=zpl (hinv.2.1 ya);exact zsF this.2) (by rw[hx];exact hp) (by rw[hx];exact hq)) rfl rfl fn_61 rfl) ?_;refine qay ?_;refine zn (p:=¬zhl x=0) rfl yw (fun ht15=>?_) (fun ht15=>?_)
  ·
   refine qbX ?_;refine qbV ?_;refine zes rfl (by simpa [IntL.toI] using ht15) ?_;refine CQR ?_;refine A0 mX ?_;refine A0 aV ?_;refine qaT ?_;exact zac rfl rfl (za rfl (by unfold zc1 zeq;rw[←hx,ur (fun h=>h (hinv.2.1 ya)),uh ht15];rfl)) (za rfl (by unfold zeq;rw[←hx,ur (fun h=>h (hinv.2.1 ya))]))
  refine qbq ?_;exact Nx (k+1) yaT ya
 refine qcM ?_;refine qbV ?_;refine Cg ?_;refine CSQR ?_;refine qaU ?_;refine qaU ?_;refine A0 (oCl (common_ok p q hp hq) rfl fn_62 ye) ?_;refine qaN ?_;refine A0 aV ?_;refine qaj ?_;refine A0 aC ?_;refine CNQ ?_;refine CD mixed ?_;refine G0 mC ?_;refine G0 (oLs rfl rfl rfl zaD) ?_;refine G0 mV ?_;refine G0 (ze0 (As:=[_,_]) (Cs:=[]) (zuJ q (zcP p q).2 hq hbd.2.1 hbd.2.2) rfl rfl fn_63 ye yF trivial rfl) ?_;refine G0 mC ?_;refine G0 (oLs rfl rfl rfl zaD) ?_;refine G0 mV ?_;refine G0 (ze0 (As:=[_,_]) (Cs:=[]) (zuJ p (zcP p q).1 hp hbd.1.1 hbd.1.2) rfl rfl fn_63 ye yF trivial rfl) ?_;refine G0 zbH ?_;refine G0 aV ?_;refine qbs ?_;exact zac rfl rfl (za rfl (by unfold zc1 zeq;rw[←hx,ur (fun h=>h (hinv.2.1 ya)),hinv.2.2 ya];simp[IntL.toI])) (za rfl (by unfold zeq;rw[←hx,ur (fun h=>h (hinv.2.1 ya)),hinv.2.2 ya]))
theorem pick_ok (p q:Proof) (hp:zfw p) (hq:zfw q):Tells P 87 [.val zP p,.val zP q] (.tup2 (.val zP (zaq p q).1) (.val i64T (zaq p q).2)):=by
 refine zd Tryz.func87 rfl rfl rfl (fun ext w hext=>?_);refine qaA ?_;refine qbC ?_;refine qcv ?_;refine G0 (oLs rfl rfl rfl zaD) ?_;refine G0 (oCl (zeO p) rfl zsR yd) ?_;refine G0 (oLs rfl rfl rfl zaD) ?_;refine G0 (oCl (zeO q) rfl zsR yd) ?_;refine G0 aV ?_;refine qbs ?_;refine CQ ?_;refine CB ?_;refine qaE ?_;refine A0 zcQ ?_;refine qa7 ?_;refine zo (d:=16) (p:=¬zK p=0) rfl yw (fun g16=>?_) (fun g16=>?_)
 ·
  refine qcV ?_;refine A1 zaH ?_;refine qa6 ?_;refine zn (p:=zK q=0) rfl yw (fun ht13=>?_) (fun ht13=>?_)
  ·
   refine CQR ?_;refine qaU ?_;refine A0 (oCl (zkJ q hq) rfl fn_86 yd) ?_;refine qas ?_;refine qae ?_;exact zp rfl rfl (zs rfl rfl zaD (by unfold zaq;rw[ut ⟨g16,ht13⟩])) (zQ (za rfl (by unfold zaq;rw[ut ⟨g16,ht13⟩])))
  refine qaE ?_;refine A0 zcQ ?_;refine qa7 ?_;refine zar (d:=25) rfl (by simpa [IntL.toI] using g16) ?_;refine qda ?_;refine Ct ?_;refine CQR ?_;refine qaU ?_;refine A0 (oCl (zkJ p hp) rfl fn_86 yd) ?_;refine qa7 ?_;refine qas ?_;refine qae ?_;exact zp rfl rfl (zs rfl rfl zaD (by unfold zaq;rw[ur (fun h=>ht13 h.2),ut (.inl g16)])) (zQ (za rfl (by unfold zaq;rw[ur (fun h=>ht13 h.2),ut (.inl g16)])))
 refine qda ?_;refine Cg ?_;refine qaE ?_;refine A0 zcQ ?_;refine qa7 ?_;refine zw (d:=25) rfl (by simpa [IntL.toI] using g16) ?_;refine qcV ?_;refine A1 zcQ ?_;refine qa6 ?_;refine zn (p:=¬zK q=0) rfl yw (fun ht22=>?_) (fun ht22=>?_)
 ·
  refine CQR ?_;refine qaU ?_;refine A0 (oCl (zkJ p hp) rfl fn_86 yd) ?_;refine qa7 ?_;refine qas ?_;refine qae ?_;exact zp rfl rfl (zs rfl rfl zaD (by unfold zaq;rw[ur (fun h=>g16 h.1),ut (.inr ht22)])) (zQ (za rfl (by unfold zaq;rw[ur (fun h=>g16 h.1),ut (.inr ht22)])))
 refine CS ?_;refine CI ?_;refine CQR ?_;refine qaU ?_;refine qaU ?_;refine A0 (oCl (ztd p q hp.1 hq.1) rfl fn_19 ye) ?_;refine qaN ?_;refine A0 aV ?_;refine qap ?_;refine CN ?_;refine zn (p:=zc1 p q=true) rfl yA (fun ht38=>?_) (fun ht38=>?_)
 ·
  refine CQR ?_;refine qaU ?_;refine A0 (oCl (zkJ q hq) rfl fn_86 yd) ?_;refine qas ?_;refine qae ?_;exact zp rfl rfl (zs rfl rfl zaD ybB) (zQ (za rfl ybB))
 refine CSQR ?_;refine qaU ?_;refine A0 (oCl (zkJ p hp) rfl fn_86 yd) ?_;refine qa7 ?_;refine qas ?_;refine qae ?_;exact zp rfl rfl (zs rfl rfl zaD ybC) (zQ (za rfl ybC))
theorem fold_ok (l:List Proof) (hl:∀p∈l,zfw p) (hn:l.length≤1000000):Tells P 33 [.val (bsl zP) l] (.tup2 (.val zP (zvM l).1) (.val i64T (zvM l).2)):=by
 refine zd Tryz.func33 rfl rfl rfl (fun ext w hext=>?_);refine ze (d:=0) rfl zm (fun hsl0=>?_);refine CQR ?_;refine qbC ?_;refine qap ?_;refine A0 (zN rfl rfl isl_85) ?_;refine A0 zaH ?_;refine CN ?_;refine zn (p:=l.length=0) rfl yw (fun ht9=>?_) (fun ht9=>?_)
 ·
  obtain rfl:l=[]:=List.length_eq_zero_iff.1 ht9;refine CQR ?_;refine xy ?_;refine qas ?_;refine qae ?_;exact zp rfl rfl (zs rfl rfl zaD (rfl)) (zQ (za rfl (rfl)))
 obtain⟨p,r,rfl⟩:∃p r,l=p::r:=by cases l with|nil=>exact absurd rfl ht9|cons p r=>exact⟨p,r,rfl⟩
 have hp0:=hl p (List.mem_cons_self ..);have hn2:r.length≤1000000:=by simp at hn;omega
 have hz:(p::r)[0]?=some p:=rfl;refine qc4 ?_;refine A0 (zV (i:=0) rfl rfl rfl ya sl_85 yj) ?_;refine A0 (zf rfl rfl zaD) ?_;refine A0 (oCl (zkJ p hp0) rfl fn_86 ybM) ?_;refine qbC ?_;refine qas ?_;refine qbx ?_;refine A0 (zhh rfl rfl rfl sl_85 yg) ?_;refine zi (d:=16) (y:=r) rfl rfl ?_;refine A0 (zN rfl rfl isl_85) ?_;refine qaH ?_;refine Lp (ι:=Nat×Proof) 2 (fun(i,o)=>((((Fr.none.set 2 (.ptr 0 0)).set 4 (.ptr 1 0)).set 16 (.val (bsl zP) r)).set 17 (.val i64T (r.length:Int))).set 18 (.val i64T (i:Int))) (fun(i,o)=>(Hp.none.set 0 (.box 27 zP zb3)).set 1 (.box 27 zP o)) (fun(i,o)=>i≤r.length∧o=(r.take i).foldl (fun o q=>(zaq o q).1) p) (fun(i,o)=>r.length-i) ((0,p)) (⟨uf _,rfl⟩) ?_;intro⟨i,o⟩ hinv;dsimp only at hinv;refine qar ?_;refine Cf (p:=i<r.length) (fun ht19=>?_) (fun ht19=>?_)
 ·
  obtain⟨q,hq⟩:∃q,r[i]?=some q:=⟨_,ub ht19⟩;have hqs:=hl q (List.mem_cons_of_mem _ (ud hq));have hos:zfw o:=by rw[hinv.2];exact fold_small (fun p hp=>hl p (List.mem_cons_of_mem _ (List.mem_of_mem_take hp))) hp0
  refine CSQBQR ?_;refine A0 (zbu rfl rfl rfl sl_85 yj) ?_;refine A0 (zf rfl rfl zaD) ?_;refine qbC ?_;refine qas ?_;refine CNR ?_;refine qaU ?_;refine qaU ?_;refine A0 (oCl (pick_ok o q hos hqs) rfl fn_87 ye) ?_;refine qaN ?_;refine qas ?_;refine qbt ?_;exact Nx ((i+1,(zaq o q).1)) (⟨by omega,by rw[un,hq,List.foldl_append,←hinv.2];rfl⟩) (by show r.length-(i+1)<r.length-i;omega)
 refine CE ?_;refine CQ ?_;refine zA [some 1,some 1,some 1,none,some 1] mixed yc ?_;refine X0 (oLs rfl rfl rfl zaD) ?_;refine X0 (oLs rfl rfl rfl zaD) ?_;refine X0 (oCl (zeO o) rfl zsR yd) ?_;refine XK.e (x:=.idk) (fun fr' hfr kk H=>by exact zg rfl rfl rfl ((hfr 2 yc).trans rfl) rfl (Lens.self _) zaD ((hfr 29 yc).trans rfl) (zt H)) ?_;refine X0 aV ?_;refine XK.nil' ?_;exact zp rfl rfl (zs rfl rfl zaD (by rw[hinv.2,uc ya];rfl)) (zQ (za rfl (by rw[hinv.2,uc ya];rfl)))
theorem betterE_pq {p q:Proof} (hp:zK p=0) (hq:zK q=0):zeq p q=zhl ⟨p,q⟩:=by
  have:zhg ⟨p,q⟩=0:=by unfold zhg;rw[ur (fun c=>c hp)];exact hq
  unfold zeq;rw[this,ur yr]
theorem alike_self (p:Proof):zhl ⟨p,p⟩=0:=by
  unfold zhl;rw[ur yA,ur yA]
theorem pick_1 {p q:Proof} (hp:¬zK p=0) (hq:zK q=0):zaq p q=(q,0):=by unfold zaq;rw[ut ⟨hp,hq⟩]
theorem pick_2 {p q:Proof} (hp:¬zK p=0) (hq:¬zK q=0):zaq p q=(p,zK p):=by unfold zaq;rw[ur (fun h=>hq h.2),ut (.inl hp)]
theorem pick_3 {p q:Proof} (hp:zK p=0) (hq:¬zK q=0):zaq p q=(p,0):=by unfold zaq;rw[ur (fun h=>hq h.2),ut (.inr hq),hp]
theorem zu7 {p q:Proof} (hp:zK p=0) (hq:zK q=0) (h:zc1 p q=true):zaq p q=(q,0):=by
  unfold zaq;rw[ur (fun h=>h.1 hp),ur (fun h=>h.elim (fun c=>c hp) (fun c=>c hq)),ut h]
theorem zu6 {p q:Proof} (hp:zK p=0) (hq:zK q=0) (h:¬zc1 p q=true):zaq p q=(p,zeq p q):=by
  unfold zaq;rw[ur (fun h=>h.1 hp),ur (fun h=>h.elim (fun c=>c hp) (fun c=>c hq)),ur h]
theorem zm5 {p:Proof} (hp:zK p=0):zaq p p=(p,0):=by
  by_cases h:zc1 p p=true
  · exact zu7 hp hp h
  rw[zu6 hp hp h,betterE_pq hp hp,alike_self]
theorem once_ok {p q:Proof} (h:(zaq p q).2=0):zK (zaq p q).1=0∧zaq (zaq p q).1 q=((zaq p q).1,0):=by
  by_cases hp:zK p=0
  · by_cases hq:zK q=0
    · by_cases hb:zc1 p q=true
      · rw[zu7 hp hq hb];exact⟨hq,zm5 hq⟩
      have h5:=zu6 hp hq hb;rw[h5] at h;have h:zeq p q=0:=h;rw[h] at h5;rw[h5];exact⟨hp,h5⟩
    have h3:=pick_3 hp hq;rw[h3];exact⟨hp,h3⟩
  by_cases hq:zK q=0
  · rw[pick_1 hp hq];exact⟨hq,zm5 hq⟩
  rw[pick_2 hp hq] at h;exact absurd h hp
abbrev foldP (l:List Proof) (p:Proof):Proof:=l.foldl (fun o q=>(zaq o q).1) p
theorem pick_mem (p q:Proof):(zaq p q).1=p∨(zaq p q).1=q:=by
  unfold zaq
  split
  · exact .inr rfl
  split
  · exact .inl rfl
  split
  · exact .inr rfl
  exact .inl rfl
theorem pick_holds (p q:Proof):zK (zaq p q).1=0↔zK p=0∨zK q=0:=by
  by_cases hp:zK p=0
  · by_cases hq:zK q=0
    · rcases pick_mem p q with e|e<;>rw[e]<;>simp[hp,hq]
    rw[pick_3 hp hq];simp[hp]
  by_cases hq:zK q=0
  · rw[pick_1 hp hq];simp[hq]
  rw[pick_2 hp hq];simp[hp,hq]
def zk6 (n i:Nat):List Int:=if _h:2≤n then (if i<halfN n then 0::zk6 (halfN n) i else 1::zk6 (n-halfN n) (i-halfN n)) else []
termination_by n
decreasing_by
  · exact zkU _h
  have:=zik n;omega
def zjF (n i:Nat):List Int:=(zk6 n i).reverse
def upTr (s:Int) (x p:Ab.Id):Ab.Id:=if s=0 then zvh x p else zvh p x
def zd9 (ss:List Int) (ps:List Ab.Id) (x:Ab.Id):Ab.Id:=(ss.zip ps).foldl (fun x sp=>upTr sp.1 x sp.2) x
def zh6 (root:Ab.Id) (n i:Int) (leaf:Ab.Id) (path:List Ab.Id):Bool:=decide (1≤n∧n≤64∧0≤i∧i<n)&&(decide ((zjF n.toNat i.toNat).length=path.length)&&decide (zd9 (zjF n.toNat i.toNat) path leaf=root))
theorem zqU {m j:Nat} (h:2≤m):zk6 m j=if j<halfN m then 0::zk6 (halfN m) j else 1::zk6 (m-halfN m) (j-halfN m):=by
  conv=>lhs;rw[zk6,dif_pos h]
theorem znN {m j:Nat} (h:¬2≤m):zk6 m j=[]:=by rw[zk6,dif_neg h]
theorem zsY:∀{m j:Nat},(zk6 m j).length≤m:=by
  intro m
  induction m using Nat.strongRecOn with
  | ind m ih =>
    intro j;by_cases c:2≤m
    · have hp:=zik m
      have hlt:=zkU c;rw[zqU c]
      split
      · have:=ih (halfN m) hlt (j:=j);rw[List.length_cons];omega
      have:=ih (m-halfN m) ya (j:=j-halfN m);rw[List.length_cons];omega
    rw[znN c];simp
theorem downT_bit:∀{m j:Nat},∀s∈zk6 m j,s=0∨s=1:=by
  intro m
  induction m using Nat.strongRecOn with
  | ind m ih =>
    intro j s hs;by_cases c:2≤m
    · have hp:=zik m
      have hlt:=zkU c;rw[zqU c] at hs
      split at hs
      · rcases List.mem_cons.1 hs with e|h
        · exact .inl e
        exact ih (halfN m) hlt s h
      rcases List.mem_cons.1 hs with e|h
      · exact .inr e
      exact ih (m-halfN m) ya s h
    rw[znN c] at hs;cases hs
theorem sides_len {n i:Nat}:(zjF n i).length≤n:=by unfold zjF;rw[List.length_reverse];exact zsY
theorem sides_bit {n i:Nat}:∀s∈zjF n i,s=0∨s=1:=fun s hs=>downT_bit s (List.mem_reverse.1 hs)
theorem climb_snoc {ss:List Int} {ps:List Ab.Id} {s:Int} {p x:Ab.Id} (e:ss.length=ps.length):zd9 (ss++[s]) (ps++[p]) x=upTr s (zd9 ss ps x) p:=by
  unfold zd9;rw[List.zip_append e,List.foldl_append];rfl
theorem climb_step {ss:List Int} {ps:List Ab.Id} {k:Nat} {s:Int} {p x:Ab.Id} (hs:ss[k]?=some s) (hp:ps[k]?=some p):zd9 (ss.take (k+1)) (ps.take (k+1)) x=upTr s (zd9 (ss.take k) (ps.take k) x) p:=by
  obtain⟨h1,_⟩:=ul.1 hs;obtain⟨h2,_⟩:=ul.1 hp;rw[un,hs,un,hp];exact climb_snoc (by rw[um,um];omega)
theorem climb_all {ss:List Int} {ps:List Ab.Id} {k:Nat} {x:Ab.Id} (h:ss.length≤k) (e:ss.length=ps.length):zd9 (ss.take k) (ps.take k) x=zd9 ss ps x:=by
  rw[uc h,uc ya]
def zlo (ss:List Int) (ps:List Ab.Id) (x:Ab.Id) (k:Nat):List Ab.Id:=if ss.getD k 0=0 then [zd9 (ss.take k) (ps.take k) x,ps.getD k zId] else [ps.getD k zId,zd9 (ss.take k) (ps.take k) x]
def zjP (ss:List Int) (ps:List Ab.Id) (x:Ab.Id) (k:Nat):List (List Ab.Id):=(List.range k).map (zlo ss ps x)
theorem zu9 {ss:List Int} {ps:List Ab.Id} {x:Ab.Id} {k:Nat} {a:List Ab.Id} (h:a=zlo ss ps x k):zjP ss ps x k++[a]=zjP ss ps x (k+1):=by
  unfold zjP;rw[List.range_succ,List.map_append,h];rfl
theorem zr5 {ss:List Int} {ps:List Ab.Id} {x:Ab.Id} {k:Nat}:(zjP ss ps x k).length=k:=by unfold zjP;simp
theorem pair_left {ss:List Int} {ps:List Ab.Id} {x p:Ab.Id} {k:Nat} (hs:ss[k]?=some 0) (hp:ps[k]?=some p):[zd9 (ss.take k) (ps.take k) x,p]=zlo ss ps x k:=by
  unfold zlo;rw[uq,uq,hs,hp];rfl
theorem pair_right {ss:List Int} {ps:List Ab.Id} {x p:Ab.Id} {k:Nat} (hs:ss[k]?=some 1) (hp:ps[k]?=some p):[p,zd9 (ss.take k) (ps.take k) x]=zlo ss ps x k:=by
  unfold zlo;rw[uq,uq,hs,hp];rfl
theorem sides_ok (n i:Nat) (hn:n≤64) (hi:i<n):Tells P 91 [.val i64T (n:Int),.val i64T (i:Int)] (.fresh 3 i64T (zjF n i)):=by
 refine zd Tryz.func91 rfl rfl rfl (fun ext w hext=>?_);refine ze (d:=0) rfl zu (fun hin0=>?_);refine ze (d:=1) rfl zu (fun hin1=>?_);refine qcn ?_;refine A0 aL ?_;refine CNQ ?_;refine CB ?_;obtain⟨i_,hi_⟩:∃k,k=i:=⟨_,rfl⟩;refine zbk (T:=i64T) (d:=5) 3 rfl ?_;refine Lp (ι:=List Int×Nat×Nat) 1 (fun(out,m,j)=>((Fr.none.set 0 (.val i64T (m:Int))).set 1 (.val i64T (j:Int))).set 5 (.own 0)) (fun(out,m,j)=>Hp.none.set 0 (.row 3 i64T out)) (fun(out,m,j)=>m≤n∧j≤m∧zk6 n i_=out++zk6 m j) (fun(out,m,j)=>m) (([],n,i)) (⟨ug _,by omega,by rw[hi_];rfl⟩) ?_;intro⟨out,m,j⟩ hinv;dsimp only at hinv;have hol:out.length≤n:=by have h1:=congrArg List.length hinv.2.2;have h2:=zsY (m:=n) (j:=i_);simp at h1;omega
 refine qbQ ?_;refine qcL ?_;refine Cf (p:=2≤m) (fun ht8=>?_) (fun ht8=>?_)
 ·
  have hp:=zik m;have hlt:=zkU ht8;have hgo:=zqU (j:=j) ht8;refine CS ?_;refine CB ?_;refine qaE ?_;refine A0 (oCl (half_ok m ya ya) rfl fn_102 yd) ?_;refine qbv ?_;refine qbr ?_;refine Cf (p:=j<halfN m) (fun ht13=>?_) (fun ht13=>?_)
  ·
   rw[ut ht13] at hgo;refine qcP ?_;refine qaG ?_;refine qa7 ?_;refine qcR ?_;refine CI ?_;refine xh ?_;exact Nx ((out++[0],halfN m,j)) ybu (by first|(show halfN m<m;omega)|(show m-halfN m<m;omega))
  rw[ur ht13] at hgo;refine qcP ?_;refine qaG ?_;refine qav ?_;refine A0 (zkX rfl rfl rfl (show _=(((m-halfN m:Nat):Int):Int) from(show IntKind.i64.wrap ((m:Int)-(halfN m:Int))=_ from(zas ya).trans ya))) ?_;refine qav ?_;refine A0 (zkX rfl rfl rfl (show _=(((j-halfN m:Nat):Int):Int) from(show IntKind.i64.wrap ((j:Int)-(halfN m:Int))=_ from(zas ya).trans ya))) ?_;refine A0 aO ?_;refine qck ?_;refine CI ?_;refine xh ?_;exact Nx ((out++[1],m-halfN m,j-halfN m)) ybu (by first|(show halfN m<m;omega)|(show m-halfN m<m;omega))
 have hdn:=znN (j:=j) ht8;refine CE ?_;refine qbZ ?_;refine ziB (revInt out ya) rfl fn_158 rfl trivial trivial rfl ⟨yl,trivial⟩ rfl rfl rfl ?_;refine CNQR ?_;refine A0 mO ?_;refine qbJ ?_;exact zb rfl rfl (zh rfl rfl (by unfold zjF;rw[←hi_,hinv.2.2,hdn,List.append_nil]))
theorem pairs_ok (ss:List Int) (x:Ab.Id) (ps:List Ab.Id) (hs:∀s∈ss,s=0∨s=1) (he:ss.length=ps.length) (hl:ss.length≤64):Tells P 92 [.val (bsl i64T) ss,.val idT x,.val (bsl idT) ps] (.tup2 (.fresh 246 (arrT 2 yr idT) (zjP ss ps x ss.length)) (.val idT (zd9 ss ps x))):=by
 refine zd Tryz.func92 rfl rfl rfl (fun ext w hext=>?_);refine ze (d:=0) rfl zm (fun hsl0=>?_);refine ze (d:=2) rfl zm (fun hsl2=>?_);refine qah ?_;refine A0 aL ?_;refine qaX ?_;refine CNQR ?_;refine A0 aL ?_;refine qbx ?_;refine qb5 ?_;refine qaH ?_;refine zbk (T:=(arrT 2 yr idT)) (d:=8) 246 rfl ?_;refine Lp (ι:=Nat) 3 (fun i=>((((((Fr.none.set 2 (.val (bsl idT) ps)).set 4 (.ptr 0 0)).set 7 (.ptr 1 0)).set 8 (.own 2)).set 12 (.val (bsl i64T) ss)).set 13 (.val i64T (ss.length:Int))).set 14 (.val i64T (i:Int))) (fun i=>((Hp.none.set 0 (.box 49 idT (zd9 (ss.take i) (ps.take i) x))).set 1 (.box 49 idT zId)).set 2 (.row 246 (arrT 2 yr idT) (zjP ss ps x i))) (fun i=>i≤ss.length) (fun i=>ss.length-i) (0) (uf _) ?_;intro i hinv;refine qar ?_;refine Cf (p:=i<ss.length) (fun ht15=>?_) (fun ht15=>?_)
 ·
  obtain⟨s,hsi⟩:∃s,ss[i]?=some s:=⟨_,ub ht15⟩;obtain⟨p,hpi⟩:∃p,ps[i]?=some p:=yB;have hcl:=climb_step (x:=x) hsi hpi;rcases hs s (ud hsi) with rfl|rfl
  ·
   refine qaR ?_;refine A0 (zV (i:=i) rfl rfl rfl ya zcj yj) ?_;refine A0 (zf rfl rfl ty_3) ?_;refine A0 aV ?_;refine A0 aX ?_;refine CNQR ?_;refine zq ze_246 rfl rfl rfl rfl ?_;refine CNQ ?_;refine zA [some 1,some 1000001,some 1000001,some 1,some 1000001,some 1000001,some 1000001,some 1000001,some 1,none,some 1,none] mixed yc ?_;refine X0 mX ?_;refine XK.ga yh rfl rfl rfl ?_;refine XK.ga yas rfl rfl rfl ?_;refine X0 (oLs rfl rfl rfl z6) ?_;refine XK.ga (fun _=>g_mv (.inl rfl) rfl) rfl rfl rfl ?_;refine XK.ga (fun _=>g_mv (.inl rfl) rfl) rfl rfl rfl ?_;refine XK.ga (fun _=>zV (i:=i) rfl rfl rfl ya zdD yj) rfl rfl rfl ?_;refine XK.ga (fun _=>zf rfl rfl z6) rfl rfl rfl ?_;refine X0 (zD (i:=0) rfl rfl rfl yp zib ya) ?_;refine XK.e (x:=.idk) (fun fr' hfr kk H=>by exact zg rfl rfl rfl ((hfr 27 yc).trans rfl) rfl (Lens.elem (i:=0) ya idT) z6 ((hfr 22 yc).trans rfl) (zt H)) ?_;refine X0 (zD (i:=1) rfl rfl rfl yp zib ya) ?_;refine XK.e (x:=.idk) (fun fr' hfr kk H=>by exact zg rfl rfl rfl ((hfr 28 yc).trans rfl) rfl (Lens.elem (i:=1) ya idT) z6 ((hfr 26 yc).trans rfl) (zt H)) ?_;refine XK.nil' ?_;refine qbZ ?_;refine A0 (oLs rfl rfl rfl ty_246) ?_;refine A0 (zL (T:=(arrT 2 yr idT)) (xs:=[_]) rfl sl_161 zp5 yE rfl rfl) ?_;refine zC rfl rfl rfl rfl rfl rfl rfl zp5 (by rw[zr5];simp;omega) ?_;refine qbJ ?_;obtain⟨w,hw⟩:∃w,w=zlo ss ps x i:=⟨_,rfl⟩;refine CR ?_;refine A0 (zD (i:=0) rfl rfl rfl yp zib ya) ?_;refine A0 (zr rfl rfl rfl (Lens.elem (i:=0) ya idT) z6) ?_;refine A0 (zD (i:=1) rfl rfl rfl yp zib ya) ?_;refine A0 (zr rfl rfl rfl (Lens.elem (i:=1) ya idT) z6) ?_;refine A0 (oCl (ztR (zd9 (ss.take i) (ps.take i) x) p) rfl fn_159 ye) ?_;refine qa5 ?_;refine qbt ?_;refine ze4 3 ?_;refine zaz 4 2 5 rfl rfl rfl rfl rfl rfl ?_;refine zj (n:=2) (y:=zjP ss ps x (i+1)) rfl (zu9 (pair_left hsi hpi)) ?_;refine zF (n:=0) (y:=zd9 (ss.take (i+1)) (ps.take (i+1)) x) rfl (by rw[hcl];rfl) ?_;exact Nx (i+1) ya ya
  refine qaR ?_;refine A0 (zV (i:=i) rfl rfl rfl ya zcj yj) ?_;refine A0 (zf rfl rfl ty_3) ?_;refine A0 aV ?_;refine A0 aX ?_;refine CNQR ?_;refine zq ze_246 rfl rfl rfl rfl ?_;refine CNQ ?_;refine zA [some 1,some 1000001,some 1000001,some 1,some 1000001,some 1000001,some 1000001,some 1000001,some 1,none,some 1,none] mixed yc ?_;refine X0 mX ?_;refine XK.ga yh rfl rfl rfl ?_;refine XK.ga yas rfl rfl rfl ?_;refine X0 (oLs rfl rfl rfl z6) ?_;refine XK.ga (fun _=>g_mv (.inl rfl) rfl) rfl rfl rfl ?_;refine XK.ga (fun _=>g_mv (.inl rfl) rfl) rfl rfl rfl ?_;refine XK.ga (fun _=>zV (i:=i) rfl rfl rfl ya zdD yj) rfl rfl rfl ?_;refine XK.ga (fun _=>zf rfl rfl z6) rfl rfl rfl ?_;refine X0 (zD (i:=1) rfl rfl rfl yp zib ya) ?_;refine XK.e (x:=.idk) (fun fr' hfr kk H=>by exact zg rfl rfl rfl ((hfr 27 yc).trans rfl) rfl (Lens.elem (i:=1) ya idT) z6 ((hfr 22 yc).trans rfl) (zt H)) ?_;refine X0 (zD (i:=0) rfl rfl rfl yp zib ya) ?_;refine XK.e (x:=.idk) (fun fr' hfr kk H=>by exact zg rfl rfl rfl ((hfr 28 yc).trans rfl) rfl (Lens.elem (i:=0) ya idT) z6 ((hfr 26 yc).trans rfl) (zt H)) ?_;refine XK.nil' ?_;refine qbZ ?_;refine A0 (oLs rfl rfl rfl ty_246) ?_;refine A0 (zL (T:=(arrT 2 yr idT)) (xs:=[_]) rfl sl_161 zp5 yE rfl rfl) ?_;refine zC rfl rfl rfl rfl rfl rfl rfl zp5 (by rw[zr5];simp;omega) ?_;refine qbJ ?_;obtain⟨w,hw⟩:∃w,w=zlo ss ps x i:=⟨_,rfl⟩;refine CR ?_;refine A0 (zD (i:=0) rfl rfl rfl yp zib ya) ?_;refine A0 (zr rfl rfl rfl (Lens.elem (i:=0) ya idT) z6) ?_;refine A0 (zD (i:=1) rfl rfl rfl yp zib ya) ?_;refine A0 (zr rfl rfl rfl (Lens.elem (i:=1) ya idT) z6) ?_;refine A0 (oCl (ztR p (zd9 (ss.take i) (ps.take i) x)) rfl fn_159 ye) ?_;refine qa5 ?_;refine qbt ?_;refine ze4 3 ?_;refine zaz 4 2 5 rfl rfl rfl rfl rfl rfl ?_;refine zj (n:=2) (y:=zjP ss ps x (i+1)) rfl (zu9 (pair_right hsi hpi)) ?_;refine zF (n:=0) (y:=zd9 (ss.take (i+1)) (ps.take (i+1)) x) rfl (by rw[hcl];rfl) ?_;exact Nx (i+1) ya ya
 refine CE ?_;refine CQ ?_;refine zA [some 1,some 1,some 1,none] mixed yc ?_;refine X0 mO ?_;refine X0 (oLs rfl rfl rfl z6) ?_;refine X0 aO ?_;refine XK.e (x:=.idk) (fun fr' hfr kk H=>by exact zg rfl rfl rfl ((hfr 7 yc).trans rfl) rfl (Lens.self _) z6 ((hfr 40 yc).trans rfl) (zt H)) ?_;refine XK.nil' ?_;exact zp rfl rfl (zQ (zh rfl rfl (by rw[show i=ss.length by omega]))) (zs rfl rfl z6 (climb_all ya he))
theorem zpE (root:Ab.Id) (n i:Int) (x:Ab.Id) (ps:List Ab.Id):Tells P 41 [.val idT root,.val i64T n,.val i64T i,.val idT x,.val (bsl idT) ps] (.val zl (zh6 root n i x ps)):=by
 refine zd Tryz.func41 rfl rfl rfl (fun ext w hext=>?_);refine ze (d:=1) rfl zu (fun hin1=>?_);refine ze (d:=2) rfl zu (fun hin2=>?_);refine ze (d:=4) rfl zm (fun hsl4=>?_);refine qaA ?_;refine qap ?_;refine A0 zcy ?_;refine qa7 ?_;refine Sp (d:=16) (p:=n<1) (fun g16=>?_) (fun g16=>?_)
 ·
  refine qbm ?_;refine qaf ?_;refine qc1 ?_;refine qau ?_;refine Ct ?_;refine qa3 ?_;exact zb rfl rfl (za rfl ya7)
 refine qcV ?_;refine A1 zbH ?_;refine qaf ?_;refine Sp (d:=20) (p:=64<n) (fun g20=>?_) (fun g20=>?_)
 ·
  refine qc1 ?_;refine qau ?_;refine Ct ?_;refine qa3 ?_;exact zb rfl rfl (za rfl ya7)
 refine qcV ?_;refine A1 zcy ?_;refine qaf ?_;refine Sp (d:=24) (p:=i<0) (fun g24=>?_) (fun g24=>?_)
 ·
  refine qcU ?_;refine Ct ?_;refine qa3 ?_;exact zb rfl rfl (za rfl ya7)
 refine qcV ?_;refine qcV ?_;refine A1 zfb ?_;refine qau ?_;refine Cf (p:=n≤i) (fun ht28=>?_) (fun ht28=>?_)
 ·
  refine qa3 ?_;exact zb rfl rfl (za rfl ya7)
 obtain⟨N,rfl⟩:∃N:Nat,n=N:=⟨n.toNat,by omega⟩;obtain⟨J,rfl⟩:∃J:Nat,i=J:=⟨i.toNat,by omega⟩;have hin:1≤(N:Int)∧(N:Int)≤64∧0≤(J:Int)∧(J:Int)<N:=ya;refine CSQR ?_;refine qav ?_;refine A0 (oCl (zB (sides_ok N J ya ya)) rfl fn_91 ye) ?_;refine qap ?_;refine qb5 ?_;refine qa7 ?_;refine qcf ?_;refine qbk ?_;refine Cf (p:=¬(zjF N J).length=ps.length) (fun ht36=>?_) (fun ht36=>?_)
 ·
  refine qa3 ?_;exact zb rfl rfl (za rfl (by unfold zh6;rw[ui hin,Int.toNat_natCast,Int.toNat_natCast,uh ht36];rfl))
 refine qc4 ?_;refine qbG ?_;refine qa7 ?_;refine A0 (oCl (zee (pairs_ok (zjF N J) x ps sides_bit (ua ht36) (by have:=sides_len (n:=N) (i:=J);omega))) rfl fn_92 yaf) ?_;refine qaN ?_;refine qaX ?_;refine A0 aV ?_;refine qa5 ?_;refine CNQR ?_;refine qbG ?_;refine qbG ?_;refine A0 (ziU rfl rfl rfl (zh1)) ?_;refine qae ?_;exact zb rfl rfl (za rfl (by unfold zh6;rw[ui hin,Int.toNat_natCast,Int.toNat_natCast,ui (ua ht36),Bool.true_and,Bool.true_and]))
def zaI (c:Client) (raw:List UInt8):Client×Int :=
  if ¬zbs raw=true then (c,2)
  else if ¬(zam raw).m=c.m∨¬(zam raw).k=c.k then (c,1)
  else if ¬zK (zam raw)=0 then (c,zK (zam raw))
  else if c.have_=true then (if (zaq c.p (zam raw)).2=0 then ({ c with p:=(zaq c.p (zam raw)).1,have_:=true },0) else (c,(zaq c.p (zam raw)).2))
  else ({ c with p:=zam raw,have_:=true },0)
def zeZ (c:Client) (who:Int):Client×Int:=if who∈c.opn then (c,10) else if 8≤c.opn.length then (c,11) else ({ c with opn:=c.opn++[who] },0)
def without (l:List Int) (who:Int):List Int:=l.filter fun x=>!decide (x=who)
def zc0 (c:Client) (who:Int):Client×Int:=if who∈c.opn then ({ c with opn:=without c.opn who },0) else (c,9)
def zZ (c:Client) (x:Msg):Client×Int :=
  if x.who<0∨63<x.who∨x.kind<0∨3≤x.kind then (c,1)
  else if x.kind=0 then zeZ c x.who
  else if x.kind=1 then zc0 c x.who
  else if x.who∈c.opn then zaI c x.raw else (c,9)
def runC:Client→List Msg→Client
  | c,[]=>c
  | c,x::l=>runC (zZ c x).1 l
def runE:Client→List Msg→List Int
  | _,[]=>[]
  | c,x::l=>(zZ c x).2::runE (zZ c x).1 l
theorem zdE:∀(l m:List Msg) (c:Client),runC c (l++m)=runC (runC c l) m
  | [],_,_=>rfl
  | _::l,m,_=>zdE l m _
theorem zgS:∀(l m:List Msg) (c:Client),runE c (l++m)=runE c l++runE (runC c l) m
  | [],_,_=>rfl
  | x::l,m,c=>by
    show(zZ c x).2::runE (zZ c x).1 (l++m)=_;rw[zgS l m];rfl
theorem zez:∀(l:List Msg) (c:Client),(runE c l).length=l.length
  | [],_=>rfl
  | x::l,c=>by
    show(runE (zZ c x).1 l).length+1=l.length+1;rw[zez l]
theorem zuU {c:Client} {l:List Msg} {i:Nat} {x:Msg} (hx:l[i]?=some x):runC c (l.take (i+1))=(zZ (runC c (l.take i)) x).1∧runE c (l.take (i+1))=runE c (l.take i)++[(zZ (runC c (l.take i)) x).2]:=by
  have e:l.take (i+1)=l.take i++[x]:=by rw[un,hx];rfl
  rw[e,zdE,zgS];exact⟨rfl,rfl⟩
theorem give_err {c:Client} {raw:List UInt8} (h:¬(zaI c raw).2=0):(zaI c raw).1=c:=by
  unfold zaI at h ⊢
  split at h
  · rename_i a;rw[ut a]
  rename_i a;rw[ur a]
  split at h
  · rename_i b;rw[ut b]
  rename_i b;rw[ur b]
  split at h
  · rename_i d;rw[ut d]
  rename_i d;rw[ur d]
  split at h
  · rename_i e;rw[ut e]
    split at h
    · exact absurd rfl h
    rename_i f;rw[ur f]
  exact absurd rfl h
theorem zpU {c:Client} {x:Msg} (h:¬(zZ c x).2=0):(zZ c x).1=c:=by
  unfold zZ at h ⊢
  split at h
  · rename_i a;rw[ut a]
  rename_i a;rw[ur a]
  split at h
  · rename_i b;rw[ut b]
    unfold zeZ at h ⊢
    split at h
    · rename_i d;rw[ut d]
    rename_i d;rw[ur d]
    split at h
    · rename_i e;rw[ut e]
    exact absurd rfl h
  rename_i b;rw[ur b]
  split at h
  · rename_i d;rw[ut d]
    unfold zc0 at h ⊢
    split at h
    · exact absurd rfl h
    rename_i e;rw[ur e]
  rename_i d;rw[ur d]
  split at h
  · rename_i e;rw[ut e];exact give_err h
  rename_i e;rw[ur e]
theorem give_twice {c:Client} {raw:List UInt8} (h:(zaI c raw).2=0):(zaI (zaI c raw).1 raw).1=(zaI c raw).1∧(zaI c raw).1.opn=c.opn:=by
  obtain⟨q,hq⟩:∃q,q=zam raw:=⟨_,rfl⟩;unfold zaI at h;rw[←hq] at h
  split at h
  · cases h
  rename_i a
  split at h
  · cases h
  rename_i b
  split at h
  · rename_i d;exact absurd h d
  rename_i d;have d:=ua d
  split at h
  · rename_i e
    split at h
    · rename_i f
      have e1:zaI c raw=({ c with p:=(zaq c.p q).1,have_:=true },0):=by
        unfold zaI;rw[←hq,ur a,ur b,ur (fun g=>g d),ut e,ut f]
      rw[e1];refine⟨?_,rfl⟩;unfold zaI;rw[←hq,ur a,ur b,ur (fun g=>g d),ut rfl];show(if (zaq (zaq c.p q).1 q).2=0 then _ else _:Client×Int).1=_;rw[(once_ok f).2];rfl
    rename_i f;exact absurd h f
  rename_i e;have e1:zaI c raw=({ c with p:=q,have_:=true },0):=by
    unfold zaI;rw[←hq,ur a,ur b,ur (fun g=>g d),ur e]
  rw[e1];refine⟨?_,rfl⟩;unfold zaI;rw[←hq,ur a,ur b,ur (fun g=>g d),ut rfl];show(if (zaq q q).2=0 then _ else _:Client×Int).1=_;rw[zm5 d];rfl
theorem ztV {l:List Int} {who x:Int}:x∈without l who↔x∈l∧¬x=who:=by
  unfold without;rw[List.mem_filter];simp
theorem step_twice (c:Client) (x:Msg):(zZ (zZ c x).1 x).1=(zZ c x).1:=by
  by_cases h:(zZ c x).2=0
  · unfold zZ at h
    split at h
    · cases h
    rename_i a
    split at h
    · rename_i b
      have e:zZ c x=zeZ c x.who:=by unfold zZ;rw[ur a,ut b]
      unfold zeZ at h
      split at h
      · cases h
      rename_i d
      split at h
      · cases h
      rename_i f;rw[e];unfold zeZ;rw[ur d,ur f];unfold zZ;rw[ur a,ut b];unfold zeZ;rw[ut (List.mem_append_right _ (List.mem_singleton.2 rfl))]
    rename_i b
    split at h
    · rename_i d
      have e:zZ c x=zc0 c x.who:=by unfold zZ;rw[ur a,ur b,ut d]
      unfold zc0 at h
      split at h
      · rename_i f
        rw[e];unfold zc0;rw[ut f];unfold zZ;rw[ur a,ur b,ut d];unfold zc0;rw[ur (fun g=>(ztV.1 g).2 rfl)]
      cases h
    rename_i d
    split at h
    · rename_i f
      have e:∀c:Client,x.who∈c.opn→zZ c x=zaI c x.raw:=fun c hc=>by unfold zZ;rw[ur a,ur b,ur d,ut hc]
      obtain⟨g1,g2⟩:=give_twice h;rw[e c f,e _ (by rw[g2];exact f)];exact g1
    cases h
  rw[zpU h];exact zpU h
theorem zhS (c:Client) (raw:List UInt8):(zaI c raw).1.m=c.m∧(zaI c raw).1.k=c.k∧(zaI c raw).1.opn=c.opn:=by
  unfold zaI
  repeat' split
  all_goals exact⟨rfl,rfl,rfl⟩
theorem step_mk (c:Client) (x:Msg):(zZ c x).1.m=c.m∧(zZ c x).1.k=c.k:=by
  unfold zZ zeZ zc0
  repeat' split
  all_goals first|exact⟨rfl,rfl⟩|exact⟨(zhS ..).1,(zhS ..).2.1⟩
theorem run_mk:∀(l:List Msg) (c:Client),(runC c l).m=c.m∧(runC c l).k=c.k
  | [],_=>⟨rfl,rfl⟩
  | x::l,c=>by
    have h:=run_mk l (zZ c x).1;have h2:=step_mk c x;exact⟨h.1.trans h2.1,h.2.trans h2.2⟩
def zoi (l:List Int):Prop:=l.Nodup∧l.length≤8
theorem step_open {c:Client} {x:Msg} (h:zoi c.opn):zoi (zZ c x).1.opn:=by
  unfold zZ
  split
  · exact h
  split
  · unfold zeZ
    split
    · exact h
    rename_i d
    split
    · exact h
    rename_i f;refine⟨?_,by show(c.opn++[x.who]).length≤8;rw[ue,List.length_singleton];omega⟩;show(c.opn++[x.who]).Nodup;rw[List.nodup_append];refine⟨h.1,by simp,fun a ha b hb e=>?_⟩;rw[List.mem_singleton.1 hb] at e;exact d (e▸ha)
  split
  · unfold zc0
    split
    · exact⟨h.1.sublist List.filter_sublist,Nat.le_trans (List.length_filter_le _ _) h.2⟩
    exact h
  split
  · rw[(zhS c x.raw).2.2];exact h
  exact h
theorem zp3:∀(l:List Msg) (c:Client),zoi c.opn→zoi (runC c l).opn
  | [],_,h=>h
  | _::l,_,h=>zp3 l _ (step_open h)
def ziT (c:Client) (x:Msg):Bool:=decide (¬(x.who<0∨63<x.who)∧x.kind=2∧x.who∈c.opn)&&zbs x.raw&&decide ((zam x.raw).m=c.m∧(zam x.raw).k=c.k∧zK (zam x.raw)=0)
def za6:Client→List Msg→List Proof
  | _,[]=>[]
  | c,x::l=>(if ziT c x=true then [zam x.raw] else [])++za6 (zZ c x).1 l
theorem zlv:∀(l m:List Msg) (c:Client),za6 c (l++m)=za6 c l++za6 (runC c l) m
  | [],_,_=>rfl
  | x::l,m,c=>by
    show _++za6 (zZ c x).1 (l++m)=_;rw[zlv l m,←List.append_assoc];rfl
def zsG:List Proof→Proof
  | []=>zb3
  | p::r=>foldP r p
theorem held_snoc (l:List Proof) (q:Proof):zsG (l++[q])=if l=[] then q else (zaq (zsG l) q).1:=by
  cases l with
  | nil=>rfl
  | cons p r =>
    rw[ur yA];show foldP (r++[q]) p=_;unfold foldP;rw[List.foldl_append];rfl
structure Holds22 (c:Client) (all:List Proof):Prop where
  have_:c.have_ = !all.isEmpty
  p:c.p=zsG all
  ok:all≠[]→zK c.p=0
theorem give_holds {c:Client} {x:Msg} {all:List Proof} (h:Holds22 c all):Holds22 (zZ c x).1 (all++if ziT c x=true then [zam x.raw] else []):=by
  obtain⟨q,hq⟩:∃q,q=zam x.raw:=⟨_,rfl⟩;by_cases g:ziT c x=true
  · rw[ut g,←hq]
    unfold ziT at g;rw[←hq,uk,uk,uj,uj] at g;obtain⟨⟨⟨g1,g2,g3⟩,g4⟩,g5,g6,g7⟩:=g;have e:zZ c x=zaI c x.raw:=by
      unfold zZ;rw[ur ya,ur ya,ur ya,ut g3]
    rw[e];unfold zaI;rw[←hq,ur (fun n=>n g4),ur (fun n=>n.elim (fun n=>n g5) (fun n=>n g6)),ur (fun n=>n g7)];by_cases hv:c.have_=true
    · rw[ut hv]
      have hne:all≠[]:=fun n=>by
        have:=h.have_
        rw[hv,n] at this;cases this
      have hp:=h.ok hne;have hs:zsG (all++[q])=(zaq c.p q).1:=by rw[held_snoc,ur hne,←h.p]
      by_cases f:(zaq c.p q).2=0
      · rw[ut f]
        exact⟨by simp,hs.symm,fun _=>(pick_holds c.p q).2 (.inl hp)⟩
      rw[ur f];have hb:¬zc1 c.p q=true:=fun n=>f (by rw[zu7 hp g7 n])
      have hk:(zaq c.p q).1=c.p:=by rw[zu6 hp g7 hb]
      refine⟨by show c.have_=_;rw[hv];simp,by show c.p=_;rw[hs,hk],fun _=>hp⟩
    rw[ur hv];have hn:all=[]:=by
      have:=h.have_
      rw[Bool.eq_false_iff.2 hv] at this;cases all with
      | nil=>rfl
      | cons a l=>cases this
    subst hn;exact⟨rfl,rfl,fun _=>g7⟩
  rw[ur g,List.append_nil];have e:(zZ c x).1.have_=c.have_∧(zZ c x).1.p=c.p:=by
    unfold zZ
    split
    · exact⟨rfl,rfl⟩
    rename_i a
    split
    · unfold zeZ
      repeat' split
      all_goals exact⟨rfl,rfl⟩
    rename_i b
    split
    · unfold zc0
      repeat' split
      all_goals exact⟨rfl,rfl⟩
    rename_i d
    split
    · rename_i f
      unfold zaI;rw[←hq]
      split
      · exact⟨rfl,rfl⟩
      rename_i a1
      split
      · exact⟨rfl,rfl⟩
      rename_i a2
      split
      · exact⟨rfl,rfl⟩
      rename_i a3;exfalso;refine g ?_;unfold ziT;rw[←hq,uk,uk,uj,uj];exact⟨⟨⟨by omega,by omega,f⟩,ua a1⟩,ua fun n=>a2 (.inl n),ua fun n=>a2 (.inr n),ua a3⟩
    exact⟨rfl,rfl⟩
  exact⟨e.1.trans h.have_,e.2.trans h.p,fun hne=>by rw[e.2];exact h.ok hne⟩
theorem zrR:∀(l:List Msg) (c:Client) (all:List Proof),Holds22 c all→Holds22 (runC c l) (all++za6 c l)
  | [],_,_,h=>by
    show Holds22 _ (_++[]);rw[List.append_nil];exact h
  | x::l,c,all,h=>by
    have:=zrR l _ _ (give_holds (x:=x) h)
    rw[List.append_assoc] at this;exact this
theorem zgv {p:Proof} (h:zK p=0):zfw p:=by
  have hp:=zlC.1 h;refine⟨by have:=hp.l2;omega,fun x hx=>?_⟩;obtain⟨k,hk⟩:=List.mem_iff_getElem?.1 hx;obtain⟨hl,_⟩:=ul.1 hk;have e:yAt p k=x:=by unfold yAt;simp[hk]
  rw[←e];by_cases k0:k=0
  · subst k0;rw[hp.fst.2.1];exact uf _
  have:=(linkF_zero.1 (hp.steps k ya hl).2.1).2.1;omega
def SmC (c:Client):Prop:=zfw c.p∧c.opn.length≤1000
theorem give_small {c:Client} {raw:List UInt8} (h:SmC c):SmC (zaI c raw).1:=by
  unfold zaI
  split
  · exact h
  split
  · exact h
  split
  · exact h
  rename_i d;have hq:=zgv (ua d)
  split
  · split
    · exact⟨zpa h.1 hq,h.2⟩
    exact h
  exact⟨hq,h.2⟩
theorem step_small {c:Client} {x:Msg} (h:SmC c):SmC (zZ c x).1:=by
  unfold zZ
  split
  · exact h
  split
  · unfold zeZ
    split
    · exact h
    split
    · exact h
    refine⟨h.1,?_⟩;show(c.opn++[x.who]).length≤1000;rw[ue,List.length_singleton];omega
  split
  · unfold zc0
    split
    · exact⟨h.1,Nat.le_trans (List.length_filter_le _ _) h.2⟩
    exact h
  split
  · exact give_small h
  exact h
theorem zjH:∀(l:List Msg) {c:Client},SmC c→SmC (runC c l)
  | [],_,h=>h
  | _::l,_,h=>zjH l (step_small h)
def zhm (l:List Msg):Prop:=l.length≤100∧∀x∈l,x.raw.length≤1000000
theorem zvA {α:Type} {p:α→Bool}:∀{l:List α} {k:Nat},idx p l=(k:Int)→∃x,l[k]?=some x∧p x=true
  | [],k,h=>by unfold idx at h;omega
  | x::l,k,h=>by
    have hg:=zlu p l;unfold idx at h
    split at h
    · rename_i c
      have:k=0:=ya
      subst this;exact⟨x,rfl,c⟩
    split at h
    · omega
    obtain⟨j,rfl⟩:∃j,k=j+1:=⟨k-1,by omega⟩;obtain⟨y,hy,hp⟩:=zvA (p:=p) (l:=l) (k:=j) ya;exact⟨y,hy,hp⟩
def atI (c:Client) (h:Int):Int:=idx (fun x:Part=>decide (x.h.height=h)) c.p.p
def atOk (c:Client) (h:Int):Bool:=c.have_&&decide (0≤atI c h)
def atP (c:Client) (h:Int):Part:=if atOk c h=true then c.p.p.getD (atI c h).toNat zrn else zrn
theorem at_no {c:Client} {h:Int} (hn:¬atOk c h=true):atP c h=zrn:=ur hn
theorem at_yes {c:Client} {h:Int} (hy:atOk c h=true):c.have_=true∧(atP c h).h.height=h∧c.p.p[(atI c h).toNat]?=some (atP c h)∧0<c.p.p.length:=by
  have hy':=hy;unfold atOk at hy';rw[uk,uj] at hy';obtain⟨h1,h2⟩:=hy';obtain⟨x,hx,hp⟩:=zvA (p:=fun x:Part=>decide (x.h.height=h)) (l:=c.p.p) (k:=(atI c h).toNat) (by rw[Int.toNat_of_nonneg h2];rfl);have e:atP c h=x:=by unfold atP;rw[ut hy];simp[hx]
  rw[e];obtain⟨hl,_⟩:=ul.1 hx;exact⟨h1,by simpa using hp,hx,by omega⟩
def ztA (c:Client) (h n i:Int) (tx:Ab.Id) (path:List Ab.Id):Bool:=atOk c h&&(decide (h≤IntKind.i64.wrap ((c.p.p.getD (c.p.p.length-1) zrn).h.height-c.k))&&zh6 (atP c h).h.txs n i tx path)
theorem drop_at {α:Type} {l:List α} {i:Nat} {x:α} (h:l[i]?=some x):l=l.take i++x::l.drop (i+1):=by
  obtain⟨hi,rfl⟩:=ul.1 h
  conv=>lhs;rw[←List.take_append_drop i l]
  rw[List.drop_eq_getElem_cons hi]
theorem run_lost {c:Client} {l:List Msg} {i:Nat} {x:Msg} (hx:l[i]?=some x) {e:Int} (he:(runE c l)[i]?=some e) (hn:¬e=0):runC c l=runC c (l.take i++l.drop (i+1)):=by
  obtain⟨hi,_⟩:=ul.1 hx;have hd:=drop_at hx;have h2:(runE c l)[i]?=some (zZ (runC c (l.take i)) x).2:=by
    conv=>lhs;rw[hd]
    rw[zgS,List.getElem?_append_right (by rw[zez,um];omega),zez,um,Nat.min_eq_left ya,Nat.sub_self];rfl
  rw[h2] at he;injection he with he
  conv=>lhs;rw[hd]
  rw[zdE,zdE];show runC (zZ (runC c (l.take i)) x).1 (l.drop (i+1))=_;rw[zpU (by rw[he];exact hn)]
theorem zrS {c:Client} {l:List Msg} {i:Nat} {x:Msg} (hx:l[i]?=some x):runC c (l.take (i+1)++[x]++l.drop (i+1))=runC c l:=by
  have hd:=drop_at hx;have e:l.take (i+1)=l.take i++[x]:=by rw[un,hx];rfl
  have h2:runC c l=runC (zZ (runC c (l.take i)) x).1 (l.drop (i+1)):=by
    conv=>lhs;rw[hd]
    rw[zdE];rfl
  rw[h2,e,List.append_assoc,List.append_assoc,zdE];show runC (zZ (zZ (runC c (l.take i)) x).1 x).1 (l.drop (i+1))=_;rw[step_twice]
def zjr (l:List Int):Prop:=∀w∈l,0≤w∧w≤63
theorem step_fits {c:Client} {x:Msg} (h:zjr c.opn):zjr (zZ c x).1.opn:=by
  unfold zZ
  split
  · exact h
  split
  · unfold zeZ
    split
    · exact h
    split
    · exact h
    intro w hw;have hw:w∈c.opn++[x.who]:=hw;rcases List.mem_append.1 hw with hw|hw
    · exact h w hw
    rw[List.mem_singleton.1 hw];omega
  split
  · unfold zc0
    split
    · exact fun w hw=>h w ((List.mem_filter.1 hw).1)
    exact h
  split
  · rw[(zhS ..).2.2];exact h
  exact h
theorem zuV:∀(l:List Msg) {c:Client},zjr c.opn→zjr (runC c l).opn
  | [],_,h=>h
  | _::l,_,h=>zuV l (step_fits h)
theorem zuy {l:List Int} {w:Int}:(l.any fun x=>decide (w=x))=decide (w∈l):=by
  rw[Bool.eq_iff_iff,List.any_eq_true,uj]
  constructor
  · rintro ⟨x,hx,e⟩;rw[uj] at e;rw[e];exact hx
  intro h;exact⟨w,h,by simp⟩
theorem step_opn {c:Client} {x:Msg} (hf:zjr c.opn):(zZ c x).1.opn=if x.kind=1∧x.who∈c.opn then without c.opn x.who else if x.kind=0∧(0≤x.who∧x.who≤63)∧¬x.who∈c.opn∧c.opn.length<8 then c.opn++[x.who] else c.opn:=by
  by_cases a:x.who<0∨63<x.who∨x.kind<0∨3≤x.kind
  · have e:(zZ c x).1=c:=by unfold zZ;rw[ut a]
    rw[e,ur (fun h=>by have:=hf _ h.2;omega),ur (fun h=>by omega)]
  by_cases b:x.kind=0
  · have e:zZ c x=zeZ c x.who:=by unfold zZ;rw[ur a,ut b]
    rw[e,ur ya];unfold zeZ;by_cases d:x.who∈c.opn
    · rw[ut d,ur (fun h=>h.2.2.1 d)]
    rw[ur d];by_cases f:8≤c.opn.length
    · rw[ut f,ur ya]
    rw[ur f,ut ⟨b,by omega,d,by omega⟩]
  by_cases d:x.kind=1
  · have e:zZ c x=zc0 c x.who:=by unfold zZ;rw[ur a,ur b,ut d]
    rw[e];unfold zc0;by_cases f:x.who∈c.opn
    · rw[ut f,ut ⟨d,f⟩]
    rw[ur f,ur (fun h=>f h.2),ur (fun h=>b h.1)]
  rw[ur (fun h=>d h.1),ur (fun h=>b h.1)];unfold zZ;rw[ur a,ur b,ur d]
  split
  · exact(zhS ..).2.2
  rfl
theorem give_is {c:Client} {x:Msg} (hf:zjr c.opn):ziT c x=true↔x.kind=2∧x.who∈c.opn∧zbs x.raw=true∧(zam x.raw).m=c.m∧(zam x.raw).k=c.k∧zK (zam x.raw)=0:=by
  unfold ziT;rw[uk,uk,uj,uj]
  constructor
  · rintro ⟨⟨⟨_,h2,h3⟩,h4⟩,h5,h6,h7⟩
    exact⟨h2,h3,h4,h5,h6,h7⟩
  rintro ⟨h2,h3,h4,h5,h6,h7⟩
  exact⟨⟨⟨by have:=hf _ h3;omega,h2,h3⟩,h4⟩,h5,h6,h7⟩
theorem zak {c:Client} {l:List Msg} {i:Nat} {x:Msg} (hx:l[i]?=some x):za6 c (l.take (i+1))=za6 c (l.take i)++if ziT (runC c (l.take i)) x=true then [zam x.raw] else []:=by
  rw[un,hx];show za6 c (l.take i++[x])=_;rw[zlv];show _++((if ziT (runC c (l.take i)) x=true then [zam x.raw] else [])++[])=_;rw[List.append_nil]
theorem zvB:∀(l:List Msg) (c:Client),∀p∈za6 c l,zK p=0
  | [],_,p,h=>by cases h
  | x::l,c,p,h=>by
    rcases List.mem_append.1 h with h|h
    · split at h
      · rename_i g
        rw[List.mem_singleton.1 h];unfold ziT at g;rw[uk,uj] at g;exact g.2.2.2
      cases h
    exact zvB l _ p h
theorem znr:∀(l:List Msg) (c:Client),(za6 c l).length≤l.length
  | [],_=>ug _
  | x::l,c=>by
    have:=znr l (zZ c x).1
    show(_++za6 (zZ c x).1 l).length≤l.length+1;rw[ue]
    split<;>simp<;>omega
theorem fold_held {l:List Proof} (h:∀p∈l,zK p=0):(zvM l).1=zsG l:=by
  cases l with
  | nil=>rfl
  | cons p r=>rfl
def newC (m k:Int):Client:=⟨m,k,[],false,zb3⟩
theorem new_holds (m k:Int):Holds22 (newC m k) []:=⟨rfl,rfl,fun h=>absurd rfl h⟩
theorem zgs (m k:Int):SmC (newC m k):=⟨⟨show(0:Nat)≤110 by decide,fun x hx=>by cases hx⟩,show(0:Nat)≤1000 by decide⟩
theorem new_fits (m k:Int):zjr (newC m k).opn:=fun w hw=>by cases hw
theorem zvj (m k:Int):zoi (newC m k).opn:=⟨List.nodup_nil,show(0:Nat)≤8 by decide⟩
theorem zjB (c:Client):zdK zE c [.val i64T c.m,.val i64T c.k,.val (sl i64T) c.opn,.val zl c.have_,.val i64T c.p.m,.val i64T c.p.k,.val (sl zba) c.p.p]:=zjz (zaR zaS (zaR zaS (zaR zaS (zaR zaS (zjz (zaR zaS (zaR zaS zaS)))))))
theorem zsj (c:Client):zoj zE c [.val i64T c.m,.val i64T c.k,.val (sl i64T) c.opn,.val zl c.have_,.val i64T c.p.m,.val i64T c.p.k,.val (sl zba) c.p.p]:=zj2 (zb0 zbL (zb0 zbL (zb0 zbL (zb0 zbL (zj2 (zb0 zbL (zb0 zbL zbL)))))))
def zfS (m k:Int):Bool:=decide (1≤m∧m≤20∧1≤k∧k≤20)
def newR (m k:Int):Client:=if 1≤m∧m≤20∧1≤k∧k≤20 then newC m k else zeb
theorem zwb (l:List Int) (hl:l.length*8≤140737488355328∧l.length≤9223372036854775807):Tells P 106 [.val (bsl i64T) l] (.fresh 3 i64T l):=by
 refine zd Tryz.func106 rfl rfl rfl (fun ext w hext=>?_);refine ze (d:=0) rfl zm (fun hsl0=>?_);refine qa9 ?_;refine qbx ?_;refine zfk rfl rfl rfl rfl rfl zgu (fun c4 hc4=>?_);refine CN ?_;refine zn (p:=c4=true) rfl yA (fun ht4=>?_) (fun ht4=>?_)
 ·
  obtain rfl:=hc4 ht4;refine qa9 ?_;refine CN ?_;exact zb rfl rfl (zx rfl)
 refine CSQR ?_;refine zb9 (T:=i64T) (xs:=[]) rfl rfl rfl rfl zcj zgr trivial rfl rfl ?_;refine qa7 ?_;refine zC rfl rfl rfl rfl rfl rfl rfl zgr yaF ?_;refine qbJ ?_;exact zb rfl rfl (zh rfl rfl yA)
theorem equalInt (l m:List Int):Tells P 82 [.val (bsl i64T) l,.val (bsl i64T) m] (.val zl (decide (l=m))):=by
 refine zd Tryz.func82 rfl rfl rfl (fun ext w hext=>?_);refine ze (d:=0) rfl zm (fun hsl0=>?_);refine ze (d:=1) rfl zm (fun hsl1=>?_);refine qcQ ?_;refine qb5 ?_;refine qa7 ?_;refine qb5 ?_;refine qbk ?_;refine Cf (p:=¬l.length=m.length) (fun ht10=>?_) (fun ht10=>?_)
 ·
  refine qa3 ?_;exact zb rfl rfl (za rfl (uh (fun e=>ht10 (by rw[e]))).symm)
 refine qc2 ?_;refine qb5 ?_;refine qaH ?_;refine Lp (ι:=Nat) 0 (fun (k:Nat)=>((((Fr.none).set 0 (.val (bsl i64T) l)).set 1 (.val (bsl i64T) m)).set 12 (.val i64T (l.length:Int))).set 13 (.val i64T (k:Int))) (fun (k:Nat)=>Hp.none) (fun (k:Nat)=>k≤l.length∧l.take k=m.take k) (fun (k:Nat)=>l.length-k) (0) (⟨uf _,by simp⟩) ?_;intro k hinv;refine qar ?_;refine Cf (p:=k<l.length) (fun ht14=>?_) (fun ht14=>?_)
 ·
  obtain⟨x,hx⟩:∃x,l[k]?=some x:=⟨_,ub ht14⟩;obtain⟨y,hy⟩:∃y,m[k]?=some y:=yB;refine qaR ?_;refine qcv ?_;refine qcr ?_;refine G0 (zbu rfl rfl rfl zcj yj) ?_;refine qc8 ?_;refine qcr ?_;refine G0 (zbu rfl rfl rfl zcj yj) ?_;refine qc8 ?_;refine G0 zcQ ?_;refine GK.nil ?_;refine zn (p:=¬x=y) rfl yw (fun ht24=>?_) (fun ht24=>?_)
  ·
   refine qa3 ?_;exact zb rfl rfl (za rfl (uh (zgW hx hy ht24)).symm)
  refine qbq ?_;exact Nx (k+1) (⟨by omega,zc2 hx hy hinv.2 (by simpa using ht24)⟩) ya
 refine qcM ?_;exact zb rfl rfl (za rfl (ui yU).symm)
theorem zqI (l:List Part) (p:Part→Bool):Tells P 78 [.val (bsl zba) l,.fn1 P zba zl p] (.val i64T (idx p l)):=by
 refine zd Tryz.func78 rfl rfl rfl (fun ext w hext=>?_);refine ze (d:=0) rfl zm (fun hsl0=>?_);refine qcQ ?_;refine xz ?_;refine qaH ?_;refine Lp (ι:=Nat) 0 (fun (k:Nat)=>(((((Fr.none).set 0 (.val (bsl zba) l)).set 1 (.fn1 P zba zl p)).set 6 (.val (bsl zba) l)).set 7 (.val i64T (l.length:Int))).set 8 (.val i64T (k:Int))) (fun (k:Nat)=>Hp.none) (fun (k:Nat)=>k≤l.length∧idx p l=shift k (idx p (l.drop k))) (fun (k:Nat)=>l.length-k) (0) (⟨uf _,zdM p l⟩) ?_;intro k hinv;refine qar ?_;refine Cf (p:=k<l.length) (fun ht9=>?_) (fun ht9=>?_)
 ·
  obtain⟨x,hx⟩:∃x,l[k]?=some x:=ybi;refine qaR ?_;refine qaj ?_;refine A0 mF ?_;refine qav ?_;refine qcb ?_;refine qbp ?_;refine zn (p:=p x=true) rfl yA (fun ht16=>?_) (fun ht16=>?_)
  ·
   refine qb4 ?_;exact zb rfl rfl (za rfl (hinv.2.trans (zhO hx ht16)).symm)
  refine qbq ?_;exact Nx (k+1) (⟨by omega,hinv.2.trans (zlt hx ht16)⟩) ya
 refine qcM ?_;exact zb rfl rfl (za rfl (hinv.2.trans (zhP ya)).symm)
theorem indexInt (l:List Int) (v:Int):Tells P 252 [.val (bsl i64T) l,.val i64T v] (.val i64T (idx (fun x=>decide (v=x)) l)):=by
 refine zd Tryz.func252 rfl rfl rfl (fun ext w hext=>?_);refine ze (d:=0) rfl zm (fun hsl0=>?_);refine ze (d:=1) rfl zu (fun hin1=>?_);refine qcQ ?_;refine qb5 ?_;refine qaH ?_;refine Lp (ι:=Nat) 0 (fun (k:Nat)=>(((((Fr.none).set 0 (.val (bsl i64T) l)).set 1 (.val i64T v)).set 6 (.val (bsl i64T) l)).set 7 (.val i64T (l.length:Int))).set 8 (.val i64T (k:Int))) (fun (k:Nat)=>Hp.none) (fun (k:Nat)=>k≤l.length∧idx (fun x=>decide (v=x)) l=shift k (idx (fun x=>decide (v=x)) (l.drop k))) (fun (k:Nat)=>l.length-k) (0) (⟨uf _,zdM _ l⟩) ?_;intro k hinv;refine qar ?_;refine Cf (p:=k<l.length) (fun ht9=>?_) (fun ht9=>?_)
 ·
  obtain⟨x,hx⟩:∃x,l[k]?=some x:=ybi;refine qaR ?_;refine qbv ?_;refine qa7 ?_;refine qcc ?_;refine A0 zaH ?_;refine CN ?_;refine zn (p:=(decide (v=x))=true) rfl yw (fun ht16=>?_) (fun ht16=>?_)
  ·
   refine qb4 ?_;exact zb rfl rfl (za rfl (hinv.2.trans (zhO hx ht16)).symm)
  refine qbq ?_;exact Nx (k+1) (⟨by omega,hinv.2.trans (zlt hx ht16)⟩) ya
 refine qcM ?_;exact zb rfl rfl (za rfl (hinv.2.trans (zhP ya)).symm)
theorem zjl (l:List Int) (v:Int):Tells P 197 [.val (bsl i64T) l,.val i64T v] (.val zl (l.any fun x=>decide (v=x))):=by
 refine zd Tryz.func197 rfl rfl rfl (fun ext w hext=>?_);refine ze (d:=0) rfl zm (fun hsl0=>?_);refine ze (d:=1) rfl zu (fun hin1=>?_);refine CQR ?_;refine qbv ?_;refine A0 (oCl (indexInt _ _) rfl fn_252 ye) ?_;refine A0 zfb ?_;refine qae ?_;exact zb rfl rfl (za rfl (zhQ _ l))
theorem znb (m k:Int):Tells P 14 [.val i64T m,.val i64T k] (.tup2 (.val zE (newR m k)) (.val zl (zfS m k))):=by
 refine zd Tryz.func14 rfl rfl rfl (fun ext w hext=>?_);refine ze (d:=0) rfl zu (fun hin0=>?_);refine ze (d:=1) rfl zu (fun hin1=>?_);refine CQR ?_;refine zq zi2 rfl rfl rfl rfl ?_;refine qap ?_;refine A0 zcy ?_;refine qa7 ?_;refine Sp (d:=8) (p:=m<1) (fun g8=>?_) (fun g8=>?_)
 ·
  refine qcA ?_;refine qaf ?_;refine qbm ?_;refine qau ?_;refine Ct ?_;refine CQR ?_;refine A0 (zy rfl zi2 bd_29 .nil rfl) ?_;refine qaq ?_;refine qae ?_;exact zp rfl rfl (zs rfl rfl zbv ybg) (zQ (za rfl (ybj)))
 refine qcV ?_;refine A1 zbH ?_;refine qaf ?_;refine Sp (d:=12) (p:=20<m) (fun g12=>?_) (fun g12=>?_)
 ·
  refine qcA ?_;refine qau ?_;refine Ct ?_;refine CQR ?_;refine A0 (zy rfl zi2 bd_29 .nil rfl) ?_;refine qaq ?_;refine qae ?_;exact zp rfl rfl (zs rfl rfl zbv ybg) (zQ (za rfl (ybj)))
 refine qcV ?_;refine A1 zcy ?_;refine qaf ?_;refine Sp (d:=16) (p:=k<1) (fun g16=>?_) (fun g16=>?_)
 ·
  refine qbm ?_;refine qau ?_;refine Ct ?_;refine CQR ?_;refine A0 (zy rfl zi2 bd_29 .nil rfl) ?_;refine qaq ?_;refine qae ?_;exact zp rfl rfl (zs rfl rfl zbv ybg) (zQ (za rfl (ybj)))
 refine qcV ?_;refine A1 zbH ?_;refine qau ?_;refine Cf (p:=20<k) (fun ht19=>?_) (fun ht19=>?_)
 ·
  refine CQR ?_;refine A0 (zy rfl zi2 bd_29 .nil rfl) ?_;refine qaq ?_;refine qae ?_;exact zp rfl rfl (zs rfl rfl zbv ybg) (zQ (za rfl (ybj)))
 refine CSQR ?_;refine qav ?_;refine A0 (zy rfl zi2 bd_29 (.cons zh0 ziG ty_3 rfl (.cons zgg zfs ty_3 rfl .nil)) rfl) ?_;refine qaq ?_;refine qae ?_;exact zp rfl rfl (zs rfl rfl zbv (by unfold newR;rw[ut ya];rfl)) (zQ (za rfl ((by unfold zfS;rw[ui ya]))))
theorem zdN (a b:Client):Tells P 30 [.val zE a,.val zE b] (.val zl (decide (a=b))):=by
 refine zd Tryz.func30 rfl rfl rfl (fun ext w hext=>?_);refine qaA ?_;refine qaj ?_;refine A0 (oFp zh0) ?_;refine A0 (oLb ziG ty_3) ?_;refine A0 (oFp zh0) ?_;refine A0 (oLb ziG ty_3) ?_;refine A0 zaH ?_;refine qa7 ?_;refine zo (d:=10) (p:=a.m=b.m) rfl yw (fun g10=>?_) (fun g10=>?_)
 ·
  refine A1 (oFp zgg) ?_;refine A1 (oLb zfs ty_3) ?_;refine A1 (oFp zgg) ?_;refine A1 (oLb zfs ty_3) ?_;refine A1 zaH ?_;refine qaf ?_;refine zo (d:=17) (p:=a.k=b.k) rfl yw (fun g17=>?_) (fun g17=>?_)
  ·
   refine qaW ?_;refine qaW ?_;refine A1 (zvH rfl rfl rfl ub_4) ?_;refine qaf ?_;refine zo (d:=24) (p:=a.have_=b.have_) rfl (by first|rfl|(cases a.have_<;>cases b.have_<;>rfl)) (fun g24=>?_) (fun g24=>?_)
   ·
    refine A1 (oFp za9) ?_;refine A1 (oLb zaU zcF) ?_;refine A1 (oFp za9) ?_;refine A1 (oLb zaU zcF) ?_;refine A1 (oCl (equalInt a.opn b.opn) rfl fn_82 ye) ?_;refine qaf ?_;refine Sp (d:=31) (p:=a.opn=b.opn) (fun g31=>?_) (fun g31=>?_)
    ·
     refine A1 (oFp za8) ?_;refine A1 (oLb zb2 zaD) ?_;refine A1 (oFp za8) ?_;refine A1 (oLb zb2 zaD) ?_;refine A1 (oCl (zp2 a.p b.p) rfl fn_18 ye) ?_;refine qa6 ?_;exact zb rfl rfl (za rfl (yal))
    refine qaa ?_;refine qda ?_;exact zb rfl rfl (za rfl ((by symm;apply uh;intro h;exact g31 (by rw[h]))))
   refine qaa ?_;refine qc1 ?_;refine qda ?_;exact zb rfl rfl (za rfl ((by symm;apply uh;intro h;exact g24 (by rw[h]))))
  refine qaa ?_;refine qc1 ?_;refine qc1 ?_;refine qda ?_;exact zb rfl rfl (za rfl ((by symm;apply uh;intro h;exact g17 (by rw[h]))))
 refine qaa ?_;refine qc1 ?_;refine qc1 ?_;refine qc1 ?_;refine qda ?_;exact zb rfl rfl (za rfl ((by symm;apply uh;intro h;exact g10 (by rw[h]))))
theorem atFn_ok (h:Int) (x:Part):Tells P 79 [.val zba x,.rptr i64T h] (.val zl (decide (x.h.height=h))):=by
 refine zd Tryz.func79 rfl rfl rfl (fun ext w hext=>?_);refine qah ?_;refine qaj ?_;refine A0 (oFp za7) ?_;refine A0 (oFp zcf) ?_;refine A0 (oLb (zaV.comp zaa) ty_3) ?_;refine A0 (zf rfl rfl ty_3) ?_;refine A0 zaH ?_;refine qae ?_;exact zb rfl rfl (za rfl yw)
theorem zra (c:Client) (h:Int) (hc:SmC c):Tells P 26 [.val zE c,.val i64T h] (.tup2 (.val zba (atP c h)) (.val zl (atOk c h))):=by
 have hge:=zlu (fun x:Part=>decide (x.h.height=h)) c.p.p;have hit:atI c h=idx (fun x:Part=>decide (x.h.height=h)) c.p.p:=rfl;refine zd Tryz.func26 rfl rfl rfl (fun ext w hext=>?_);refine ze (d:=1) rfl zu (fun hin1=>?_);refine qaA ?_;refine zq zrl rfl rfl rfl rfl ?_;refine qaj ?_;refine A0 (oFp za8) ?_;refine A0 (oFp zag) ?_;refine A0 (oLb (zb2.comp zao) zci) ?_;refine xd ?_;refine A0 (oCl (zqI c.p.p (fun x=>decide (x.h.height=h))) rfl fn_78 ⟨yn,(by first|exact zdI (Cs:=[_]) rfl fn_79 yk ybN rfl (fun x=>atFn_ok h x)|exact zdH (Cs:=[_]) rfl fn_79 yk ybN rfl (fun x y=>atFn_ok h x)|exact zdJ rfl),trivial⟩) ?_;refine qbO ?_;refine A0 (oFp zfG) ?_;refine A0 (oLb zds ty_4) ?_;refine qcS ?_;refine zo (d:=16) (p:=¬c.have_=true) rfl yA (fun g16=>?_) (fun g16=>?_)
 ·
  refine qbm ?_;refine qau ?_;refine Ct ?_;refine CQR ?_;refine A0 (zy rfl zrl bd_72 .nil rfl) ?_;refine xc ?_;refine qae ?_;exact zp rfl rfl (zs rfl rfl zeW ((at_no (fun h=>by unfold atOk at h;rw[uk] at h;exact g16 h.1)).symm)) (zQ (za rfl (by symm;unfold atOk;simp[g16])))
 refine qcV ?_;refine A1 zcy ?_;refine qau ?_;refine zn (p:=atI c h<0) rfl (by rw[hit,uo];simp only[IntL.toI,id_eq]) (fun ht19=>?_) (fun ht19=>?_)
 ·
  refine CQR ?_;refine A0 (zy rfl zrl bd_72 .nil rfl) ?_;refine xc ?_;refine qae ?_;exact zp rfl rfl (zs rfl rfl zeW ((at_no (fun hh=>by unfold atOk at hh;rw[uk,uj] at hh;omega)).symm)) (zQ (za rfl (by symm;unfold atOk;rw[uh ya,Bool.and_false])))
 have hyo:atOk c h=true:=by unfold atOk;rw[ua g16,Bool.true_and,uj];omega
 have hya:=at_yes hyo;have hyi:=hya.2.2.1;refine zi (d:=6) (y:=(((atI c h).toNat:Nat):Int)) rfl (by rw[Int.toNat_of_nonneg ya];rfl) ?_;refine CSQR ?_;refine A0 (oFp za8) ?_;refine A0 (oFp zag) ?_;refine A0 (oLb (zb2.comp zao) zci) ?_;refine qa7 ?_;refine A0 (zV (i:=(atI c h).toNat) rfl rfl rfl ya zdV yj) ?_;refine A0 (zf rfl rfl zeW) ?_;refine qaI ?_;refine CNQR ?_;refine A0 (oFp zbz) ?_;refine A0 (oLb zbC zcc) ?_;refine A0 (oCl (zB (zh4 (atP c h).l (by have:=hc.1.2 _ (ud hya.2.2.1);constructor<;>omega))) rfl zsN yd) ?_;refine A0 (oFp zbz) ?_;refine zg rfl rfl rfl rfl rfl zbC zcc rfl ?_;refine CNQR ?_;refine A0 (oLs rfl rfl rfl zeW) ?_;refine xc ?_;refine qae ?_;exact zp rfl rfl (zs rfl rfl zeW (rfl)) (zQ (za rfl (hyo.symm)))
theorem zcL (c:Client) (hc:SmC c):Tells P 48 [.val zE c] (.val zE c):=by
 have hc1:=hc.1.1;have hc2:=hc.2;refine zd Tryz.func48 rfl rfl rfl (fun ext w hext=>?_);refine qah ?_;refine zq zi2 rfl rfl rfl rfl ?_;refine CN ?_;refine zfM 0 (x:=c) (zjB c) rfl ?_;refine CQ ?_;refine zA [some 1,some 1,none,some 2,some 2,some 2,none,some 2,none,some 1,some 1,none] mixed yc ?_;refine X0 (oFp za9) ?_;refine X0 (zO rfl rfl rfl rfl rfl zcF) ?_;refine XK.e (fun fr' hfr kk H=>by exact zaQ (zwb c.opn y6) rfl fn_106 ⟨(zc ((hfr 6 yc).trans rfl)),trivial⟩ rfl rfl rfl (zt H)) ?_;refine XK.g2 (zdp rfl rfl za8 rfl) (zdp rfl rfl za8 rfl) rfl rfl rfl ?_;refine XK.g2 (zdp rfl rfl zag rfl) (zdp rfl rfl zag rfl) rfl rfl rfl ?_;refine XK.gb (t:=9) rfl rfl (fun _ he=>zO rfl rfl he rfl rfl zci) rfl ybR rfl rfl rfl ?_;refine XK.e (fun fr' hfr kk H=>by exact zaQ (znX c.p.p y6) rfl fn_107 ⟨(zc ((hfr 10 yc).trans rfl)),trivial⟩ rfl rfl rfl (zt H)) ?_;refine XK.g2 (zdp rfl rfl za9 rfl) (zdp rfl rfl za9 rfl) rfl rfl rfl ?_;refine XK.e (x:=.idk) (fun fr' hfr kk H=>by exact zap rfl rfl rfl ((hfr 12 yc).trans rfl) rfl rfl ((hfr 7 yc).trans rfl) rfl rfl rfl zcF (zt H)) ?_;refine X0 (oFp za8) ?_;refine X0 (oFp zag) ?_;refine XK.e (x:=.idk) (fun fr' hfr kk H=>by exact zap rfl rfl rfl ((hfr 14 yc).trans rfl) rfl rfl ((hfr 11 yc).trans rfl) rfl rfl rfl zci (zt H)) ?_;refine XK.nil' ?_;refine CQQR ?_;refine A0 (oFp za8) ?_;refine qcK ?_;refine Lp (ι:=Nat) 4 (fun (i:Nat)=>(((((Fr.none).set 1 (.ptr 0 0)).set 2 (.ptr 1 0)).set 17 (.own 3)).set 18 (.val i64T (c.p.p.length:Int))).set 19 (.val i64T (i:Int))) (fun (i:Nat)=>((((Hp.none).set 0 (.parts 29 [.val i64T c.m,.val i64T c.k,.own 2,.val zl c.have_,.val i64T c.p.m,.val i64T c.p.k,.own 3])).set 1 (.box 29 zE zeb)).set 2 (.row 3 i64T c.opn)).set 3 (.row 72 zba c.p.p)) (fun (i:Nat)=>i≤c.p.p.length) (fun (i:Nat)=>c.p.p.length-i) (0) (uf _) ?_;intro i hinv;refine qar ?_;refine Cf (p:=i<c.p.p.length) (fun ht20=>?_) (fun ht20=>?_)
 ·
  obtain⟨x,hx⟩:∃x,c.p.p[i]?=some x:=⟨_,ub ht20⟩;refine qaR ?_;refine A0 (zb8 (i:=i) rfl rfl rfl rfl yp zdV yg) ?_;refine qbF ?_;refine xj ?_;refine X0 (oFp za8) ?_;refine qcp ?_;refine X0 (oCl (zB (zh4 x.l (by have:=hc.1.2 x (ud hx);constructor<;>omega))) rfl zsN yd) ?_;refine X0 (zb8 (i:=i) rfl rfl rfl rfl yp zdV yg) ?_;refine X0 (znw rfl rfl zbz rfl) ?_;refine XK.e (x:=.idk) (fun fr' hfr kk H=>by exact zdc rfl rfl rfl ((hfr 32 yc).trans rfl) rfl rfl yj zbC zcc ((hfr 30 yc).trans rfl) (zt H)) ?_;refine qbj ?_;refine zj (n:=3) (y:=c.p.p) rfl (zpY hx) ?_;exact Nx (i+1) ya ya
 refine CE ?_;refine CQ ?_;refine zer 0 2 (pre:=[.val i64T c.m,.val i64T c.k]) rfl rfl rfl ?_;refine zer 0 3 (pre:=[.val i64T c.m,.val i64T c.k,.val (sl i64T) c.opn,.val zl c.have_,.val i64T c.p.m,.val i64T c.p.k]) rfl rfl rfl ?_;refine aw_joina 0 (zsj c) rfl ?_;refine CR ?_;refine qaB ?_;refine qaq ?_;refine CN ?_;exact z7 rfl rfl rfl rfl zbv (rfl)
theorem sure22_ok (c:Client) (h n i:Int) (tx:Ab.Id) (path:List Ab.Id) (hc:SmC c):Tells P 40 [.val zE c,.val i64T h,.val i64T n,.val i64T i,.val idT tx,.val (bsl idT) path] (.val zl (ztA c h n i tx path)):=by
 have hc1:=hc.1.1;refine zd Tryz.func40 rfl rfl rfl (fun ext w hext=>?_);refine ze (d:=1) rfl zu (fun hin1=>?_);refine ze (d:=2) rfl zu (fun hin2=>?_);refine ze (d:=3) rfl zu (fun hin3=>?_);refine ze (d:=5) rfl zm (fun hsl5=>?_);refine qaA ?_;refine qaj ?_;refine qcw ?_;refine A0 (oCl (zra c h hc) rfl fn_26 ye) ?_;refine qaN ?_;refine qaI ?_;refine qap ?_;refine qb3 ?_;refine zn (p:=¬atOk c h=true) rfl yA (fun ht23=>?_) (fun ht23=>?_)
 ·
  refine qa3 ?_;exact zb rfl rfl (za rfl (by symm;unfold ztA;simp[ht23]))
 have hyo:=ua ht23;have hya:=at_yes hyo;obtain⟨y,hy⟩:∃y,c.p.p[c.p.p.length-1]?=some y:=⟨_,ub (by have:=hya.2.2.2;omega)⟩;have hlast:c.p.p.getD (c.p.p.length-1) zrn=y:=ybl;refine CSQR ?_;refine A0 (oFp za8) ?_;refine A0 (oFp zag) ?_;refine A0 (oLb (zb2.comp zao) zci) ?_;refine A0 (oFp za8) ?_;refine A0 (oFp zag) ?_;refine A0 (oLb (zb2.comp zao) zci) ?_;refine xz ?_;refine A0 zbT ?_;refine A0 (zV (i:=c.p.p.length-1) rfl rfl rfl ya zdV yj) ?_;refine A0 (zf rfl rfl zeW) ?_;refine qaI ?_;refine CNQR ?_;refine qa7 ?_;refine A0 (oFp za7) ?_;refine A0 (oFp zcf) ?_;refine A0 (oLb (zaV.comp zaa) ty_3) ?_;refine A0 (oFp zgg) ?_;refine A0 (oLb zfs ty_3) ?_;refine A0 (zkX rfl rfl rfl (show _=(IntKind.i64.wrap (y.h.height-c.k):Int) from rfl)) ?_;refine A0 zgV ?_;refine qa7 ?_;refine Sp (d:=42) (p:=h≤IntKind.i64.wrap (y.h.height-c.k)) (fun g42=>?_) (fun g42=>?_)
 ·
  refine A1 (oFp za7) ?_;refine A1 (oFp zgf) ?_;refine A1 (oLb (zaV.comp zew) z6) ?_;refine qcV ?_;refine qcV ?_;refine A1 (oLs rfl rfl rfl z6) ?_;refine qcV ?_;refine A1 (oCl (zpE (atP c h).h.txs n i tx path) rfl fn_41 ⟨yn,yn,yn,yn,yn,trivial⟩) ?_;refine qa6 ?_;exact zb rfl rfl (za rfl (by unfold ztA;rw[hyo,hlast,ui g42];simp))
 refine qaa ?_;refine qaa ?_;refine qda ?_;exact zb rfl rfl (za rfl (by unfold ztA;rw[hyo,hlast,uh g42];simp))
structure DelOk (l R:List Int) (who:Int) (j:Nat):Prop where
  len:R.length=l.length
  lt:(without (l.take j) who).length<j
  front:R.take (without (l.take j) who).length=without (l.take j) who
  back:R.drop j=l.drop j
theorem zpS {l:List Int} {j:Nat} {x who:Int} (hx:l[j]?=some x):without (l.take (j+1)) who=without (l.take j) who++if x=who then [] else [x]:=by
  unfold without;rw[un,hx,List.filter_append];congr 1;show [x].filter _=_;rw[List.filter_cons];by_cases c:x=who
  · simp[c]
  simp[c]
theorem ztx {who:Int}:∀{l:List Int},¬who∈l→without l who=l:=fun {l} h=>by
  unfold without;refine List.filter_eq_self.2 fun x hx=>?_
  simp only[Bool.not_eq_true',decide_eq_false_iff_not];intro e;rw[e] at hx;exact h hx
theorem zpk {who:Int}:∀{l:List Int} {k:Nat},idx (fun x=>decide (x=who)) l=(k:Int)→¬who∈l.take k
  | [],k,h=>by simp
  | x::l,k,h=>by
    have hg:=zlu (fun x=>decide (x=who)) l;unfold idx at h
    split at h
    · have:k=0:=by omega
      subst this;simp
    rename_i c
    split at h
    · omega
    obtain⟨j,rfl⟩:∃j,k=j+1:=⟨k-1,by omega⟩
    have:=zpk (who:=who) (l:=l) (k:=j) ya
    rw[List.take_succ_cons,List.mem_cons]
    rintro (e|h2)
    · exact c (by simp[e])
    exact this h2
theorem idx_mem {who:Int} {l:List Int} (h:who∈l):¬idx (fun x=>decide (x=who)) l = -1:=fun e=>by
  have:=zhQ (fun x=>decide (x=who)) l
  rw[e] at this;have h2:(l.any fun x=>decide (x=who))=true:=List.any_eq_true.2 ⟨who,h,by simp⟩;rw[h2] at this;simp at this
theorem del_start {l:List Int} {who:Int} {k:Nat} {x:Int} (hx:l[k]?=some x) (hw:x=who) (hk:idx (fun x=>decide (x=who)) l=(k:Int)):DelOk l l who (k+1)∧(without (l.take (k+1)) who).length=k:=by
  obtain⟨hl,_⟩:=ul.1 hx;have e:without (l.take (k+1)) who=l.take k:=by rw[zpS hx,ut hw,List.append_nil,ztx (zpk hk)]
  have e2:(without (l.take (k+1)) who).length=k:=by rw[e,um];omega
  exact⟨⟨rfl,by omega,by rw[e2,e],rfl⟩,e2⟩
theorem del_at {l R:List Int} {who:Int} {j:Nat} (h:DelOk l R who j):R[j]?=l[j]?:=by
  have:=congrArg (·[0]?) h.back
  simpa using this
theorem del_keep {l R:List Int} {who:Int} {j:Nat} {x:Int} (h:DelOk l R who j) (hx:l[j]?=some x) (hn:¬x=who):DelOk l (R.set (without (l.take j) who).length x) who (j+1)∧(without (l.take (j+1)) who).length=(without (l.take j) who).length+1:=by
  obtain⟨hl,_⟩:=ul.1 hx;have e:without (l.take (j+1)) who=without (l.take j) who++[x]:=by rw[zpS hx,ur hn]
  have e2:(without (l.take (j+1)) who).length=(without (l.take j) who).length+1:=by rw[e,ue];rfl
  have h1:=h.len;have h2:=h.lt;refine⟨⟨by rw[List.length_set];exact h1,by omega,?_,?_⟩,e2⟩
  · rw[e2,un,List.getElem?_set_self ya,e]
    rw[List.take_set_of_le (ug _),h.front];rfl
  rw[List.drop_set_of_lt ya,←List.drop_drop,h.back,List.drop_drop]
theorem del_skip {l R:List Int} {who:Int} {j:Nat} {x:Int} (h:DelOk l R who j) (hx:l[j]?=some x) (hn:x=who):DelOk l R who (j+1)∧(without (l.take (j+1)) who).length=(without (l.take j) who).length:=by
  have e:without (l.take (j+1)) who=without (l.take j) who:=by rw[zpS hx,ut hn,List.append_nil]
  have h2:=h.lt;exact⟨⟨h.len,by rw[e];omega,by rw[e];exact h.front,by rw[←List.drop_drop,h.back,List.drop_drop]⟩,by rw[e]⟩
theorem del_end {l R:List Int} {who:Int} {j:Nat} (h:DelOk l R who j) (hj:l.length≤j) (z:List Int):(R.take (without l who).length++z).take (without l who).length=without l who:=by
  have e:l.take j=l:=uc hj;have hf:=h.front;rw[e] at hf;have h2:=List.length_filter_le (fun x=>!decide (x=who)) l;have h1:=h.len;rw[List.take_append_of_le_length (by rw[um];unfold without;omega),List.take_take,Nat.min_self,hf]
def workZ:Array Value:=#[.int .i64 0,.int .i64 0,.slice none 0 0,.bool false,.int .i64 0,.int .i64 0,.slice none 0 0,.int .i64 0,.int .i64 0,.slice none 0 0]
theorem run_work {o:Oper} {y0 y1:Operand} (ho:o.op = .build 157 #[(0,y0),(1,y1)]) (e:Operand→Value) (w:World) (h:([y0,y1].map fun y=>(e y).cells.size)=[7,3]):(execOp e o).run P w = .ok (.value (.agg ([y0,y1].flatMap fun y=>(e y).cells.toList).toArray)) w :=
  run_build2 (z:=workZ) (fun w=>by kernel_rfl) yo yo yo ho e w h
theorem split_msg (kd who:Int) (raw:List UInt8):zdK msgT (⟨kd,who,raw⟩:Msg) [.val i64T kd,.val i64T who,.val (sl u8T) raw]:=zjz (zaR zaS (zaR zaS zaS))
theorem ztZ (p:Proof):zoj zP p [.val i64T p.m,.val i64T p.k,.val (sl zba) p.p]:=zj2 (zb0 zbL (zb0 zbL zbL))
theorem zsk (m k:Int) (o:List Int) (h:Bool) (p:Proof):zoj zE (⟨m,k,o,h,p⟩:Client) [.val i64T m,.val i64T k,.val (sl i64T) o,.val zl h,.val zP p]:=zj2 (zb0 zbL (zb0 zbL (zb0 zbL (zb0 zbL zbL))))
theorem any_mem' {l:List Int} {w:Int}:decide (w∈l)=(l.any fun x=>decide (w=x)):=zuy.symm
theorem zrc {l:List Int} {w:Int}:decide (¬w∈l) = !(l.any fun x=>decide (w=x)):=by rw[zuy];simp
theorem zdw {c:Client} {kd who:Int} {raw:List UInt8} (h:who<0∨63<who∨kd<0∨3≤kd):zZ c ⟨kd,who,raw⟩=(c,1):=by unfold zZ;exact ut h
theorem zaW {c:Client} {kd who:Int} {raw:List UInt8} (h:¬(who<0∨63<who∨kd<0∨3≤kd)):zZ c ⟨kd,who,raw⟩=if kd=0 then zeZ c who else if kd=1 then zc0 c who else if who∈c.opn then zaI c raw else (c,9):=by
  have e:zZ c ⟨kd,who,raw⟩=if who<0∨63<who∨kd<0∨3≤kd then (c,1) else if kd=0 then zeZ c who else if kd=1 then zc0 c who else if who∈c.opn then zaI c raw else (c,9):=rfl
  rw[e,ur h]
theorem wo_short {l:List Int} {who:Int} (h:who∈l):(without l who).length<l.length:=by
  unfold without;exact List.length_filter_lt_length_iff_exists.2 ⟨who,h,by simp⟩
theorem zcS (c:Client) (x:Msg) (hc:SmC c) (hr:x.raw.length≤1000000000):Tells P 31 [.val zE c,.val msgT x] (.tup2 (.val zE (zZ c x).1) (.val i64T (zZ c x).2)):=by
 obtain⟨kd,who,raw⟩:=x;have hraw:raw.length≤1000000000:=hr;have hc1:=hc.1.1;have hc2:=hc.2;refine zd Tryz.func31 rfl rfl rfl (fun ext w hext=>?_);refine qaA ?_;refine zq zi2 rfl rfl rfl rfl ?_;refine qaj ?_;refine A0 (zqN (xs:=[_,_,_]) rfl zwq ze_155 ⟨rfl,⟨_,rfl,rfl⟩,rfl,⟨_,rfl,rfl⟩,rfl,⟨_,rfl,rfl⟩,trivial⟩ rfl) ?_;refine zq ze_155 rfl rfl rfl rfl ?_;refine zg rfl rfl rfl rfl rfl (Lens.self _) ty_155 rfl ?_;refine CNQQR ?_;refine A0 (oFp za1) ?_;refine A0 (oLb zaM ty_3) ?_;refine A0 zcy ?_;refine Sp (d:=12) (p:=who<0) (fun g12=>?_) (fun g12=>?_)
 ·
  refine qa7 ?_;refine qb1 ?_;refine qaf ?_;refine qcU ?_;refine Ct ?_;refine CQR ?_;refine qaB ?_;refine xB ?_;refine qaq ?_;refine qae ?_;exact zp rfl rfl (zs rfl rfl zbv yaI) (zQ (za rfl yaI))
 refine qa7 ?_;refine A1 (oFp za1) ?_;refine A1 (oLb zaM ty_3) ?_;refine A1 zbH ?_;refine A0 oK ?_;refine Sp (d:=17) (p:=63<who) (fun g17=>?_) (fun g17=>?_)
 ·
  refine qa7 ?_;refine qb1 ?_;refine qau ?_;refine Ct ?_;refine CQR ?_;refine qaB ?_;refine xB ?_;refine qaq ?_;refine qae ?_;exact zp rfl rfl (zs rfl rfl zbv yaI) (zQ (za rfl yaI))
 refine qa7 ?_;refine A1 (oFp zbr) ?_;refine A1 (oLb zax ty_3) ?_;refine A1 zcy ?_;refine A0 oK ?_;refine Sp (d:=22) (p:=kd<0) (fun g22=>?_) (fun g22=>?_)
 ·
  refine qa7 ?_;refine qcU ?_;refine Ct ?_;refine CQR ?_;refine qaB ?_;refine xB ?_;refine qaq ?_;refine qae ?_;exact zp rfl rfl (zs rfl rfl zbv yaI) (zQ (za rfl yaI))
 refine qa7 ?_;refine A1 (oFp zbr) ?_;refine A1 (oLb zax ty_3) ?_;refine A1 zfb ?_;refine qau ?_;refine Cf (p:=3≤kd) (fun ht27=>?_) (fun ht27=>?_)
 ·
  refine CQR ?_;refine qaB ?_;refine xB ?_;refine qaq ?_;refine qae ?_;exact zp rfl rfl (zs rfl rfl zbv yaI) (zQ (za rfl yaI))
 refine qcH ?_;refine zA [some 1,none,some 2,some 1,none,some 1] mixed yc ?_;refine X0 (oLs rfl rfl rfl zbv) ?_;refine XK.e (fun fr' hfr kk H=>by
  refine zpJ _ rfl rfl rfl rfl (consEq (hfr 30 yc) (rfl)) Tryz.func48 zje rfl rfl (fun ia1 iok1=>?_);refine qah ?_;refine zq zi2 rfl rfl rfl rfl ?_;refine CN ?_;refine zfM 4 (x:=c) (zjB c) rfl ?_;refine CQ ?_;refine zA [some 1,some 1,none,some 2,some 2,some 2,none,some 2,none,some 1,some 1,none] mixed yc ?_;refine X0 (oFp za9) ?_;refine X0 (zO rfl rfl rfl rfl rfl zcF) ?_;refine XK.e (fun fr' hfr kk H=>by exact zaQ (zwb c.opn y6) rfl fn_106 ⟨(zc ((hfr 6 yc).trans rfl)),trivial⟩ rfl rfl rfl (zt H)) ?_;refine XK.g2 (zdp rfl rfl za8 rfl) (zdp rfl rfl za8 rfl) rfl rfl rfl ?_;refine XK.g2 (zdp rfl rfl zag rfl) (zdp rfl rfl zag rfl) rfl rfl rfl ?_;refine XK.gb (t:=9) rfl rfl (fun _ he=>zO rfl rfl he rfl rfl zci) rfl ybR rfl rfl rfl ?_;refine XK.e (fun fr' hfr kk H=>by exact zaQ (znX c.p.p y6) rfl fn_107 ⟨(zc ((hfr 10 yc).trans rfl)),trivial⟩ rfl rfl rfl (zt H)) ?_;refine XK.g2 (zdp rfl rfl za9 rfl) (zdp rfl rfl za9 rfl) rfl rfl rfl ?_;refine XK.e (x:=.idk) (fun fr' hfr kk H=>by exact zap rfl rfl rfl ((hfr 12 yc).trans rfl) rfl rfl ((hfr 7 yc).trans rfl) rfl rfl rfl zcF (zt H)) ?_;refine X0 (oFp za8) ?_;refine X0 (oFp zag) ?_;refine XK.e (x:=.idk) (fun fr' hfr kk H=>by exact zap rfl rfl rfl ((hfr 14 yc).trans rfl) rfl rfl ((hfr 11 yc).trans rfl) rfl rfl rfl zci (zt H)) ?_;refine XK.nil' ?_;refine CQQR ?_;refine A0 (oFp za8) ?_;refine qcK ?_;refine Lp (ι:=Nat) 8 (fun i=>((((Fr.none.set 1 (.ptr 4 0)).set 2 (.ptr 5 0)).set 17 (.own 7)).set 18 (.val i64T (c.p.p.length:Int))).set 19 (.val i64T (i:Int))) (fun i=>(((((((Hp.none.set 0 (.box 29 zE c)).set 1 (.box 36 msgT ⟨kd,who,raw⟩)).set 2 (.box 29 zE zeb)).set 3 (.box 155 (arrT 3 yr fnoT) [some 83,some 84,some 85])).set 4 (.parts 29 [.val i64T c.m,.val i64T c.k,.own 6,.val zl c.have_,.val i64T c.p.m,.val i64T c.p.k,.own 7])).set 5 (.box 29 zE zeb)).set 6 (.row 3 i64T c.opn)).set 7 (.row 72 zba c.p.p)) (fun i=>i≤c.p.p.length) (fun i=>c.p.p.length-i) (0) (uf _) ?_;intro i hinv;refine qar ?_;refine Cf (p:=i<c.p.p.length) (fun ht20=>?_) (fun ht20=>?_)
  ·
   obtain⟨x,hx⟩:∃x,c.p.p[i]?=some x:=⟨_,ub ht20⟩;refine qaR ?_;refine A0 (zb8 (i:=i) rfl rfl rfl rfl yp zdV yg) ?_;refine qbF ?_;refine xj ?_;refine X0 (oFp za8) ?_;refine qcp ?_;refine X0 (oCl (zB (zh4 x.l (by have:=hc.1.2 x (ud hx);constructor<;>omega))) rfl zsN yd) ?_;refine X0 (zb8 (i:=i) rfl rfl rfl rfl yp zdV yg) ?_;refine X0 (znw rfl rfl zbz rfl) ?_;refine XK.e (x:=.idk) (fun fr' hfr kk H=>by exact zdc rfl rfl rfl ((hfr 32 yc).trans rfl) rfl rfl yj zbC zcc ((hfr 30 yc).trans rfl) (zt H)) ?_;refine qbj ?_;refine zj (n:=7) (y:=c.p.p) rfl (zpY hx) ?_;exact Nx (i+1) ya ya
  refine CE ?_;refine CQ ?_;refine zer 4 7 (pre:=[.val i64T c.m,.val i64T c.k,.own 6,.val zl c.have_,.val i64T c.p.m,.val i64T c.p.k]) rfl rfl rfl ?_;refine zn9 4 (pre:=[.val i64T c.m,.val i64T c.k,.own 6,.val zl c.have_]) (ztZ c.p) rfl rfl ?_;refine CR ?_;refine A0 (g_loadcat rfl rfl rfl rfl zbv) ?_;refine zut rfl rfl rfl rfl rfl rfl rfl rfl zbv ?_;refine CN ?_;refine zn7 (nx':=8) (fr':=(Fr.none).set 2 (.ptr 5 0)) (hp':=((((((Hp.none).set 0 (.box 29 zE c)).set 1 (.box 36 msgT ⟨kd,who,raw⟩)).set 2 (.box 29 zE zeb)).set 3 (.box 155 (arrT 3 yr fnoT) [some 83,some 84,some 85])).set 5 (.parts 29 [.val i64T c.m,.val i64T c.k,.own 6,.val zl c.have_,.val zP c.p])).set 6 (.row 3 i64T c.opn)) ?_ rfl (by (repeat refine Fr.le_set ?_ yaP);exact Fr.le_none _) (by (repeat refine Hp.le_set ?_ rfl);exact Hp.le_none _) (by (repeat refine Fr.below_setB ?_ rfl);exact Fr.below_none _) (by (repeat refine Hp.below_set ?_ yr);exact Hp.below_none _);exact aw_backcat rfl rfl rfl rfl zbv (zt H)) ?_
 refine XK.gb (t:=3) rfl rfl (fun _ he=>zr rfl rfl he (Lens.self _) zmx) rfl ybR rfl rfl rfl ?_;refine X0 (zt7 rfl (fun e w h=>run_work rfl e w h) rfl rfl) ?_;refine XK.e (fun fr' hfr kk H=>by exact aw_boxcat rfl rfl rfl rfl ((hfr 33 yc).trans rfl) rfl (zt H)) ?_;refine X0 aP ?_;refine XK.nil' ?_;refine zte 8 (pre:=[.val i64T c.m,.val i64T c.k,.own 6,.val zl c.have_,.val zP c.p]) (split_msg _ who raw) rfl ?_;refine CQ ?_;refine CQ ?_;rcases (show kd=0∨kd=1∨kd=2 by omega) with rfl|rfl|rfl
 ·
  refine CR ?_;refine A0 (oFp zbr) ?_;refine A0 (oLb zax ty_3) ?_;refine A0 (zD (i:=0) rfl rfl rfl yp zwq ya) ?_;refine A0 (zr rfl rfl rfl (Lens.elem (i:=0) ya fnoT) ty_153) ?_;refine zi (d:=38) (y:=some 83) rfl rfl ?_;refine zdA (d:=38) (f:=83) rfl ?_;refine ze4 3 ?_;refine A0 mP ?_;refine zdT rfl rfl rfl rfl rfl Tryz.func83 fn_83 rfl rfl yF (fun ia5 iok5=>?_);refine CQR ?_;refine qaQ ?_;refine CB ?_;refine CQR ?_;refine A0 mP ?_;refine zR rfl rfl rfl rfl Tryz.func150 fn_150 rfl rfl (fun ia6 iok6=>?_);refine CQR ?_;refine qbg ?_;refine xC ?_;refine qbs ?_;refine zcw rfl ?_;refine qaT ?_;refine zn (p:=who∈c.opn) rfl (by first|exact any_mem'|exact zuy) (fun ht3=>?_) (fun ht3=>?_)
  ·
   refine qa3 ?_;refine qbV ?_;refine Ct ?_;refine CQR ?_;refine qaB ?_;refine xB ?_;refine qcI ?_;exact zp rfl rfl (zs rfl rfl zbv (by rw[zaW ya,ut rfl];unfold zeZ;rw[ut ht3])) (zQ (za rfl (by rw[zaW ya,ut rfl];unfold zeZ;rw[ut ht3])))
  refine CQR ?_;refine A0 mP ?_;refine qco ?_;refine A0 (oFp zcv) ?_;refine A0 (oFp za9) ?_;refine A0 (zO rfl rfl rfl rfl rfl zcF) ?_;refine A0 (zbe rfl rfl rfl zgu) ?_;refine A0 zfb ?_;refine qae ?_;refine Cf (p:=8≤c.opn.length) (fun ht6=>?_) (fun ht6=>?_)
  ·
   refine qa3 ?_;refine qbV ?_;refine Ct ?_;refine CQR ?_;refine qaB ?_;refine xB ?_;refine qcI ?_;exact zp rfl rfl (zs rfl rfl zbv (by rw[zaW ya,ut rfl];unfold zeZ;rw[ur ht3,ut ht6])) (zQ (za rfl (by rw[zaW ya,ut rfl];unfold zeZ;rw[ur ht3,ut ht6])))
  refine CS ?_;refine CI ?_;refine CQ ?_;refine zA [some 1000001,some 1,some 1,some 1,some 1,some 1,some 1,some 1,some 1,some 1,some 1,some 1,none,some 1,some 1,some 1,none] mixed yc ?_;refine XK.ga (fun _=>g_mp (.inl rfl) rfl) rfl rfl rfl ?_;refine X0 mP ?_;refine xk ?_;refine X0 (oFp zcv) ?_;refine X0 (oFp za9) ?_;refine X0 (zO rfl rfl rfl rfl rfl zcF) ?_;refine X0 mP ?_;refine xk ?_;refine X0 (oFp zkf) ?_;refine X0 (oFp za1) ?_;refine X0 (zO rfl rfl rfl rfl rfl ty_3) ?_;refine X0 (zL (T:=i64T) (xs:=[_]) rfl zcj zgr yE rfl rfl) ?_;refine XK.e (fun fr' hfr kk H=>by exact zC rfl rfl rfl rfl ((hfr 19 yc).trans rfl) rfl ((hfr 25 yc).trans rfl) zgr yK (zt H)) ?_;refine xk ?_;refine X0 (oFp zcv) ?_;refine X0 (oFp za9) ?_;refine XK.e (x:=.idk) (fun fr' hfr kk H=>by exact zap rfl rfl rfl ((hfr 29 yc).trans rfl) rfl rfl ((hfr 26 yc).trans rfl) rfl rfl rfl zcF (zt H)) ?_;refine XK.nil' ?_;refine qa3 ?_;refine qbV ?_;refine Cg ?_;refine qcH ?_;refine zaz 9 6 12 rfl rfl rfl rfl rfl rfl ?_;refine xD ?_;refine qbf ?_;exact zp rfl rfl (zs rfl rfl zbv (by rw[zaW ya,ut rfl];unfold zeZ;rw[ur ht3,ur ht6])) (zQ (za rfl (by rw[zaW ya,ut rfl];unfold zeZ;rw[ur ht3,ur ht6])))
 ·
  refine CR ?_;refine A0 (oFp zbr) ?_;refine A0 (oLb zax ty_3) ?_;refine A0 (zD (i:=1) rfl rfl rfl yp zwq ya) ?_;refine A0 (zr rfl rfl rfl (Lens.elem (i:=1) ya fnoT) ty_153) ?_;refine zi (d:=38) (y:=some 84) rfl rfl ?_;refine zdA (d:=38) (f:=84) rfl ?_;refine ze4 3 ?_;refine A0 mP ?_;refine zdT rfl rfl rfl rfl rfl Tryz.func84 fn_84 rfl rfl yF (fun ia7 iok7=>?_);refine CQR ?_;refine zq7 rfl rfl rfl rfl rfl rfl rfl ?_;refine qbO ?_;refine A0 (zO rfl rfl rfl rfl rfl zrx) ?_;refine zR rfl rfl rfl rfl Tryz.func150 fn_150 rfl rfl (fun ia9 iok9=>?_);refine CQR ?_;refine qbg ?_;refine xC ?_;refine qbs ?_;refine zcw rfl ?_;refine qb3 ?_;refine zn (p:=¬who∈c.opn) rfl (by first|exact zrc|exact zrc.symm) (fun ht5=>?_) (fun ht5=>?_)
  ·
   refine qa3 ?_;refine qbV ?_;refine Ct ?_;refine CQR ?_;refine qaB ?_;refine xB ?_;refine qcI ?_;exact zp rfl rfl (zs rfl rfl zbv (by rw[zaW ya,ur yr,ut rfl];unfold zc0;rw[ur ht5])) (zQ (za rfl (by rw[zaW ya,ur yr,ut rfl];unfold zc0;rw[ur ht5])))
  have hwm:=ua ht5;refine qcH ?_;refine zA [some 1000001,some 1,some 1,some 1,some 1,some 1,some 1,none,some 1,some 1,some 1,none] mixed yc ?_;refine XK.gf (t:=1) rfl rfl (fun _ he=>zO rfl rfl he rfl rfl zrx) ⟨yN,trivial⟩ rfl rfl rfl ?_;refine X0 (zO rfl rfl rfl rfl rfl zrx) ?_;refine xk ?_;refine X0 (oFp zcv) ?_;refine X0 (oFp za9) ?_;refine X0 (zO rfl rfl rfl rfl rfl zcF) ?_;refine X0 (zj6 (caps:=[_]) rfl rfl) ?_;refine XK.e (fun fr' hfr kk H=>by
   refine zpJ _ rfl rfl rfl rfl (consEq (hfr 11 yc) (consEq (hfr 12 yc) (rfl))) Tryz.func151 fn_151 rfl rfl (fun ia10 iok10=>?_);refine qcn ?_;refine A0 mO ?_;refine A0 mC ?_;refine zR rfl rfl rfl rfl Tryz.func198 fn_198 rfl rfl (fun ia11 iok11=>?_);refine CQR ?_;refine qbO ?_;refine A0 mO ?_;refine A0 (zbe rfl rfl rfl zgu) ?_;refine qaH ?_;refine Lp (ι:=Nat) 10 (fun k=>((((Fr.none.set 0 (.own 6)).set 1 (.clo 152 [9])).set 6 (.own 6)).set 7 (.val i64T (c.opn.length:Int))).set 8 (.val i64T (k:Int))) (fun k=>(((Hp.none.set 2 (.box 29 zE zeb)).set 8 (.parts 157 [.val i64T c.m,.val i64T c.k,.own 6,.val zl c.have_,.val zP c.p,.val i64T 1,.val i64T who,.val (sl u8T) raw])).set 6 (.row 3 i64T c.opn)).set 9 (.parts 154 [.ptr 8 0])) (fun k=>k≤c.opn.length∧idx (fun x=>decide (x=who)) c.opn=shift k (idx (fun x=>decide (x=who)) (c.opn.drop k))) (fun k=>c.opn.length-k) (0) (⟨uf _,zdM _ _⟩) ?_;intro k hinv;refine qar ?_;refine Cf (p:=k<c.opn.length) (fun ht9=>?_) (fun ht9=>?_)
   ·
    obtain⟨x,hx⟩:∃x,c.opn[k]?=some x:=ybi;refine qaR ?_;refine qaj ?_;refine A0 mC ?_;refine A0 mO ?_;refine qa7 ?_;refine A0 (zb8 rfl rfl rfl rfl yp zcj yg) ?_;refine qcF ?_;refine zdT rfl rfl rfl rfl rfl Tryz.func152 fn_152 rfl rfl yO (fun ia12 iok12=>?_);refine CQR ?_;refine qaL ?_;refine A0 (zO rfl rfl rfl rfl rfl zrx) ?_;refine qco ?_;refine A0 (oFp zkf) ?_;refine A0 (oFp za1) ?_;refine A0 (zO rfl rfl rfl rfl rfl ty_3) ?_;refine A0 zaH ?_;refine qae ?_;refine zcw rfl ?_;refine CN ?_;refine zn (p:=x=who) rfl yw (fun ht16=>?_) (fun ht16=>?_)
    ·
     have hk:=hinv.2.trans (zhO hx (by simp[ht16]));have hds:=del_start hx ht16 hk;refine qb4 ?_;refine zcw rfl ?_;refine A0 aX ?_;refine CNQQR ?_;refine A0 mX ?_;refine A0 zaH ?_;refine CN ?_;refine zae rfl (uh yy) ?_;refine CSQQR ?_;refine A0 mX ?_;refine A0 zdl ?_;refine qcq ?_;refine zi (d:=5) (y:=((without (c.opn.take (k+1)) who).length:Int)) rfl (by rw[hds.2]) ?_;refine Lp (ι:=Nat×List Int) 10 (fun(j,R)=>(((Fr.none.set 0 (.own 6)).set 1 (.clo 152 [9])).set 5 (.val i64T ((without (c.opn.take j) who).length:Int))).set 6 (.val i64T (j:Int))) (fun(j,R)=>(((Hp.none.set 2 (.box 29 zE zeb)).set 8 (.parts 157 [.val i64T c.m,.val i64T c.k,.own 6,.val zl c.have_,.val zP c.p,.val i64T 1,.val i64T who,.val (sl u8T) raw])).set 6 (.row 3 i64T R)).set 9 (.parts 154 [.ptr 8 0])) (fun(j,R)=>DelOk c.opn R who j) (fun(j,R)=>c.opn.length-j) ((k+1,c.opn)) (hds.1) ?_;intro⟨j,R⟩ hj;dsimp only at hj;refine qbQ ?_;refine A0 mO ?_;refine A0 (zbe rfl rfl rfl zgu) ?_;refine qbr ?_;refine zn (p:=j<c.opn.length) rfl (by rw[uo];simp only[IntL.toI,id_eq,hj.len];omega) (fun ht19=>?_) (fun ht19=>?_)
     ·
      obtain⟨x,hx⟩:∃x,c.opn[j]?=some x:=⟨_,ub ht19⟩;have hxR:=(del_at hj).trans hx;have hlR:=hj.len;have hltR:=hj.lt;obtain⟨z,hz⟩:∃z,R[(without (c.opn.take j) who).length]?=some z:=yB;refine CSQBQR ?_;refine A0 mO ?_;refine qa7 ?_;refine A0 (zb8 (i:=j) rfl rfl rfl rfl yp zcj yg) ?_;refine qcF ?_;refine qaj ?_;refine A0 mC ?_;refine qa7 ?_;refine zdT rfl rfl rfl rfl rfl Tryz.func152 fn_152 rfl rfl yO (fun ia13 iok13=>?_);refine CQR ?_;refine qaL ?_;refine A0 (zO rfl rfl rfl rfl rfl zrx) ?_;refine qco ?_;refine A0 (oFp zkf) ?_;refine A0 (oFp za1) ?_;refine A0 (zO rfl rfl rfl rfl rfl ty_3) ?_;refine A0 zaH ?_;refine qae ?_;refine zcw rfl ?_;refine qb3 ?_;refine zn (p:=¬x=who) rfl yw (fun ht29=>?_) (fun ht29=>?_)
      ·
       have hdk:=del_keep hj hx ht29;refine qbZ ?_;refine qav ?_;refine A0 (zb8 (i:=(without (c.opn.take j) who).length) rfl rfl rfl rfl yp zcj yg) ?_;refine zdc rfl rfl rfl rfl rfl rfl yj (Lens.self _) ty_3 rfl ?_;refine CNR ?_;refine qb2 ?_;refine A0 aV ?_;refine CNIR ?_;refine qb2 ?_;refine qae ?_;refine zi (d:=5) (y:=((without (c.opn.take (j+1)) who).length:Int)) rfl (by have:=hdk.2;omega) ?_;exact Nx ((j+1,R.set (without (c.opn.take j) who).length x)) (hdk.1) (by show c.opn.length-(j+1)<c.opn.length-j;omega)
      have hdk:=del_skip hj hx (ua ht29);refine qa2 ?_;refine zi (d:=5) (y:=((without (c.opn.take (j+1)) who).length:Int)) rfl (by have:=hdk.2;omega) ?_;exact Nx ((j+1,R)) (hdk.1) (by show c.opn.length-(j+1)<c.opn.length-j;omega)
     have hlR:=hj.len;have hltR:=hj.lt;have htl:c.opn.take j=c.opn:=uc ya;have hde:=fun z=>del_end hj ya z
     rw[htl] at hltR;refine zi (d:=5) (y:=((without c.opn who).length:Int)) rfl (by rw[htl]) ?_;have hwl:(without c.opn who).length<c.opn.length:=wo_short hwm;refine CE ?_;refine qbZ ?_;refine qa7 ?_;refine A0 (g_os_l (p:=(without c.opn who).length) rfl rfl rfl rfl zcj yp yg) ?_;refine zwl rfl rfl rfl rfl rfl zgr ze_3 yL ?_;refine CNQR ?_;refine A0 mO ?_;refine qa7 ?_;refine A0 (zpn (q:=(without c.opn who).length) rfl rfl rfl rfl zcj yp yg) ?_;refine ztf (d:=41) (n:=6) (len:=(without c.opn who).length) rfl rfl rfl ⟨by simp;omega,by simp;omega⟩ ?_;refine zj (n:=10) (y:=without c.opn who) rfl (hde _) ?_;refine qbJ ?_;refine zn7 (nx':=11) (fr':=(Fr.none).set 4 (.own 10)) (hp':=((((Hp.none).set 2 (.box 29 zE zeb)).set 8 (.parts 157 [.val i64T c.m,.val i64T c.k,.own 6,.val zl c.have_,.val zP c.p,.val i64T 1,.val i64T who,.val (sl u8T) raw])).set 9 (.parts 154 [.ptr 8 0])).set 10 (.row 3 i64T (without c.opn who))) ?_ rfl (by (repeat refine Fr.le_set ?_ yaP);exact Fr.le_none _) (by (repeat refine Hp.le_set ?_ rfl);exact Hp.le_none _) (by (repeat refine Fr.below_setB ?_ rfl);exact Fr.below_none _) (by (repeat refine Hp.below_set ?_ yr);exact Hp.below_none _);exact zcw rfl (zt H)
    refine qbq ?_;exact Nx (k+1) (⟨by omega,hinv.2.trans (zlt hx (by simpa using ht16))⟩) ya
   exact absurd (hinv.2.trans (zhP ya)) (idx_mem hwm)) ?_
  refine xk ?_;refine X0 (oFp zcv) ?_;refine X0 (oFp za9) ?_;refine XK.e (x:=.idk) (fun fr' hfr kk H=>by exact zap rfl rfl rfl ((hfr 16 yc).trans rfl) rfl rfl ((hfr 13 yc).trans rfl) rfl rfl rfl zcF (zt H)) ?_;refine XK.nilp ⟨ybR,trivial⟩ ?_;refine qa3 ?_;refine qbV ?_;refine Cg ?_;refine qcH ?_;refine zaz 10 6 12 rfl rfl rfl rfl rfl rfl ?_;refine xD ?_;refine qbf ?_;exact zp rfl rfl (zs rfl rfl zbv (by rw[zaW ya,ur yr,ut rfl];unfold zc0;rw[ut hwm])) (zQ (za rfl (by rw[zaW ya,ur yr,ut rfl];unfold zc0;rw[ut hwm])))
 refine CR ?_;refine A0 (oFp zbr) ?_;refine A0 (oLb zax ty_3) ?_;refine A0 (zD (i:=2) rfl rfl rfl yp zwq ya) ?_;refine A0 (zr rfl rfl rfl (Lens.elem (i:=2) ya fnoT) ty_153) ?_;refine zi (d:=38) (y:=some 85) rfl rfl ?_;refine zdA (d:=38) (f:=85) rfl ?_;refine ze4 3 ?_;refine A0 mP ?_;refine zdT rfl rfl rfl rfl rfl Tryz.func85 fn_85 rfl rfl yF (fun ia14 iok14=>?_);refine CQR ?_;refine qbO ?_;refine A0 mP ?_;refine zR rfl rfl rfl rfl Tryz.func150 fn_150 rfl rfl (fun ia15 iok15=>?_);refine CQR ?_;refine qbg ?_;refine xC ?_;refine qbs ?_;refine zcw rfl ?_;refine qb3 ?_;refine zn (p:=¬who∈c.opn) rfl (by first|exact zrc|exact zrc.symm) (fun ht10=>?_) (fun ht10=>?_)
 ·
  refine qa3 ?_;refine qbV ?_;refine Ct ?_;refine CQR ?_;refine qaB ?_;refine xB ?_;refine qcI ?_;exact zp rfl rfl (zs rfl rfl zbv (by rw[zaW ya,ur yr,ur yr,ur ht10])) (zQ (za rfl (by rw[zaW ya,ur yr,ur yr,ur ht10])))
 refine CSQR ?_;refine A0 mP ?_;refine qco ?_;refine A0 (oFp zkf) ?_;refine A0 (oFp zem) ?_;refine A0 (zO rfl rfl rfl rfl rfl zcx) ?_;refine A0 (oCl (zcu raw hraw) rfl zjf yd) ?_;refine qaN ?_;refine qbC ?_;refine qas ?_;refine qaQ ?_;refine CB ?_;refine qaE ?_;refine A0 oN ?_;refine qae ?_;refine zn (p:=¬zbs raw=true) rfl (by cases zbs raw<;>rfl) (fun ht20=>?_) (fun ht20=>?_)
 ·
  refine qa3 ?_;refine qbV ?_;refine Ct ?_;refine CQR ?_;refine qaB ?_;refine xB ?_;refine qcI ?_;exact zp rfl rfl (zs rfl rfl zbv ybo) (zQ (za rfl ybo))
 refine CQ ?_;refine qb0 ?_;refine G0 (oFp zcY) ?_;refine G0 (oLb zcB ty_3) ?_;refine G0 mP ?_;refine G0 (g_nc rfl rfl) ?_;refine G0 (oFp zcv) ?_;refine G0 (oFp zh0) ?_;refine G0 (zO rfl rfl rfl rfl rfl ty_3) ?_;refine G0 zcQ ?_;refine qbs ?_;refine zn (p:=¬(zam raw).m=c.m) rfl yw (fun ht23=>?_) (fun ht23=>?_)
 ·
  refine CS ?_;refine zes rfl (by simpa [IntL.toI] using ht23) ?_;refine qa3 ?_;refine qbV ?_;refine Ct ?_;refine CQR ?_;refine qaB ?_;refine xB ?_;refine qcI ?_;exact zp rfl rfl (zs rfl rfl zbv ya9) (zQ (za rfl ya9))
 refine CD mixed ?_;refine G0 (oFp zcI) ?_;refine G0 (oLb zcp ty_3) ?_;refine G0 mP ?_;refine G0 (g_nc rfl rfl) ?_;refine G0 (oFp zcv) ?_;refine G0 (oFp zgg) ?_;refine G0 (zO rfl rfl rfl rfl rfl ty_3) ?_;refine G0 zcQ ?_;refine qbs ?_;refine zn (p:=¬(zam raw).k=c.k) rfl yw (fun ht23=>?_) (fun ht23=>?_)
 ·
  refine qa3 ?_;refine qbV ?_;refine Ct ?_;refine CQR ?_;refine qaB ?_;refine xB ?_;refine qcI ?_;exact zp rfl rfl (zs rfl rfl zbv yaX) (zQ (za rfl yaX))
 refine CS ?_;refine CI ?_;refine CQQR ?_;refine qaU ?_;refine A0 (oCl (zeO (zam raw)) rfl zsR yd) ?_;refine qaL ?_;refine qbk ?_;refine zn (p:=¬zK (zam raw)=0) rfl yw (fun ht43=>?_) (fun ht43=>?_)
 ·
  refine qb4 ?_;refine qbV ?_;refine zes rfl (by simpa [IntL.toI] using ht43) ?_;refine CQR ?_;refine qaB ?_;refine xB ?_;refine qcI ?_;exact zp rfl rfl (zs rfl rfl zbv yaH) (zQ (za rfl yaH))
 refine CSQQR ?_;refine A0 mP ?_;refine qco ?_;refine A0 (oFp zcv) ?_;refine A0 (oFp zfG) ?_;refine A0 (zO rfl rfl rfl rfl rfl ty_4) ?_;refine CN ?_;refine zn (p:=c.have_=true) rfl yA (fun ht49=>?_) (fun ht49=>?_)
 ·
  refine CQ ?_;refine zA [some 1000001,some 1000001,some 1000001,some 1000001,some 1000001,some 1000001,some 1000001,some 1000001,some 1000001,some 1000001,none,none,some 1] mixed yc ?_;refine XK.ga (fun _=>g_mp (.inl rfl) rfl) rfl rfl rfl ?_;refine XK.ga (fun _=>g_nc rfl rfl) rfl rfl rfl ?_;refine XK.ga (fun _=>zdp rfl rfl zcv rfl) rfl rfl rfl ?_;refine XK.ga (fun _=>zdp rfl rfl za8 rfl) rfl rfl rfl ?_;refine XK.gf (t:=54) rfl rfl (fun _ he=>zb7 rfl rfl he rfl zaD) ⟨yN,trivial⟩ rfl rfl rfl ?_;refine XK.gf (t:=3) rfl rfl (fun _ he=>zr rfl rfl he (Lens.self _) zaD) ⟨yN,trivial⟩ rfl rfl rfl ?_;refine XK.ga (fun _=>zd1 (pick_ok c.p (zam raw) hc.1 (zgv (ua ht43))) rfl fn_87 ye rfl) rfl rfl rfl ?_;refine XK.ga yh rfl rfl rfl ?_;refine XK.ga yap rfl rfl rfl ?_;refine XK.ga yR rfl rfl rfl ?_;refine XK.e (fun fr' hfr kk H=>by exact zq zhu rfl rfl rfl rfl (zt H)) ?_;refine XK.e (x:=.idk) (fun fr' hfr kk H=>by exact zg rfl rfl rfl ((hfr 6 yc).trans rfl) rfl (Lens.self _) zaD ((hfr 58 yc).trans rfl) (zt H)) ?_;refine X0 aV ?_;refine XK.nilp ⟨ybR,ybR,trivial⟩ ?_;refine qbQ ?_;refine qbk ?_;refine zn (p:=¬(zaq c.p (zam raw)).2=0) rfl yw (fun ht61=>?_) (fun ht61=>?_)
  ·
   refine qb4 ?_;refine qbV ?_;refine zes rfl (by simpa [IntL.toI] using ht61) ?_;refine CQR ?_;refine qaB ?_;refine xB ?_;refine qcI ?_;exact zp rfl rfl (zs rfl rfl zbv yaB) (zQ (za rfl yaB))
  refine CS ?_;refine CR ?_;refine qaU ?_;refine qas ?_;refine CNQR ?_;refine A0 mP ?_;refine A0 mP ?_;refine qaU ?_;refine qco ?_;refine A0 (oFp zcv) ?_;refine A0 (oFp za8) ?_;refine zn8 rfl rfl rfl rfl rfl rfl rfl zaD ?_;refine qco ?_;refine A0 (oFp zcv) ?_;refine A0 (oFp zfG) ?_;refine zap rfl rfl rfl rfl rfl rfl rfl rfl rfl rfl ty_4 ?_;refine CNQR ?_;refine qae ?_;refine qbV ?_;refine Cg ?_;refine qcH ?_;refine xD ?_;refine qbf ?_;exact zp rfl rfl (zs rfl rfl zbv yaz) (zQ (za rfl yaz))
 refine CSQR ?_;refine A0 mP ?_;refine A0 mP ?_;refine qaU ?_;refine qco ?_;refine A0 (oFp zcv) ?_;refine A0 (oFp za8) ?_;refine zn8 rfl rfl rfl rfl rfl rfl rfl zaD ?_;refine qco ?_;refine A0 (oFp zcv) ?_;refine A0 (oFp zfG) ?_;refine zap rfl rfl rfl rfl rfl rfl rfl rfl rfl rfl ty_4 ?_;refine CNQR ?_;refine qae ?_;refine qbV ?_;refine Cg ?_;refine qcH ?_;refine xD ?_;refine qbf ?_;exact zp rfl rfl (zs rfl rfl zbv yaD) (zQ (za rfl yaD))
theorem zc8 (c:Client) (l:List Msg) (hc:SmC c) (hl:zhm l):Tells P 15 [.val zE c,.val (bsl msgT) l] (.tup2 (.val zE (runC c l)) (.val (sl i64T) (runE c l))):=by
 have hll:=hl.1;refine zd Tryz.func15 rfl rfl rfl (fun ext w hext=>?_);refine ze (d:=1) rfl zm (fun hsl1=>?_);refine qah ?_;refine zq zi2 rfl rfl rfl rfl ?_;refine A0 aL ?_;refine CNQR ?_;refine qaB ?_;refine xB ?_;refine qaq ?_;refine CNQR ?_;refine A0 aL ?_;refine qbx ?_;refine A0 (zN rfl rfl zls) ?_;refine qaH ?_;refine zbk (T:=i64T) (d:=6) 40 rfl ?_;refine Lp (ι:=Nat) 3 (fun i=>(((((Fr.none.set 2 (.ptr 0 0)).set 4 (.ptr 1 0)).set 6 (.own 2)).set 13 (.val (bsl msgT) l)).set 14 (.val i64T (l.length:Int))).set 15 (.val i64T (i:Int))) (fun i=>((Hp.none.set 0 (.box 29 zE (runC c (l.take i)))).set 1 (.box 29 zE zeb)).set 2 (.row 40 i64T (runE c (l.take i)))) (fun i=>i≤l.length) (fun i=>l.length-i) (0) (uf _) ?_;intro i hinv;refine qar ?_;refine Cf (p:=i<l.length) (fun ht16=>?_) (fun ht16=>?_)
 ·
  obtain⟨x,hx⟩:∃x,l[i]?=some x:=⟨_,ub ht16⟩;have hxr:x.raw.length≤1000000000:=by have:=hl.2 x (ud hx);omega
  have hrs:=zuU (c:=c) hx;have hrl:(runE c (l.take i)).length≤100:=by rw[zez,um];omega
  refine CSQBQR ?_;refine A0 (zV (i:=i) rfl rfl rfl ya ze9 yj) ?_;refine A0 (zf rfl rfl zmx) ?_;refine zq zhp rfl rfl rfl rfl ?_;refine zg rfl rfl rfl rfl rfl (Lens.self _) zmx rfl ?_;refine CNQR ?_;refine qaB ?_;refine A0 (oLs rfl rfl rfl zmx) ?_;refine A0 (oCl (zcS (runC c (l.take i)) x (zjH _ hc) hxr) rfl znC ye) ?_;refine qaN ?_;refine qaJ ?_;refine qaj ?_;refine qaB ?_;refine qaq ?_;refine CNR ?_;refine A0 mO ?_;refine qa7 ?_;refine A0 (zL (T:=i64T) (xs:=[_]) rfl zpX zu1 yE rfl rfl) ?_;refine zC rfl rfl rfl rfl rfl rfl rfl zu1 yL ?_;refine A0 aO ?_;refine qbt ?_;refine ze4 3 ?_;refine ze4 4 ?_;refine zaz 5 2 6 rfl rfl rfl rfl rfl rfl ?_;refine zj (n:=2) (y:=runE c (l.take (i+1))) rfl hrs.2.symm ?_;refine zF (n:=0) (y:=runC c (l.take (i+1))) rfl hrs.1.symm ?_;exact Nx (i+1) ya ya
 refine zj (n:=2) (y:=runE c l) rfl yT ?_;refine zF (n:=0) (y:=runC c l) rfl yT ?_;refine aw_pub (d:=6) rfl rfl ?_;refine CE ?_;refine CQR ?_;refine qcw ?_;refine qaq ?_;refine qae ?_;exact zp rfl rfl (zs rfl rfl zbv (rfl)) (zQ (za rfl (rfl)))
theorem awakeT_ok:Tells P 13 [] (.val zl true):=by
 refine zd Tryz.func13 rfl rfl rfl (fun ext w hext=>?_);have hx1:zdG.p[1]?=some (⟨zbm.h,[id0]⟩:Part):=rfl;have hw2:([zcZ,zbm]:List Block)[1]?=some zbm:=rfl;refine CQR ?_;refine qaj ?_;refine A0 (oCl (two_ok) rfl fn_46 trivial) ?_;refine qaL ?_;refine A0 (oCl (zo8 [zcZ,zbm] 1 1 zmJ) rfl fn_47 yaf) ?_;refine qa4 ?_;refine zi (d:=12) (y:=zdG) rfl (easy_pr) ?_;refine qaD ?_;refine zi (d:=13) (y:=(0:Int)) rfl (zv5) ?_;refine qbC ?_;refine qas ?_;refine qaj ?_;refine qaU ?_;refine A0 (oCl (pput_ok zdG) rfl fn_43 yd) ?_;refine qaN ?_;refine zi (d:=18) (y:=true) rfl (zit) ?_;refine A0 aV ?_;refine qaL ?_;refine A0 (oCl (zcu (zja zdG) (by rw[znK];decide)) rfl zjf yd) ?_;refine qa4 ?_;refine zi (d:=22) (y:=zdG) rfl ((zmZ ziu.1).trans ziu.2) ?_;refine qaD ?_;refine zi (d:=23) (y:=true) rfl (ziu.1) ?_;refine qbC ?_;refine qas ?_;refine qcv ?_;refine G0 mV ?_;refine G0 zaH ?_;refine G0 mV ?_;refine zok (d:=26) rfl (rfl) ?_;refine G1 mV ?_;refine qbP ?_;refine zok (d:=29) rfl (rfl) ?_;refine G1 mV ?_;refine qbP ?_;refine zok (d:=32) rfl (rfl) ?_;refine G1 (oLs rfl rfl rfl zaD) ?_;refine G1 (oCl (zeO zdG) rfl zsR yd) ?_;refine G1 zaH ?_;refine qbP ?_;refine zok (d:=37) rfl (by rw[zpx];rfl) ?_;refine G1 (oFp zag) ?_;refine G1 (oLb zao zci) ?_;refine G1 (zN rfl rfl zb5) ?_;refine G1 zaH ?_;refine qbP ?_;refine zok (d:=43) rfl (rfl) ?_;refine G1 mV ?_;refine G1 (zN rfl rfl zno) ?_;refine G1 zaH ?_;refine qbP ?_;refine zok (d:=48) rfl (rfl) ?_;refine G1 (oFp zag) ?_;refine G1 (oLb zao zci) ?_;refine G1 (zV (i:=1) rfl rfl rfl ya zdV yj) ?_;refine G1 (oFr za7 zaV) ?_;refine G1 (zf rfl rfl zaX) ?_;refine G1 mV ?_;refine G1 (zV (i:=1) rfl rfl rfl ya zkD yj) ?_;refine G1 (oFr zce zaN) ?_;refine G1 (zf rfl rfl zaX) ?_;refine G1 (ziU rfl rfl rfl (zlz)) ?_;refine qbP ?_;refine zok (d:=60) rfl yA ?_;refine G1 mV ?_;refine G1 (zV (i:=1) rfl rfl rfl ya zkD yj) ?_;refine G1 (oFr zce zaN) ?_;refine G1 (zf rfl rfl zaX) ?_;refine G1 (oCl (zgw zbm.h) rfl fn_23 ybM) ?_;refine G1 (zgZ rfl ziK ze_49 rfl) ?_;refine G1 (zgy rfl rfl rfl (zh1)) ?_;refine G0 oK ?_;refine qbs ?_;exact zb rfl rfl (za rfl (by rw[easy_nz];rfl))
end Go.Proofs.YtikaeepohlkjdaaGreat
