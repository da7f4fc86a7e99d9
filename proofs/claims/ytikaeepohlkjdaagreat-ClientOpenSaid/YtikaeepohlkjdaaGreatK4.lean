/- Parts of the proof: the layer that reads Go values as data, and what the functions of the program tell. -/
import Derived.Test.YtikaeepohlkjdaaGreatK3
set_option linter.unusedVariables false
set_option linter.unusedSimpArgs false
set_option maxRecDepth 20000
namespace Go.Proofs.YtikaeepohlkjdaaGreat
open Go.Ab Go.RowKit
def idx {α:Type} (p:α→Bool):List α→Int
  | []=>-1
  | x::l=>if p x then 0 else if idx p l<0 then -1 else idx p l+1
def shift (k:Nat) (n:Int):Int:=if n<0 then -1 else n+k
theorem zlu {α:Type} (p:α→Bool):∀l,-1≤idx p l
  | []=>by simp[idx]
  | x::l=>by have:=zlu p l;unfold idx;split<;>first|omega|(split<;>omega)
theorem zhO {α:Type} {p:α→Bool} {l:List α} {k:Nat} {x:α} (h:l[k]?=some x) (hp:p x=true):shift k (idx p (l.drop k))=k:=by
  obtain⟨hk,rfl⟩:=ul.1 h;rw[List.drop_eq_getElem_cons hk];simp[idx,hp,shift]
theorem zlt {α:Type} {p:α→Bool} {l:List α} {k:Nat} {x:α} (h:l[k]?=some x) (hp:¬p x=true):shift k (idx p (l.drop k))=shift (k+1) (idx p (l.drop (k+1))):=by
  obtain⟨hk,rfl⟩:=ul.1 h;rw[List.drop_eq_getElem_cons hk];have h2:=zlu p (l.drop (k+1));simp only[idx,ur hp];generalize idx p (l.drop (k+1))=n at *;unfold shift;by_cases c:n<0
  · rw[ut c,ut c];rfl
  rw[ur c,ur c,ur ya];omega
theorem zdM {α:Type} (p:α→Bool) (l:List α):idx p l=shift 0 (idx p (l.drop 0)):=by
  have:=zlu p l
  unfold shift;simp only[List.drop_zero]
  split<;>omega
theorem zhP {α:Type} {p:α→Bool} {l:List α} {k:Nat} (h:l.length≤k):shift k (idx p (l.drop k)) = -1:=by
  rw[List.drop_of_length_le h];simp[idx,shift]
theorem zhQ {α:Type} (p:α→Bool):∀l,decide (0≤idx p l)=l.any p
  | []=>by simp[idx]
  | x::l=>by
    have ih:=zhQ p l
    have:=zlu p l
    rw[List.any_cons,←ih];by_cases c:p x=true
    · simp[idx,c]
    simp only[idx,ur c,Bool.not_eq_true] at *;rw[c,Bool.false_or,uo]
    split<;>omega
theorem zc2 {α:Type} [DecidableEq α] {l m:List α} {k:Nat} {x y:α} (hx:l[k]?=some x) (hy:m[k]?=some y) (h:l.take k=m.take k) (e:x=y):l.take (k+1)=m.take (k+1):=by
  rw[un,un,h,hx,hy,e]
theorem zgW {α:Type} {l m:List α} {k:Nat} {x y:α} (hx:l[k]?=some x) (hy:m[k]?=some y) (e:¬x=y):¬l=m:=fun h=>e (by rw[h,hy] at hx;injection hx with hx;exact hx.symm)
theorem zqJ (l:List Coin) (p:Coin→Bool):Tells P 333 [.val (bsl zbg) l,.fn1 P zbg zl p] (.val i64T (idx p l)):=by
 refine zd Tryz.func333 rfl rfl rfl (fun ext w hext=>?_);refine ze (d:=0) rfl zm (fun hsl0=>?_);refine qcQ ?_;refine A0 (zN rfl rfl ziS) ?_;refine qaH ?_;refine Lp (ι:=Nat) 0 (fun (k:Nat)=>(((((Fr.none).set 0 (.val (bsl zbg) l)).set 1 (.fn1 P zbg zl p)).set 6 (.val (bsl zbg) l)).set 7 (.val i64T (l.length:Int))).set 8 (.val i64T (k:Int))) (fun (k:Nat)=>Hp.none) (fun (k:Nat)=>k≤l.length∧idx p l=shift k (idx p (l.drop k))) (fun (k:Nat)=>l.length-k) (0) (⟨uf _,zdM p l⟩) ?_;intro k hinv;refine qar ?_;refine Cf (p:=k<l.length) (fun ht9=>?_) (fun ht9=>?_)
 ·
  obtain⟨x,hx⟩:∃x,l[k]?=some x:=ybi;refine qaR ?_;refine qaj ?_;refine A0 mF ?_;refine qav ?_;refine A0 (zbu rfl rfl rfl zlP yj) ?_;refine A0 (zf rfl rfl zoR) ?_;refine qbp ?_;refine zn (p:=p x=true) rfl yA (fun ht16=>?_) (fun ht16=>?_)
  ·
   refine qb4 ?_;exact zb rfl rfl (za rfl (hinv.2.trans (zhO hx ht16)).symm)
  refine qbq ?_;exact Nx (k+1) (⟨by omega,hinv.2.trans (zlt hx ht16)⟩) ya
 refine qcM ?_;exact zb rfl rfl (za rfl (hinv.2.trans (zhP ya)).symm)
theorem zl1 (l:List Coin) (p:Coin→Bool):Tells P 286 [.val (bsl zbg) l,.fn1 P zbg zl p] (.val zl (l.any p)):=by
 refine zd Tryz.func286 rfl rfl rfl (fun ext w hext=>?_);refine ze (d:=0) rfl zm (fun hsl0=>?_);refine CQR ?_;refine qaL ?_;refine A0 mF ?_;refine A0 (oCl (zqJ _ _) rfl fn_333 ⟨yn,(zaF rfl rfl),trivial⟩) ?_;refine A0 zfb ?_;refine qae ?_;exact zb rfl rfl (za rfl (zhQ p l))
theorem zsB (l:List Out) (p:Out→Bool):Tells P 271 [.val (bsl outT) l,.fn1 P outT zl p] (.val i64T (idx p l)):=by
 refine zd Tryz.func271 rfl rfl rfl (fun ext w hext=>?_);refine ze (d:=0) rfl zm (fun hsl0=>?_);refine qcQ ?_;refine A0 (zN rfl rfl zhM) ?_;refine qaH ?_;refine Lp (ι:=Nat) 0 (fun (k:Nat)=>(((((Fr.none).set 0 (.val (bsl outT) l)).set 1 (.fn1 P outT zl p)).set 6 (.val (bsl outT) l)).set 7 (.val i64T (l.length:Int))).set 8 (.val i64T (k:Int))) (fun (k:Nat)=>Hp.none) (fun (k:Nat)=>k≤l.length∧idx p l=shift k (idx p (l.drop k))) (fun (k:Nat)=>l.length-k) (0) (⟨uf _,zdM p l⟩) ?_;intro k hinv;refine qar ?_;refine Cf (p:=k<l.length) (fun ht9=>?_) (fun ht9=>?_)
 ·
  obtain⟨x,hx⟩:∃x,l[k]?=some x:=ybi;refine qaR ?_;refine qaj ?_;refine A0 mF ?_;refine qav ?_;refine A0 (zbu rfl rfl rfl sl_99 yj) ?_;refine A0 (zf rfl rfl ziN) ?_;refine qbp ?_;refine zn (p:=p x=true) rfl yA (fun ht16=>?_) (fun ht16=>?_)
  ·
   refine qb4 ?_;exact zb rfl rfl (za rfl (hinv.2.trans (zhO hx ht16)).symm)
  refine qbq ?_;exact Nx (k+1) (⟨by omega,hinv.2.trans (zlt hx ht16)⟩) ya
 refine qcM ?_;exact zb rfl rfl (za rfl (hinv.2.trans (zhP ya)).symm)
theorem znP (l:List Out) (p:Out→Bool):Tells P 222 [.val (bsl outT) l,.fn1 P outT zl p] (.val zl (l.any p)):=by
 refine zd Tryz.func222 rfl rfl rfl (fun ext w hext=>?_);refine ze (d:=0) rfl zm (fun hsl0=>?_);refine CQR ?_;refine qaL ?_;refine A0 mF ?_;refine A0 (oCl (zsB _ _) rfl fn_271 ⟨yn,(zaF rfl rfl),trivial⟩) ?_;refine A0 zfb ?_;refine qae ?_;exact zb rfl rfl (za rfl (zhQ p l))
theorem zh5 (l:List Coin) (hl:l.length*56≤140737488355328∧l.length≤9223372036854775807):Tells P 193 [.val (bsl zbg) l] (.fresh 293 zbg l):=by
 refine zd Tryz.func193 rfl rfl rfl (fun ext w hext=>?_);refine ze (d:=0) rfl zm (fun hsl0=>?_);refine qa9 ?_;refine qbx ?_;refine zfk rfl rfl rfl rfl rfl ziS (fun c4 hc4=>?_);refine CN ?_;refine zn (p:=c4=true) rfl yA (fun ht4=>?_) (fun ht4=>?_)
 ·
  obtain rfl:=hc4 ht4;refine qa9 ?_;refine CN ?_;exact zb rfl rfl (zx rfl)
 refine CSQR ?_;refine zb9 (T:=zbg) (xs:=[]) rfl rfl rfl rfl zlP zo1 trivial rfl rfl ?_;refine qa7 ?_;refine zC rfl rfl rfl rfl rfl rfl rfl zo1 yaF ?_;refine qbJ ?_;exact zb rfl rfl (zh rfl rfl yA)
set_option maxRecDepth 20000
theorem ext_bcmp:ExtAt P 362 Extern.BytealgCompare.compare:=⟨_,rfl,rfl,rfl,rfl,rfl⟩
def orL:List Int→Int
  | []=>0
  | x::l=>if x=0 then orL l else x
theorem orL_step {l:List Int} {k:Nat} {x:Int} (h:l[k]?=some x) (e:¬x≠0):orL (l.drop k)=orL (l.drop (k+1)):=by
  obtain⟨hk,rfl⟩:=ul.1 h;rw[List.drop_eq_getElem_cons hk];simp[orL,ua e]
theorem orL_hit {l:List Int} {k:Nat} {x:Int} (h:l[k]?=some x) (e:x≠0):orL (l.drop k)=x:=by
  obtain⟨hk,rfl⟩:=ul.1 h;rw[List.drop_eq_getElem_cons hk];simp[orL,e]
theorem orInt (l:List Int):Tells P 278 [.val (bsl i64T) l] (.val i64T (orL l)):=by
 refine zd Tryz.func278 rfl rfl rfl (fun ext w hext=>?_);refine ze (d:=0) rfl zm (fun hsl0=>?_);refine CQR ?_;refine qaj ?_;refine qap ?_;refine qb5 ?_;refine qaH ?_;refine Lp (ι:=Nat) 0 (fun (k:Nat)=>((((Fr.none).set 3 (.val i64T 0)).set 6 (.val (bsl i64T) l)).set 7 (.val i64T (l.length:Int))).set 8 (.val i64T (k:Int))) (fun (k:Nat)=>Hp.none) (fun (k:Nat)=>k≤l.length∧orL l=orL (l.drop k)) (fun (k:Nat)=>l.length-k) (0) (⟨uf _,rfl⟩) ?_;intro k hinv;refine qar ?_;refine Cf (p:=k<l.length) (fun ht9=>?_) (fun ht9=>?_)
 ·
  obtain⟨x,hx⟩:∃x,l[k]?=some x:=ybi;refine CSQBQR ?_;refine qcc ?_;refine qcx ?_;refine qa7 ?_;refine qbk ?_;refine zn (p:=x≠0) rfl yw (fun ht14=>?_) (fun ht14=>?_)
  ·
   refine qbX ?_;exact zb rfl rfl (za rfl (hinv.2.trans (orL_hit hx ht14)).symm)
  refine qbq ?_;exact Nx (k+1) (⟨by omega,hinv.2.trans (orL_step hx ht14)⟩) ya
 refine CE ?_;refine qb4 ?_;exact zb rfl rfl (za rfl (by rw[hinv.2,List.drop_of_length_le ya];rfl))
theorem bcompare (a b:List UInt8):Tells P 329 [.val (bsl u8T) a,.val (bsl u8T) b] (.val i64T (Lib.compareBytes a b)):=by
 refine zd Tryz.func329 rfl rfl rfl (fun ext w hext=>?_);refine ze (d:=0) rfl zm (fun hsl0=>?_);refine ze (d:=1) rfl zm (fun hsl1=>?_);refine CQR ?_;refine qbv ?_;refine A0 (g_bcmp rfl ext_bcmp rfl rfl) ?_;refine qaT ?_;exact zb rfl rfl yJ
def zbd (a b:In):Int:=orL [Lib.compareBytes a.tx b.tx,ziY a.i b.i]
theorem zqm (a b:In):Tells P 282 [.val inT a,.val inT b] (.val i64T (zbd a b)):=by
 refine zd Tryz.func282 rfl rfl rfl (fun ext w hext=>?_);refine qaA ?_;refine qcv ?_;refine G0 (oFp zin) ?_;refine G0 (znt rfl rfl ziK rfl rfl) ?_;refine G0 (oFp zin) ?_;refine G0 (znt rfl rfl ziK rfl rfl) ?_;refine G0 (oCl (bcompare _ _) rfl fn_329 ⟨(by exact arg_vw rfl rfl zlc),(by exact arg_vw rfl rfl zlc),trivial⟩) ?_;refine G0 (oFp zeA) ?_;refine G0 (oLb zkr ty_3) ?_;refine G0 (oFp zeA) ?_;refine G0 (oLb zkr ty_3) ?_;refine G0 (oCl (cmpInt_ok _ _) rfl fn_330 ye) ?_;refine G0 (zL (T:=i64T) (xs:=[_,_]) rfl zcj zgr yao rfl rfl) ?_;refine G0 (oCl (orInt _) rfl fn_278 yd) ?_;refine qbs ?_;exact zb rfl rfl yJ
theorem zgi {p:Nat→Bool} {k:Nat} (h:(List.range k).all p=true) (hk:p k=true):(List.range (k+1)).all p=true:=by
  rw[List.range_succ,List.all_append,h];simp[hk]
theorem zeC {p:Nat→Bool} {k n:Nat} (hk:k<n) (h:p k=false):(List.range n).all p=false:=by
  rw[List.all_eq_false];exact⟨k,by simpa using hk,by simp[h]⟩
def zf3 (c:Coin):Bool:=decide (0≤c.inn.i∧c.inn.i<3∧1≤c.out.v∧c.out.v≤1099511627776∧0≤c.out.to∧c.out.to≤255)
def ziX (p:List Coin) (k:Nat):Bool:=match p[k]? with
  | none=>true
  | some c=>zf3 c&&(match k with|0=>true|k+1=>match p[k]? with|none=>true|some b=>decide (zbd b.inn c.inn<0))
def zaP (p:List Coin):Bool:=(List.range p.length).all (ziX p)&&decide (p.length≤48)
theorem zfq {p:List Coin} {k:Nat} {c:Coin} (h:p[k]?=some c) (hk:k<p.length) (hb:¬(0≤c.inn.i∧c.inn.i<3∧1≤c.out.v∧c.out.v≤1099511627776∧0≤c.out.to∧c.out.to≤255)):zaP p=false:=by
  unfold zaP;rw[zeC hk (by unfold ziX zf3;rw[h];simp only[uh hb,Bool.false_and]),Bool.false_and]
theorem znU {p:List Coin} {k:Nat} {b c:Coin} (h:p[k]?=some c) (hk:k<p.length) (h0:0<k) (hb:p[k-1]?=some b) (ho:¬zbd b.inn c.inn<0):zaP p=false:=by
  unfold zaP;obtain⟨m,rfl⟩:∃m,k=m+1:=⟨k-1,by omega⟩;simp only[Nat.add_sub_cancel] at hb;rw[zeC hk (by unfold ziX;rw[h];simp only[hb,uh ho,Bool.and_false]),Bool.false_and]
theorem zlA {p:List Coin} {c:Coin} (h:p[0]?=some c) (hb:0≤c.inn.i∧c.inn.i<3∧1≤c.out.v∧c.out.v≤1099511627776∧0≤c.out.to∧c.out.to≤255):ziX p 0=true:=by
  unfold ziX zf3;rw[h];simp only[ui hb,Bool.and_self]
theorem znV {p:List Coin} {k:Nat} {b c:Coin} (h:p[k]?=some c) (h0:0<k) (hb:p[k-1]?=some b) (ho:zbd b.inn c.inn<0) (hc:0≤c.inn.i∧c.inn.i<3∧1≤c.out.v∧c.out.v≤1099511627776∧0≤c.out.to∧c.out.to≤255):ziX p k=true:=by
  obtain⟨m,rfl⟩:∃m,k=m+1:=⟨k-1,by omega⟩;simp only[Nat.add_sub_cancel] at hb;unfold ziX zf3;rw[h];simp only[hb,ui ho,ui hc,Bool.and_self]
theorem may_ok (p:List Coin):Tells P 247 [.val (bsl zbg) p] (.val zl (zaP p)):=by
 refine zd Tryz.func247 rfl rfl rfl (fun ext w hext=>?_);refine ze (d:=0) rfl zm (fun hsl0=>?_);refine qcQ ?_;refine A0 (zN rfl rfl ziS) ?_;refine qaH ?_;refine Lp (ι:=Nat) 0 (fun (k:Nat)=>((((Fr.none).set 0 (.val (bsl zbg) p)).set 5 (.val (bsl zbg) p)).set 6 (.val i64T (p.length:Int))).set 7 (.val i64T (k:Int))) (fun (k:Nat)=>Hp.none) (fun (k:Nat)=>k≤p.length∧(List.range k).all (ziX p)=true) (fun (k:Nat)=>p.length-k) (0) (⟨uf _,rfl⟩) ?_;intro k hinv;refine qar ?_;refine Cf (p:=k<p.length) (fun ht8=>?_) (fun ht8=>?_)
 ·
  obtain⟨c,hc⟩:∃c,p[k]?=some c:=⟨_,ub ht8⟩;refine qaR ?_;refine A0 (zbu rfl rfl rfl zlP yj) ?_;refine A0 (zf rfl rfl zoR) ?_;refine zq ze_293 rfl rfl rfl rfl ?_;refine A0 aV ?_;refine zg rfl rfl rfl rfl rfl (Lens.self _) zoR rfl ?_;refine CNQQR ?_;refine A0 (oFp zfh) ?_;refine A0 (oFp zeA) ?_;refine A0 (oLb (zdd.comp zkr) ty_3) ?_;refine A0 zcy ?_;refine qa7 ?_;refine Sp (d:=16) (p:=c.inn.i<0) (fun g16=>?_) (fun g16=>?_)
  ·
   refine qaa ?_;refine qao ?_;refine qao ?_;refine qcm ?_;refine Ct ?_;refine qa3 ?_;exact zb rfl rfl (za rfl (zfq hc ht8 ya).symm)
  refine A1 (oFp zfh) ?_;refine A1 (oFp zeA) ?_;refine A1 (oLb (zdd.comp zkr) ty_3) ?_;refine A1 zfb ?_;refine qaf ?_;refine Sp (d:=22) (p:=3≤c.inn.i) (fun g22=>?_) (fun g22=>?_)
  ·
   refine qaa ?_;refine qao ?_;refine qa8 ?_;refine qcm ?_;refine Ct ?_;refine qa3 ?_;exact zb rfl rfl (za rfl (zfq hc ht8 ya).symm)
  refine A1 (oFp zim) ?_;refine A1 (oFp zf2) ?_;refine A1 (oLb (zfr.comp zie) ty_3) ?_;refine A1 zcy ?_;refine qaf ?_;refine Sp (d:=28) (p:=c.out.v<1) (fun g28=>?_) (fun g28=>?_)
  ·
   refine qaa ?_;refine qao ?_;refine qcm ?_;refine Ct ?_;refine qa3 ?_;exact zb rfl rfl (za rfl (zfq hc ht8 ya).symm)
  refine A1 (oFp zim) ?_;refine A1 (oFp zf2) ?_;refine A1 (oLb (zfr.comp zie) ty_3) ?_;refine A1 zbH ?_;refine qaf ?_;refine Sp (d:=34) (p:=1099511627776<c.out.v) (fun g34=>?_) (fun g34=>?_)
  ·
   refine qaa ?_;refine qa8 ?_;refine qcm ?_;refine Ct ?_;refine qa3 ?_;exact zb rfl rfl (za rfl (zfq hc ht8 ya).symm)
  refine A1 (oFp zim) ?_;refine A1 (oFp zg4) ?_;refine A1 (oLb (zfr.comp ziF) ty_3) ?_;refine A1 zcy ?_;refine qaf ?_;refine Sp (d:=40) (p:=c.out.to<0) (fun g40=>?_) (fun g40=>?_)
  ·
   refine qaa ?_;refine qcm ?_;refine Ct ?_;refine qa3 ?_;exact zb rfl rfl (za rfl (zfq hc ht8 ya).symm)
  refine A1 (oFp zim) ?_;refine A1 (oFp zg4) ?_;refine A1 (oLb (zfr.comp ziF) ty_3) ?_;refine A1 zbH ?_;refine A0 oK ?_;refine Sp (d:=45) (p:=255<c.out.to) (fun g45=>?_) (fun g45=>?_)
  ·
   refine CN ?_;refine Ct ?_;refine qa3 ?_;exact zb rfl rfl (za rfl (zfq hc ht8 ya).symm)
  refine CN ?_;refine Cg ?_;refine CS ?_;refine qb0 ?_;refine G0 mV ?_;refine G0 zbH ?_;refine G0 mV ?_;refine zaG (d:=48) (p:=0<k) rfl yz (fun g48=>?_) (fun g48=>?_)
  ·
   obtain⟨b,hb⟩:∃b,p[k-1]?=some b:=yB;refine G1 mV ?_;refine G1 mV ?_;refine G1 zbT ?_;refine G1 (zV (i:=k-1) rfl rfl rfl ya zlP yj) ?_;refine G1 (oFr zfh zdd) ?_;refine G1 (zf rfl rfl zdm) ?_;refine G1 (oFp zfh) ?_;refine G1 (oLb zdd zdm) ?_;refine G1 (oCl (zqm _ _) rfl fn_282 ybQ) ?_;refine G1 zfb ?_;refine G0 oK ?_;refine zaG (d:=59) (p:=¬zbd b.inn c.inn<0) rfl yz (fun g59=>?_) (fun g59=>?_)
   ·
    refine GK.nil ?_;refine Ct ?_;refine qa3 ?_;exact zb rfl rfl (za rfl (znU hc ht8 ya hb g59).symm)
   refine GK.nil ?_;refine Cg ?_;refine qbq ?_;exact Nx (k+1) (⟨by omega,zgi hinv.2 yaZ⟩) ya
  refine qad ?_;refine qbn ?_;refine G2 ?_;refine qby ?_;refine Cg ?_;refine qbq ?_;exact Nx (k+1) (⟨by omega,zgi hinv.2 yaZ⟩) ya
 refine CE ?_;refine qaE ?_;refine A0 (zN rfl rfl ziS) ?_;refine A0 zgV ?_;refine qae ?_;exact zb rfl rfl (za rfl (by unfold zaP;rw[show k=p.length by omega] at hinv;rw[hinv.2,Bool.true_and,uo];simp only[IntL.toI,id_eq];omega))
def zft {α:Type} (f:α→Int) (l:List α):Int:=l.foldl (fun n x=>IntKind.i64.wrap (n+f x)) 0
theorem worth_step {α:Type} {f:α→Int} {l:List α} {k:Nat} {x:α} (h:l[k]?=some x):zft f (l.take (k+1))=IntKind.i64.wrap (zft f (l.take k)+f x):=by
  unfold zft;rw[un,h,List.foldl_append];rfl
theorem worthOut (l:List Out) (f:Out→Int):Tells P 290 [.val (bsl outT) l,.fn1 P outT i64T f] (.val i64T (zft f l)):=by
 refine zd Tryz.func290 rfl rfl rfl (fun ext w hext=>?_);refine ze (d:=0) rfl zm (fun hsl0=>?_);refine CQR ?_;refine qaj ?_;refine qap ?_;refine A0 (zN rfl rfl zhM) ?_;refine qaH ?_;refine Lp (ι:=Nat) 0 (fun (k:Nat)=>(((((Fr.none).set 1 (.fn1 P outT i64T f)).set 5 (.val i64T (zft f (l.take k)))).set 8 (.val (bsl outT) l)).set 9 (.val i64T (l.length:Int))).set 10 (.val i64T (k:Int))) (fun (k:Nat)=>Hp.none) (fun (k:Nat)=>k≤l.length) (fun (k:Nat)=>l.length-k) (0) (uf _) ?_;intro k hinv;refine qar ?_;refine Cf (p:=k<l.length) (fun ht11=>?_) (fun ht11=>?_)
 ·
  obtain⟨x,hx⟩:∃x,l[k]?=some x:=⟨_,ub ht11⟩;refine CSQBQR ?_;refine qcC ?_;refine zg rfl rfl rfl rfl rfl (Lens.self _) ziN rfl ?_;refine CNR ?_;refine qa7 ?_;refine A0 mF ?_;refine A0 (oLs rfl rfl rfl ziN) ?_;refine A0 (zka rfl rfl yn) ?_;refine A0 zdl ?_;refine A0 aV ?_;refine qbt ?_;refine zi (d:=5) rfl (worth_step hx).symm ?_;exact Nx (k+1) ya ya
 refine CE ?_;refine qb4 ?_;exact zb rfl rfl (za rfl yT)
theorem zvb (o:Out):Tells P 291 [.val outT o] (.val i64T o.v):=by
 refine zd Tryz.func291 rfl rfl rfl (fun ext w hext=>?_);refine qah ?_;refine qaj ?_;refine A0 (oFp zf2) ?_;refine A0 (oLb zie ty_3) ?_;refine qae ?_;exact zb rfl rfl yJ
theorem outs_ok (t:Tx):Tells P 250 [.val txT t] (.val i64T (zft (·.v) t.outs)):=by
 refine zd Tryz.func250 rfl rfl rfl (fun ext w hext=>?_);refine qah ?_;refine qaj ?_;refine A0 (oFp zdb) ?_;refine A0 (oLb zco zkx) ?_;refine A0 (oCl (worthOut _ _) rfl fn_290 ⟨yn,(by first|exact zdI (Cs:=[]) rfl fn_291 yF trivial rfl (fun x=>zvb _)|exact zdH (Cs:=[]) rfl fn_291 yF trivial rfl (fun x y=>zvb _)|exact zdJ rfl),trivial⟩) ?_;refine qae ?_;exact zb rfl rfl yJ
theorem zvm (id:Ab.Id) (c:Coin):Tells P 287 [.val zbg c,.rptr idT id] (.val zl (decide (c.inn.tx=id))):=by
 refine zd Tryz.func287 rfl rfl rfl (fun ext w hext=>?_);refine qah ?_;refine qaj ?_;refine A0 (oFp zfh) ?_;refine A0 (oFp zin) ?_;refine A0 (oLb (zdd.comp zlc) z6) ?_;refine A0 (zf rfl rfl z6) ?_;refine A0 (ziU rfl rfl rfl (zh1)) ?_;refine qae ?_;exact zb rfl rfl yJ
theorem made2_ok (a b:Coin):Tells P 289 [.val zbg a,.val zbg b] (.val i64T (zbd a.inn b.inn)):=by
 refine zd Tryz.func289 rfl rfl rfl (fun ext w hext=>?_);refine qaA ?_;refine qaj ?_;refine A0 (oFp zfh) ?_;refine A0 (oLb zdd zdm) ?_;refine A0 (oFp zfh) ?_;refine A0 (oLb zdd zdm) ?_;refine A0 (oCl (zqm _ _) rfl fn_282 ye) ?_;refine qae ?_;exact zb rfl rfl yJ
theorem zr2 (c:Coin) (x:In):Tells P 332 [.val zbg c,.val inT x] (.val i64T (zbd c.inn x)):=by
 refine zd Tryz.func332 rfl rfl rfl (fun ext w hext=>?_);refine qaA ?_;refine qaj ?_;refine A0 (oFp zfh) ?_;refine A0 (oLb zdd zdm) ?_;refine A0 (oLs rfl rfl rfl zdm) ?_;refine A0 (oCl (zqm _ _) rfl fn_282 ye) ?_;refine qae ?_;exact zb rfl rfl yJ
theorem indexIn (l:List In) (v:In):Tells P 270 [.val (bsl inT) l,.val inT v] (.val i64T (idx (fun c=>decide (v=c)) l)):=by
 refine zd Tryz.func270 rfl rfl rfl (fun ext w hext=>?_);refine ze (d:=0) rfl zm (fun hsl0=>?_);refine qah ?_;refine qap ?_;refine A0 (zN rfl rfl ziR) ?_;refine qaH ?_;refine Lp (ι:=Nat) 1 (fun (k:Nat)=>(((((Fr.none).set 0 (.val (bsl inT) l)).set 3 (.ptr 0 0)).set 6 (.val (bsl inT) l)).set 7 (.val i64T (l.length:Int))).set 8 (.val i64T (k:Int))) (fun (k:Nat)=>(Hp.none).set 0 (.box 256 inT v)) (fun (k:Nat)=>k≤l.length∧idx (fun c=>decide (v=c)) l=shift k (idx (fun c=>decide (v=c)) (l.drop k))) (fun (k:Nat)=>l.length-k) (0) (⟨uf _,zdM _ l⟩) ?_;intro k hinv;refine qar ?_;refine Cf (p:=k<l.length) (fun ht9=>?_) (fun ht9=>?_)
 ·
  obtain⟨x,hx⟩:∃x,l[k]?=some x:=ybi;refine qaR ?_;refine qcv ?_;refine G0 (oLs rfl rfl rfl zdm) ?_;refine qcr ?_;refine G0 (zbu rfl rfl rfl ztH yj) ?_;refine G0 (zf rfl rfl zdm) ?_;refine G0 (ziU rfl rfl rfl (eqt_256)) ?_;refine GK.nil ?_;refine zn (p:=decide (v=x)=true) rfl yA (fun ht16=>?_) (fun ht16=>?_)
  ·
   refine qb4 ?_;exact zb rfl rfl (za rfl (hinv.2.trans (zhO hx ht16)).symm)
  refine qbq ?_;exact Nx (k+1) (⟨by omega,hinv.2.trans (zlt hx ht16)⟩) ya
 refine qcM ?_;exact zb rfl rfl (za rfl (hinv.2.trans (zhP ya)).symm)
theorem containsIn (l:List In) (v:In):Tells P 220 [.val (bsl inT) l,.val inT v] (.val zl (l.any fun c=>decide (v=c))):=by
 refine zd Tryz.func220 rfl rfl rfl (fun ext w hext=>?_);refine ze (d:=0) rfl zm (fun hsl0=>?_);refine qah ?_;refine qaL ?_;refine A0 (oLs rfl rfl rfl zdm) ?_;refine A0 (oCl (indexIn _ _) rfl fn_270 ye) ?_;refine A0 zfb ?_;refine qae ?_;exact zb rfl rfl (za rfl (zhQ _ l))
theorem odd_ok (o:Out):Tells P 221 [.val outT o] (.val zl (decide (o.v<1∨1099511627776<o.v∨o.to<0∨255<o.to))):=by
 refine zd Tryz.func221 rfl rfl rfl (fun ext w hext=>?_);refine qah ?_;refine qaj ?_;refine A0 (oFp zf2) ?_;refine A0 (oLb zie ty_3) ?_;refine A0 zcy ?_;refine qa7 ?_;refine Sp (d:=6) (p:=o.v<1) (fun g6=>?_) (fun g6=>?_)
 ·
  refine qb1 ?_;refine qaf ?_;refine qaa ?_;refine qa6 ?_;exact zb rfl rfl (za rfl yav)
 refine A1 (oFp zf2) ?_;refine A1 (oLb zie ty_3) ?_;refine A1 zbH ?_;refine qaf ?_;refine Sp (d:=11) (p:=1099511627776<o.v) (fun g11=>?_) (fun g11=>?_)
 ·
  refine qb1 ?_;refine qa6 ?_;exact zb rfl rfl (za rfl yav)
 refine A1 (oFp zg4) ?_;refine A1 (oLb ziF ty_3) ?_;refine A1 zcy ?_;refine qaf ?_;refine Sp (d:=16) (p:=o.to<0) (fun g16=>?_) (fun g16=>?_)
 ·
  refine qaa ?_;refine qa6 ?_;exact zb rfl rfl (za rfl yav)
 refine A1 (oFp zg4) ?_;refine A1 (oLb ziF ty_3) ?_;refine A1 zbH ?_;refine A0 oK ?_;refine Sp (d:=20) (p:=255<o.to) (fun g20=>?_) (fun g20=>?_)
 ·
  refine qae ?_;exact zb rfl rfl (za rfl yav)
 refine qae ?_;exact zb rfl rfl (za rfl yav)
def zvc (o:Out):Bool:=decide (o.v<1∨1099511627776<o.v∨o.to<0∨255<o.to)
def inAt (t:Tx) (k:Nat):Bool:=match t.ins[k]? with
  | none=>true
  | some x=>decide (0≤x.i∧x.i<3) && !((t.ins.take k).any fun c=>decide (x=c))
def zeg (t:Tx):Bool:=(List.range t.ins.length).all (inAt t)&&(decide (t.ins.length≤3)&&(decide (0<t.outs.length)&&(decide (t.outs.length≤3) && !(t.outs.any zvc))))
theorem zvz {t:Tx} {k:Nat} {x:In} (h:t.ins[k]?=some x) (hk:k<t.ins.length) (hb:¬(0≤x.i∧x.i<3)):zeg t=false:=by
  unfold zeg;rw[zeC hk (by unfold inAt;rw[h];simp only[uh hb,Bool.false_and]),Bool.false_and]
theorem inAt_twice {t:Tx} {k:Nat} {x:In} (h:t.ins[k]?=some x) (hk:k<t.ins.length) (hb:((t.ins.take k).any fun c=>decide (x=c))=true):zeg t=false:=by
  unfold zeg;rw[zeC hk (by unfold inAt;rw[h];simp only[hb,Bool.not_true,Bool.and_false]),Bool.false_and]
theorem inAt_good {t:Tx} {k:Nat} {x:In} (h:t.ins[k]?=some x) (hb:0≤x.i∧x.i<3) (hc:¬((t.ins.take k).any fun c=>decide (x=c))=true):inAt t k=true:=by
  unfold inAt;rw[h];simp only[ui hb,Bool.true_and];cases hh:((t.ins.take k).any fun c=>decide (x=c)) with
  | true=>exact absurd hh hc
  | false=>rfl
theorem zqu (t:Tx):Tells P 168 [.val txT t] (.val zl (zeg t)):=by
 refine zd Tryz.func168 rfl rfl rfl (fun ext w hext=>?_);refine qah ?_;refine qbO ?_;refine qbW ?_;refine qaH ?_;refine Lp (ι:=Nat) 1 (fun (k:Nat)=>((((Fr.none).set 1 (.ptr 0 0)).set 7 (.val (sl inT) t.ins)).set 8 (.val i64T (t.ins.length:Int))).set 9 (.val i64T (k:Int))) (fun (k:Nat)=>(Hp.none).set 0 (.box 101 txT t)) (fun (k:Nat)=>k≤t.ins.length∧(List.range k).all (inAt t)=true) (fun (k:Nat)=>t.ins.length-k) (0) (⟨uf _,rfl⟩) ?_;intro k hinv;refine ze (d:=7) rfl zm (fun hsi=>?_);refine qar ?_;refine Cf (p:=k<t.ins.length) (fun ht10=>?_) (fun ht10=>?_)
 ·
  obtain⟨x,hx⟩:∃x,t.ins[k]?=some x:=⟨_,ub ht10⟩;refine qaR ?_;refine qcD ?_;refine A0 aV ?_;refine zg rfl rfl rfl rfl rfl (Lens.self _) zdm rfl ?_;refine CNQ ?_;refine CD mixed ?_;refine G0 (oFp zeA) ?_;refine G0 (oLb zkr ty_3) ?_;refine G0 zcy ?_;refine G0 mV ?_;refine zaG (d:=17) (p:=x.i<0) rfl yz (fun g17=>?_) (fun g17=>?_)
  ·
   refine qbn ?_;refine qbP ?_;refine qad ?_;refine qby ?_;refine Ct ?_;refine qa3 ?_;exact zb rfl rfl (za rfl (zvz hx ht10 ya).symm)
  refine G1 (oFp zeA) ?_;refine G1 (oLb zkr ty_3) ?_;refine G1 zfb ?_;refine qbP ?_;refine zaG (d:=22) (p:=3≤x.i) rfl yz (fun g22=>?_) (fun g22=>?_)
  ·
   refine qad ?_;refine qby ?_;refine Ct ?_;refine qa3 ?_;exact zb rfl rfl (za rfl (zvz hx ht10 ya).symm)
  refine G1 (oFp zeB) ?_;refine G1 (oLb zeE zoo) ?_;refine G1 mV ?_;refine G1 (by first|exact zdy rfl rfl rfl yam ztH|exact zhi rfl rfl rfl ztH yg) ?_;refine G1 (oLs rfl rfl rfl zdm) ?_;refine G1 (oCl (containsIn _ _) rfl fn_220 ye) ?_;refine qby ?_;refine zn (p:=((t.ins.take k).any fun c=>decide (x=c))=true) rfl (Bool.decide_eq_true.symm) (fun ht29=>?_) (fun ht29=>?_)
  ·
   refine qa3 ?_;exact zb rfl rfl (za rfl (inAt_twice hx ht10 ht29).symm)
  refine qbq ?_;exact Nx (k+1) (⟨by omega,zgi hinv.2 (inAt_good hx ya ht29)⟩) ya
 refine CE ?_;refine CQR ?_;refine A0 aC ?_;refine CNQR ?_;refine qbW ?_;refine A0 zgV ?_;refine qa7 ?_;refine Sp (d:=35) (p:=t.ins.length≤3) (fun g35=>?_) (fun g35=>?_)
 ·
  refine A1 (oFp zdb) ?_;refine A1 (oLb zco zkx) ?_;refine A1 (zN rfl rfl zhM) ?_;refine A1 zbH ?_;refine qaf ?_;refine Sp (d:=41) (p:=0<t.outs.length) (fun g41=>?_) (fun g41=>?_)
  ·
   refine A1 (oFp zdb) ?_;refine A1 (oLb zco zkx) ?_;refine A1 (zN rfl rfl zhM) ?_;refine A1 zgV ?_;refine qaf ?_;refine Sp (d:=47) (p:=t.outs.length≤3) (fun g47=>?_) (fun g47=>?_)
   ·
    refine A1 (oFp zdb) ?_;refine A1 (oLb zco zkx) ?_;refine A1 mC ?_;refine A1 (oCl (znP _ _) rfl fn_222 ⟨yn,(by first|exact zdI (Cs:=[]) rfl fn_221 yF trivial rfl (fun x=>odd_ok _)|exact zdH (Cs:=[]) rfl fn_221 yF trivial rfl (fun x y=>odd_ok _)|exact zdJ rfl),trivial⟩) ?_;refine A1 oN ?_;refine qa6 ?_;exact zb rfl rfl (za rfl (by rw[show k=t.ins.length by omega] at hinv;unfold zeg;rw[hinv.2,ui g35,ui g41,ui g47];rfl))
   refine qaa ?_;refine qda ?_;exact zb rfl rfl (za rfl (by unfold zeg;simp only[uh g47,Bool.false_and,Bool.and_false]))
  refine qaa ?_;refine qa8 ?_;refine qda ?_;exact zb rfl rfl (za rfl (by unfold zeg;simp only[uh g41,Bool.false_and,Bool.and_false]))
 refine qaa ?_;refine qao ?_;refine qda ?_;exact zb rfl rfl (za rfl (by unfold zeg;simp only[uh g35,Bool.false_and,Bool.and_false]))
def halves {α:Type} (c:α→Int) (l:List α) (lo hi:Nat):Nat :=
  if h:lo<hi then
    match l[(lo+hi)/2]? with
    | none=>lo
    | some x=>if c x<0 then halves c l ((lo+hi)/2+1) hi else halves c l lo ((lo+hi)/2)
  else lo
termination_by hi-lo
theorem zsH {α:Type} {c:α→Int} {l:List α} {lo hi:Nat} {x:α} (h:lo<hi) (hx:l[(lo+hi)/2]?=some x) (hc:c x<0):halves c l lo hi=halves c l ((lo+hi)/2+1) hi:=by
  rw[halves,dif_pos h];simp only[hx,ut hc]
theorem zsI {α:Type} {c:α→Int} {l:List α} {lo hi:Nat} {x:α} (h:lo<hi) (hx:l[(lo+hi)/2]?=some x) (hc:¬c x<0):halves c l lo hi=halves c l lo ((lo+hi)/2):=by
  rw[halves,dif_pos h];simp only[hx,ur hc]
theorem zij {α:Type} {c:α→Int} {l:List α} {lo:Nat}:halves c l lo lo=lo:=by rw[halves,dif_neg (Nat.lt_irrefl _)]
def zk2 {α:Type} (c:α→Int) (l:List α) (i:Nat):Bool:=match l[i]? with|none=>false|some x=>decide (c x=0)
theorem mid_eq {lo hi:Nat} (h:lo+hi<18446744073709551616):IntKind.i64.wrap (IntL.toI u64T (zaY (z2 (IntL.toI i64T ((lo:Int)+(hi:Int)))) (IntL.toI u64T (1:UInt64)).toNat))=(((lo+hi)/2:Nat):Int):=by
  have e1:(z2 ((lo:Int)+(hi:Int))).toNat=lo+hi:=by
    unfold z2;rw[UInt64.toNat_ofNat_of_lt' (by show(((lo:Int)+hi)%18446744073709551616).toNat<18446744073709551616;omega)];omega
  have e2:(zaY (z2 ((lo:Int)+(hi:Int))) 1).toNat=(lo+hi)/2:=by
    unfold zaY;rw[e1,UInt64.toNat_ofNat_of_lt' (by show(lo+hi)/2^min 1 64<18446744073709551616;rw[show min 1 64=1 from rfl];omega)];rfl
  show IntKind.i64.wrap (((zaY (z2 ((lo:Int)+(hi:Int))) 1).toNat:Nat):Int)=_;rw[e2];exact zas ya
theorem bsearch (l:List Coin) (y:In) (f:Coin→In→Int) (hl:l.length<4611686018427387904):Tells P 331 [.val (bsl zbg) l,.val inT y,.fn2 P zbg inT i64T f] (.tup2 (.val i64T (halves (fun x=>f x y) l 0 l.length:Nat)) (.val zl (zk2 (fun x=>f x y) l (halves (fun x=>f x y) l 0 l.length)))):=by
 refine zd Tryz.func331 rfl rfl rfl (fun ext w hext=>?_);refine ze (d:=0) rfl zm (fun hsl0=>?_);refine qah ?_;refine A0 aV ?_;refine qaL ?_;refine A0 (zN rfl rfl ziS) ?_;refine qaL ?_;refine A0 aV ?_;refine qaQ ?_;refine CB ?_;refine Lp (ι:=Nat×Nat) 1 (fun(lo,hi)=>(((((Fr.none.set 0 (.val (bsl zbg) l)).set 2 (.fn2 P zbg inT i64T f)).set 4 (.ptr 0 0)).set 8 (.val i64T (l.length:Int))).set 9 (.val i64T (lo:Int))).set 10 (.val i64T (hi:Int))) (fun(lo,hi)=>Hp.none.set 0 (.box 256 inT y)) (fun(lo,hi)=>lo≤hi∧hi≤l.length∧halves (fun x=>f x y) l 0 l.length=halves (fun x=>f x y) l lo hi) (fun(lo,hi)=>hi-lo) ((0,l.length)) (⟨uf _,ug _,rfl⟩) ?_;intro⟨lo,hi⟩ hinv;dsimp only at hinv;refine CQQR ?_;refine qav ?_;refine qbr ?_;refine Cf (p:=lo<hi) (fun ht17=>?_) (fun ht17=>?_)
 ·
  obtain⟨x,hx⟩:∃x,l[(lo+hi)/2]?=some x:=yB;refine CS ?_;refine CB ?_;refine CQR ?_;refine qav ?_;refine A0 zdl ?_;refine xe ?_;refine xf ?_;refine A0 (znx rfl (ui_3) (us_234) rfl (mid_eq ya)) ?_;refine qcv ?_;refine G0 mH ?_;refine qcr ?_;refine G0 (zbu rfl rfl rfl zlP yj) ?_;refine G0 (zf rfl rfl zoR) ?_;refine G0 (oLs rfl rfl rfl zdm) ?_;refine G0 (zmf rfl rfl yb yn) ?_;refine G0 zcy ?_;refine GK.nil ?_;refine Cf (p:=f x y<0) (fun ht31=>?_) (fun ht31=>?_)
  ·
   refine CR ?_;refine qb2 ?_;refine qae ?_;refine CI ?_;exact Nx (((lo+hi)/2+1,hi)) yaM ybe
  refine CR ?_;refine qa7 ?_;refine qae ?_;refine CI ?_;exact Nx ((lo,(lo+hi)/2)) yaM ybe
 refine CE ?_;refine qb0 ?_;refine qcr ?_;refine G0 mV ?_;refine G0 zcy ?_;refine G0 mV ?_;refine zaG (d:=39) (p:=lo<l.length) rfl yz (fun g39=>?_) (fun g39=>?_)
 ·
  obtain⟨x,hx⟩:∃x,l[lo]?=some x:=⟨_,ub g39⟩;refine G1 mH ?_;refine G1 mV ?_;refine G1 mV ?_;refine G1 (zbu rfl rfl rfl zlP yj) ?_;refine G1 (zf rfl rfl zoR) ?_;refine G1 (oLs rfl rfl rfl zdm) ?_;refine G1 (zmf rfl rfl yb yn) ?_;refine G1 zaH ?_;refine G0 oK ?_;refine G0 aV ?_;refine qbs ?_;exact zac rfl rfl (za rfl (by rw[hinv.2.2,show hi=lo by omega,zij])) (za rfl (by rw[hinv.2.2,show hi=lo by omega,zij];unfold zk2;rw[hx];rfl))
 refine qad ?_;refine G2 ?_;refine G2 ?_;refine G0 oK ?_;refine G0 aV ?_;refine qbs ?_;exact zac rfl rfl (za rfl (by rw[hinv.2.2,show hi=lo by omega,zij])) (za rfl (by rw[hinv.2.2,show hi=lo by omega,zij];unfold zk2;rw[List.getElem?_eq_none ya]))
def placeOf (p:List Coin) (x:In):Nat:=halves (fun c=>zbd c.inn x) p 0 p.length
def zkQ (p:List Coin) (x:In):Bool:=zk2 (fun c=>zbd c.inn x) p (placeOf p x)
theorem place_ok (p:List Coin) (x:In) (hl:p.length<4611686018427387904):Tells P 284 [.val (bsl zbg) p,.val inT x] (.tup2 (.val i64T (placeOf p x:Nat)) (.val zl (zkQ p x))):=by
 refine zd Tryz.func284 rfl rfl rfl (fun ext w hext=>?_);refine ze (d:=0) rfl zm (fun hsl0=>?_);refine qah ?_;refine A0 aV ?_;refine qaL ?_;refine A0 (oLs rfl rfl rfl zdm) ?_;refine A0 (oCl (bsearch p x (fun c x=>zbd c.inn x) hl) rfl fn_331 ⟨yn,yn,(by first|exact zdI (Cs:=[]) rfl fn_332 yF trivial rfl (fun x=>zr2 _ _)|exact zdH (Cs:=[]) rfl fn_332 yF trivial rfl (fun x y=>zr2 _ _)|exact zdJ rfl),trivial⟩) ?_;refine qab ?_;refine qck ?_;exact zac rfl rfl (zdk rfl) (zdk rfl)
theorem delete_ok (l:List Coin) (i:Nat) (hi:i<l.length):ze7 P 285 (.row 293 zbg l) [.own 0,.val i64T (i:Int),.val i64T ((i:Int)+1)] (.fresh 293 zbg (l.take i++l.drop (i+1))) (.none_):=by
 refine zgz trivial Tryz.func285 rfl rfl ⟨Nat.one_pos,⟨trivial,⟨trivial,trivial⟩⟩⟩ (fun ext pg w hext hgr=>?_);refine ze (d:=1) rfl zu (fun hin1=>?_);refine ze (d:=2) rfl zu (fun hin2=>?_);refine zla (n:=0) rfl (fun hrl=>?_);refine qcn ?_;refine A0 mO ?_;refine qav ?_;refine A0 mO ?_;refine A0 (zbe rfl rfl rfl ziS) ?_;refine A0 (g_os_chk (p:=i) (q:=i+1) (r:=l.length) rfl rfl rfl rfl rfl rfl zlP yp yp yp yg) ?_;refine CNQQR ?_;refine qav ?_;refine A0 zaH ?_;refine zw (d:=16) rfl ya0 ?_;refine CN ?_;refine Cg ?_;refine CSQR ?_;refine A0 mO ?_;refine A0 (zbe rfl rfl rfl ziS) ?_;refine qaQ ?_;refine xg ?_;refine X0 mO ?_;refine X0 mV ?_;refine X0 (zpn (q:=i) rfl rfl rfl rfl zlP yp yg) ?_;refine X0 mO ?_;refine X0 mV ?_;refine X0 (g_os_l (p:=i+1) rfl rfl rfl rfl zlP yp yg) ?_;refine XK.e (fun fr' hfr kk H=>by exact ztl rfl rfl rfl rfl ((hfr 22 yc).trans rfl) ((hfr 25 yc).trans rfl) rfl zo1 ya (zt H)) ?_;refine X0 aS ?_;refine XK.nil' ?_;refine CQR ?_;refine A0 mS ?_;refine A0 mS ?_;refine A0 (g_len_s rfl rfl ya ziS) ?_;refine qa7 ?_;refine A0 (g_os_lh (p:=i+(l.length-(i+1))) (q:=l.length) rfl rfl rfl rfl rfl zlP yp yp yg) ?_;refine zwl rfl rfl rfl rfl rfl zo1 ze_293 yK ?_;refine CNQR ?_;refine A0 mS ?_;refine A0 aS ?_;refine CN ?_;exact zfj rfl rfl rfl rfl rfl zgx (zrW rfl rfl yK (by rw[List.take_append_of_le_length yK,List.take_take,Nat.min_self,List.take_append_of_le_length yK];exact uc yK))
def rotl (x:UInt32) (n:Int):UInt32:=shl32 x ((z2 n)&&&31).toNat|||zor x (32-((z2 n)&&&31)).toNat
theorem rotl_ok (x:UInt32) (n:Int):Tells P 196 [.val u32T x,.val i64T n] (.val u32T (rotl x n)):=by
 refine zd Tryz.func196 rfl rfl rfl (fun ext w hext=>?_);refine ze (d:=1) rfl zu (fun hin1=>?_);refine CQR ?_;refine qaL ?_;refine xe ?_;refine A0 (zqO rfl rfl rfl) ?_;refine qbv ?_;refine A0 (zqL rfl rfl rfl ym rfl) ?_;refine qav ?_;refine A0 (g_sub64 rfl rfl rfl) ?_;refine A0 (znu rfl rfl rfl ym rfl) ?_;refine A0 (zvF rfl rfl rfl) ?_;refine qae ?_;exact zb rfl rfl (za rfl rfl)
theorem zu3 (x:UInt32) (n:Int):Tells P 148 [.val u32T x,.val i64T n] (.val u32T (rotl x (IntKind.i64.wrap (0-n)))):=by
 refine zd Tryz.func148 rfl rfl rfl (fun ext w hext=>?_);refine ze (d:=1) rfl zu (fun hin1=>?_);refine CQR ?_;refine qbv ?_;refine A0 (g_neg rfl rfl rfl) ?_;refine A0 (oCl (rotl_ok _ _) rfl fn_196 ye) ?_;refine qae ?_;exact zb rfl rfl (za rfl rfl)
def shaK:List UInt32:=[1116352408,1899447441,3049323471,3921009573,961987163,1508970993,2453635748,2870763221,3624381080,310598401,607225278,1426881987,1925078388,2162078206,2614888103,3248222580,3835390401,4022224774,264347078,604807628,770255983,1249150122,1555081692,1996064986,2554220882,2821834349,2952996808,3210313671,3336571891,3584528711,113926993,338241895,666307205,773529912,1294757372,1396182291,1695183700,1986661051,2177026350,2456956037,2730485921,2820302411,3259730800,3345764771,3516065817,3600352804,4094571909,275423344,430227734,506948616,659060556,883997877,958139571,1322822218,1537002063,1747873779,1955562222,2024104815,2227730452,2361852424,2428436474,2756734187,3204031479,3329325298]
def zz (n:UInt64) (size:Nat):List UInt8:=(List.range size).map fun j=>zch (IntL.toI u64T (zaY n (8*(size-1-j))))
theorem zqo {n:UInt64} {size k:Nat} {l:List UInt8} (hk:k<size) (hl:l.length=size) (h:∀j,size-k≤j→j<size→l[j]?=(zz n size)[j]?):∀j,size-(k+1)≤j→j<size→(l.set (size-1-k) (zch (IntL.toI u64T (zaY n (8*k)))))[j]?=(zz n size)[j]?:=fun j h1 h2=>by
  rw[List.getElem?_set];by_cases c:size-1-k=j
  · rw[ut c,ut ya]
    unfold zz;rw[List.getElem?_map,List.getElem?_range h2,Option.map_some];congr 4;omega
  rw[ur c];exact h j ya h2
theorem zr8 {n:UInt64} {size:Nat} {l:List UInt8} (hl:l.length=size) (h:∀j,size-size≤j→j<size→l[j]?=(zz n size)[j]?):l=zz n size:=by
  apply List.ext_getElem?;intro j;by_cases c:j<size
  · exact h j ya c
  rw[List.getElem?_eq_none ya,List.getElem?_eq_none (by unfold zz;simp;omega)]
theorem numbers_ok:Tells P 149 [] (.val (arrT 64 yr u32T) shaK):=by
 refine zd Tryz.func149 rfl rfl rfl (fun ext w hext=>?_);refine CQR ?_;refine zq zuH rfl rfl rfl rfl ?_;refine CNQR ?_;refine A0 (zil (T:=u32T) (xs:=[_,_,_,_,_,_,_,_,_,_,_,_,_,_,_,_,_,_,_,_,_,_,_,_,_,_,_,_,_,_,_,_,_,_,_,_,_,_,_,_,_,_,_,_,_,_,_,_,_,_,_,_,_,_,_,_,_,_,_,_,_,_,_,_]) rfl zkp zuH ⟨rfl,rfl,rfl,rfl,rfl,rfl,rfl,rfl,rfl,rfl,rfl,rfl,rfl,rfl,rfl,rfl,rfl,rfl,rfl,rfl,rfl,rfl,rfl,rfl,rfl,rfl,rfl,rfl,rfl,rfl,rfl,rfl,rfl,rfl,rfl,rfl,rfl,rfl,rfl,rfl,rfl,rfl,rfl,rfl,rfl,rfl,rfl,rfl,rfl,rfl,rfl,rfl,rfl,rfl,rfl,rfl,rfl,rfl,rfl,rfl,rfl,rfl,rfl,rfl,rfl,rfl,rfl,rfl,rfl,rfl,rfl,rfl,rfl,rfl,rfl,rfl,rfl,rfl,rfl,rfl,rfl,rfl,rfl,rfl,rfl,rfl,rfl,rfl,rfl,rfl,rfl,rfl,rfl,rfl,rfl,rfl,rfl,rfl,rfl,rfl,rfl,rfl,rfl,rfl,rfl,rfl,rfl,rfl,rfl,rfl,rfl,rfl,rfl,rfl,rfl,rfl,rfl,rfl,rfl,rfl,rfl,rfl,rfl,rfl,rfl,rfl,rfl,rfl,trivial⟩ rfl) ?_;refine zg rfl rfl rfl rfl rfl (Lens.self _) ty_233 rfl ?_;refine CN ?_;exact z7 rfl rfl rfl rfl ty_233 (rfl)
theorem zkm (n:UInt64) (size:Nat) (hs:size≤8):Tells P 139 [.val u64T n,.val i64T (size:Int)] (.fresh 5 u8T (zz n size)):=by
 refine zd Tryz.func139 rfl rfl rfl (fun ext w hext=>?_);refine ze (d:=1) rfl zu (fun hin1=>?_);refine qa9 ?_;refine qbx ?_;refine A0 zcy ?_;refine qa7 ?_;refine zw (d:=9) rfl (uh (by show ¬((size:Int)<0);omega)) ?_;refine qcV ?_;refine A1 zbH ?_;refine A0 oK ?_;refine zw (d:=12) rfl (uh (by show ¬((8:Int)<(size:Int));omega)) ?_;refine CN ?_;refine Cg ?_;refine qc4 ?_;refine aw_mks (T:=u8T) (n:=size) rfl rfl rfl rfl rfl rfl yp yp zcT ze_5 ⟨by omega,by omega,(show(size)*1≤16777216 by omega)⟩ ?_;refine A0 aO ?_;refine CNQQR ?_;refine qav ?_;refine CNB ?_;refine Lp (ι:=Nat×List UInt8) 1 (fun(k,l)=>((((Fr.none.set 0 (.val u64T n)).set 1 (.val i64T (size:Int))).set 5 (.own 0)).set 15 (.val i64T (size:Int))).set 16 (.val i64T (k:Int))) (fun(k,l)=>Hp.none.set 0 (.row 5 u8T l)) (fun(k,l)=>k≤size∧l.length=size∧∀j,size-k≤j→j<size→l[j]?=(zz n size)[j]?) (fun(k,l)=>size-k) ((0,List.replicate size 0)) (⟨uf _,by simp,fun j h1 h2=>by omega⟩) ?_;intro⟨k,l⟩ hinv;dsimp only at hinv;refine qar ?_;refine Cf (p:=k<size) (fun ht17=>?_) (fun ht17=>?_)
 ·
  obtain⟨x,hx⟩:∃x,l[size-1-k]?=some x:=yB;refine qaR ?_;refine qc3 ?_;refine A0 mO ?_;refine qcO ?_;refine qcO ?_;refine qav ?_;refine A0 zoA ?_;refine xf ?_;refine qch ?_;refine A0 (zb8 (i:=size-1-k) rfl rfl rfl rfl yp zcG yg) ?_;refine zdc rfl rfl rfl rfl rfl rfl yj (Lens.self _) ty_5 rfl ?_;refine qbt ?_;exact Nx ((k+1,l.set (size-1-k) (zch (IntL.toI u64T (zaY n (8*k)))))) (⟨by omega,by simp;exact hinv.2.1,zqo ht17 hinv.2.1 hinv.2.2⟩) (by show _<size-k;simp only[];omega)
 refine qaS ?_;exact zb rfl rfl (zh rfl rfl (zr8 hinv.2.1 (by rw[show k=size by omega] at hinv;exact hinv.2.2)))
theorem growNil (n:Nat) (hn:n≤140737488355328):Tells P 195 [.lit (.slice none 0 0),.val i64T (n:Int)] (.fresh 5 u8T []):=by
 refine zd Tryz.func195 rfl rfl rfl (fun ext w hext=>?_);refine ze (d:=1) rfl zu (fun hin1=>?_);refine qa9 ?_;refine qbx ?_;refine qbr ?_;refine zae rfl (uh (by show ¬((n:Int)<0);omega)) ?_;refine qc2 ?_;refine A0 mL ?_;refine A0 (zj9 rfl rfl zcN) ?_;refine A0 mL ?_;refine qbE ?_;refine A0 zbT ?_;refine A0 zbT ?_;refine qaL ?_;refine qcL ?_;refine zn (p:=0<n) rfl ybr (fun ht16=>?_) (fun ht16=>?_)
 ·
  refine CR ?_;refine A0 mL ?_;refine A0 mL ?_;refine A0 (zj9 rfl rfl zcN) ?_;refine A0 yaU ?_;refine qa7 ?_;refine zpL (T:=u8T) (n:=n) rfl rfl rfl rfl rfl rfl yam zcT ze_5 (ui_3) (⟨by assumption,by omega,by omega⟩) ?_;refine A0 mL ?_;refine qbE ?_;refine A0 (zpn (q:=0) rfl rfl rfl rfl zcG yp yg) ?_;refine A0 aS ?_;refine CNQR ?_;refine A0 mS ?_;refine A0 aS ?_;refine CN ?_;exact zb rfl rfl (zmX rfl rfl yK rfl)
 refine CSQR ?_;refine A0 mL ?_;refine A0 aL ?_;refine CN ?_;exact zb rfl rfl (zx rfl)
theorem zbE {α:Type} {ls:List (List α)} {k:Nat} {x:List α} (h:ls[k]?=some x):(ls.take (k+1)).flatten=(ls.take k).flatten++x:=by
  rw[un,h];simp
theorem zf0 {α:Type} (ls:List (List α)) (k:Nat):(ls.take k).flatten.length≤ls.flatten.length:=by
  conv=>rhs;rw[←List.take_append_drop k ls,List.flatten_append,ue]
  omega
theorem zgB (ls:List (List UInt8)) (hl:ls.flatten.length≤140737488355328):Tells P 138 [.val (bsl (bsl u8T)) ls] (.fresh 5 u8T ls.flatten):=by
 refine zd Tryz.func138 rfl rfl rfl (fun ext w hext=>?_);refine ze (d:=0) rfl zm (fun hsl0=>?_);refine qcn ?_;refine qap ?_;refine A0 (zN rfl rfl zgX) ?_;refine qaH ?_;refine Lp (ι:=Nat) 0 (fun (k:Nat)=>(((((Fr.none).set 0 (.val (bsl (bsl u8T)) ls)).set 3 (.val i64T ((ls.take k).flatten.length:Int))).set 9 (.val (bsl (bsl u8T)) ls)).set 10 (.val i64T (ls.length:Int))).set 11 (.val i64T (k:Int))) (fun (k:Nat)=>Hp.none) (fun (k:Nat)=>k≤ls.length) (fun (k:Nat)=>ls.length-k) (0) (uf _) ?_;intro k hinv;refine qar ?_;refine Cf (p:=k<ls.length) (fun ht12=>?_) (fun ht12=>?_)
 ·
  obtain⟨x,hx⟩:∃x,ls[k]?=some x:=⟨_,ub ht12⟩;have hle:=zf0 ls (k+1);rw[zbE hx,ue] at hle;refine CSQBQR ?_;refine A0 (zbu rfl rfl rfl zdL yj) ?_;refine A0 (zf rfl rfl zcx) ?_;refine A0 aX ?_;refine CNQR ?_;refine qa7 ?_;refine A0 mX ?_;refine qbE ?_;refine A0 zdl ?_;refine qaL ?_;refine qbr ?_;refine zae rfl (uh yy) ?_;refine qbq ?_;refine zi (d:=3) (y:=((ls.take (k+1)).flatten.length:Int)) rfl (by rw[zbE hx,ue];omega) ?_;exact Nx (k+1) ya ya
 refine zi (d:=3) (y:=((ls.flatten.length:Nat):Int)) rfl yT ?_;refine CE ?_;refine qaE ?_;refine zaQ (growNil ls.flatten.length hl) rfl fn_195 ybQ rfl rfl rfl ?_;refine A0 aO ?_;refine qbx ?_;refine A0 (zN rfl rfl zgX) ?_;refine qaH ?_;refine Lp (ι:=Nat) 1 (fun k=>(((Fr.none.set 6 (.own 0)).set 25 (.val (bsl (bsl u8T)) ls)).set 26 (.val i64T (ls.length:Int))).set 27 (.val i64T (k:Int))) (fun k=>Hp.none.set 0 (.row 5 u8T (ls.take k).flatten)) (fun k=>k≤ls.length) (fun k=>ls.length-k) (0) (uf _) ?_;intro k hinv;refine qar ?_;refine Cf (p:=k<ls.length) (fun ht28=>?_) (fun ht28=>?_)
 ·
  obtain⟨x,hx⟩:∃x,ls[k]?=some x:=⟨_,ub ht28⟩;have hle:=zf0 ls (k+1);rw[zbE hx,ue] at hle;refine CSQBQR ?_;refine A0 (zbu rfl rfl rfl zdL yj) ?_;refine A0 (zf rfl rfl zcx) ?_;refine A0 aX ?_;refine CNR ?_;refine A0 mO ?_;refine A0 mX ?_;refine zC rfl rfl rfl rfl rfl rfl rfl zcT ya ?_;refine A0 aO ?_;refine qbt ?_;refine xh ?_;refine zj (n:=0) rfl (zbE hx).symm ?_;exact Nx (k+1) ya ya
 refine qaS ?_;exact zb rfl rfl (zh rfl rfl yT)
def padZ (n:Nat):Nat:=(64-(n+9)%64)%64
def zeY (b:List UInt8):List UInt8:=(b++128::List.replicate (padZ b.length) 0)++zz (8*z2 (IntL.toI i64T (b.length:Int))) 8
theorem zjQ (b:List UInt8):(b++128::List.replicate (padZ b.length) 0).length=b.length+1+padZ b.length:=yK
theorem pad_step {b l:List UInt8} {k:Nat} (hk:k<8) (hl:l.length=b.length+padZ b.length+9) (h:∀j,j<b.length+padZ b.length+1∨b.length+padZ b.length+9-k≤j→l[j]?=(zeY b)[j]?) :
    ∀j,j<b.length+padZ b.length+1∨b.length+padZ b.length+9-(k+1)≤j→(l.set (b.length+padZ b.length+8-k) (zch (IntL.toI u64T (zaY (8*z2 (IntL.toI i64T (b.length:Int))) (8*k)))))[j]?=(zeY b)[j]?:=fun j hj=>by
  rw[List.getElem?_set];by_cases c:b.length+padZ b.length+8-k=j
  · rw[ut c,ut ya]
    unfold zeY;rw[List.getElem?_append_right (by rw[zjQ];omega),zjQ];unfold zz;rw[List.getElem?_map,List.getElem?_range ya,Option.map_some];congr 4;omega
  rw[ur c];exact h j ya
theorem pad_start {b:List UInt8} {j:Nat} (hj:j<b.length+padZ b.length+1∨b.length+padZ b.length+9-0≤j):([b,[128],List.replicate (padZ b.length+8) 0].flatten)[j]?=(zeY b)[j]?:=by
  unfold zeY;have e:[b,[128],List.replicate (padZ b.length+8) (0:UInt8)].flatten=(b++128::List.replicate (padZ b.length) 0)++List.replicate 8 0:=by
    rw[←List.replicate_append_replicate];simp
  rw[e];have hl:=zjQ b;generalize b++128::List.replicate (padZ b.length) 0=pre at hl;rcases hj with hj|hj
  · rw[List.getElem?_append_left ya,List.getElem?_append_left ya]
  rw[List.getElem?_append_right ya,List.getElem?_append_right ya,hl];rw[List.getElem?_eq_none yK,List.getElem?_eq_none (by unfold zz;simp;omega)]
theorem pad_all {b l:List UInt8} (h:∀j,j<b.length+padZ b.length+1∨b.length+padZ b.length+9-8≤j→l[j]?=(zeY b)[j]?):l=zeY b:=List.ext_getElem? fun j=>h j ya
theorem pad_ok (b:List UInt8) (hb:b.length≤70368744177664):Tells P 76 [.val (sl u8T) b] (.fresh 5 u8T (zeY b)):=by
 have hz:((padZ b.length:Nat):Int)=(64-((b.length:Int)+1+8)%64)%64:=by unfold padZ;omega
 have hz2:padZ b.length<64:=by unfold padZ;omega
 refine zd Tryz.func76 rfl rfl rfl (fun ext w hext=>?_);refine ze (d:=0) rfl zm (fun hsl0=>?_);refine qcn ?_;refine qa7 ?_;refine xi ?_;refine A0 zdl ?_;refine A0 zdl ?_;refine qbK ?_;refine A0 zbT ?_;refine qbK ?_;refine qaL ?_;refine qb7 ?_;refine qb2 ?_;refine aw_mks (T:=u8T) (n:=padZ b.length+8) rfl rfl rfl rfl rfl rfl yp yp zcT ze_5 ⟨by omega,by omega,(show(padZ b.length+8)*1≤16777216 by omega)⟩ ?_;refine aw_pub (d:=17) rfl rfl ?_;refine A0 (zL (T:=(sl u8T)) (xs:=[_,_,_]) rfl zdL zdj yaA rfl rfl) ?_;refine zaQ (zgB [b,[128],List.replicate (padZ b.length+8) 0] yK) rfl zpp yd rfl rfl rfl ?_;refine A0 aO ?_;refine CNQQR ?_;refine qaH ?_;refine Lp (ι:=Nat×List UInt8) 2 (fun(k,l)=>((Fr.none.set 0 (.val (sl u8T) b)).set 4 (.own 1)).set 20 (.val i64T (k:Int))) (fun(k,l)=>Hp.none.set 1 (.row 5 u8T l)) (fun(k,l)=>k≤8∧l.length=b.length+padZ b.length+9∧∀j,j<b.length+padZ b.length+1∨b.length+padZ b.length+9-k≤j→l[j]?=(zeY b)[j]?) (fun(k,l)=>8-k) ((0,[b,[128],List.replicate (padZ b.length+8) 0].flatten)) (⟨uf _,by simp;omega,fun j h=>pad_start h⟩) ?_;intro⟨k,l⟩ hinv;dsimp only at hinv;refine qar ?_;refine Cf (p:=k<8) (fun ht21=>?_) (fun ht21=>?_)
 ·
  obtain⟨x,hx⟩:∃x,l[b.length+padZ b.length+8-k]?=some x:=yB;refine qaR ?_;refine qc3 ?_;refine A0 mO ?_;refine A0 mO ?_;refine A0 (zbe rfl rfl rfl zcN) ?_;refine A0 zbT ?_;refine qcO ?_;refine qa7 ?_;refine xi ?_;refine A0 (zfC rfl (zlL) (us_3) rfl) ?_;refine A0 (zkZ rfl rfl rfl) ?_;refine qa7 ?_;refine A0 zoA ?_;refine xf ?_;refine qch ?_;refine A0 (zb8 (i:=b.length+padZ b.length+8-k) rfl rfl rfl rfl yp zcG yg) ?_;refine zdc rfl rfl rfl rfl rfl rfl yj (Lens.self _) ty_5 rfl ?_;refine qbt ?_;exact Nx ((k+1,l.set (b.length+padZ b.length+8-k) (zch (IntL.toI u64T (zaY (8*z2 (IntL.toI i64T (b.length:Int))) (8*k)))))) (⟨by omega,by simp;exact hinv.2.1,pad_step ht21 hinv.2.1 hinv.2.2⟩) (by show _<8-k;simp only[];omega)
 refine qaS ?_;exact zb rfl rfl (zh rfl rfl (pad_all (by rw[show k=8 by omega] at hinv;exact hinv.2.2)))
def putIn (x:In):List UInt8:=x.tx++[zch (IntL.toI i64T x.i)]
def zu5 (o:Out):List UInt8:=zz (z2 (IntL.toI i64T o.v)) 6++[zch (IntL.toI i64T o.to)]
def zln (t:Tx) (k:Nat):List UInt8:=zch (IntL.toI i64T (t.ins.length:Int))::((t.ins.take k).map putIn).flatten
def zf8 (t:Tx) (k:Nat):List UInt8:=zln t t.ins.length++[zch (IntL.toI i64T (t.outs.length:Int))]++((t.outs.take k).map zu5).flatten
def putTx (t:Tx):List UInt8:=zf8 t t.outs.length
theorem zm0 {t:Tx} {k:Nat} {x:In} (h:t.ins[k]?=some x):zln t (k+1)=zln t k++x.tx++[zch (IntL.toI i64T x.i)]:=by
  unfold zln;rw[un,h];simp[putIn]
theorem zlm {t:Tx} {k:Nat} {x:Out} (h:t.outs[k]?=some x):zf8 t (k+1)=zf8 t k++zz (z2 (IntL.toI i64T x.v)) 6++[zch (IntL.toI i64T x.to)]:=by
  unfold zf8;rw[un,h];simp[zu5]
theorem fact_in {U N:Nat→Prop} {w:World} {x:In} {cs:List Value} (h:inT.rel U N w x cs):x.tx.length=32:=by
  obtain⟨c1,c2,_,h1,_⟩:=h;exact h1.1
theorem zS (n:UInt64) (s:Nat):(zz n s).length=s:=by simp[zz]
theorem zfp {t:Tx} (h:zeg t=true):t.ins.length≤3∧0<t.outs.length∧t.outs.length≤3:=by
  unfold zeg at h;simp only[uk,uj] at h;exact⟨h.2.1,h.2.2.1,h.2.2.2.1⟩
theorem put_ok (t:Tx):Tells P 100 [.val txT t] (.tup2 (.fresh 5 u8T (if zeg t=true then putTx t else [])) (.val zl (zeg t))):=by
 refine zd Tryz.func100 rfl rfl rfl (fun ext w hext=>?_);refine qah ?_;refine A0 aL ?_;refine qbO ?_;refine qcG ?_;refine A0 (oCl (zqu _) rfl fn_168 yd) ?_;refine qb3 ?_;refine zn (p:=¬zeg t=true) rfl yA (fun ht11=>?_) (fun ht11=>?_)
 ·
  refine qc9 ?_;exact zac rfl rfl (by rw[ur ht11];exact zx rfl) (za rfl (by simpa using ht11))
 have hmay:=ua ht11;obtain⟨hmi,hm0,hmo⟩:=zfp hmay;refine CSQR ?_;refine qbW ?_;refine A0 (zny rfl (ui_5) (us_3) rfl) ?_;refine zb9 (T:=u8T) (xs:=[_]) rfl rfl rfl rfl zcG zcT yE rfl rfl ?_;refine A0 aO ?_;refine CNQQR ?_;refine qbW ?_;refine qaH ?_;refine Lp (ι:=Nat) 2 (fun k=>((((Fr.none.set 1 (.ptr 0 0)).set 4 (.own 1)).set 18 (.val (sl inT) t.ins)).set 19 (.val i64T (t.ins.length:Int))).set 20 (.val i64T (k:Int))) (fun k=>(Hp.none.set 0 (.box 101 txT t)).set 1 (.row 5 u8T (zln t k))) (fun k=>k≤t.ins.length∧(zln t k).length=33*k+1) (fun k=>t.ins.length-k) (0) (⟨uf _,by simp[zln]⟩) ?_;intro k hinv;obtain⟨hk,hpl⟩:=hinv;have hinv:=And.intro hk hpl;refine qar ?_;refine Cf (p:=k<t.ins.length) (fun ht21=>?_) (fun ht21=>?_)
 ·
  obtain⟨x,hx⟩:∃x,t.ins[k]?=some x:=⟨_,ub ht21⟩;refine CSQBQR ?_;refine qcD ?_;refine zg rfl rfl rfl rfl rfl (Lens.self _) zdm rfl ?_;refine CN ?_;refine aw_factb (n:=2) rfl fact_in (fun hx32=>?_);refine zA [some 1,some 1,some 1,none,some 2,some 2,some 2,some 2,none,some 1] mixed yc ?_;refine X0 mO ?_;refine X0 (oFp zin) ?_;refine X0 (znt rfl rfl ziK rfl rfl) ?_;refine XK.e (fun fr' hfr kk H=>by exact zuv rfl rfl rfl rfl ((hfr 24 yc).trans rfl) rfl ((hfr 26 yc).trans rfl) rfl zlc zcT (by show(_+x.tx.length)*1≤_∧_+x.tx.length≤_;omega) (zt H)) ?_;refine XK.g2 (zdp rfl rfl zeA rfl) (zdp rfl rfl zeA rfl) rfl rfl rfl ?_;refine XK.gb (t:=28) rfl rfl (fun _ he=>zr rfl rfl he zkr ty_3) rfl yE rfl rfl rfl ?_;refine XK.g2 (zny rfl (ui_5) (us_3) rfl) (zny rfl (ui_5) (us_3) rfl) rfl rfl rfl ?_;refine XK.g2 (zL (T:=u8T) (xs:=[_]) rfl zcG zcT yE rfl rfl) (zL (T:=u8T) (xs:=[_]) rfl zcG zcT yE rfl rfl) rfl rfl rfl ?_;refine XK.e (fun fr' hfr kk H=>by exact zC rfl rfl rfl rfl ((hfr 27 yc).trans rfl) rfl ((hfr 31 yc).trans rfl) zcT (by simp only[ue,List.length_cons,List.length_nil,hx32];omega) (zt H)) ?_;refine X0 aO ?_;refine qbj ?_;refine zaz 4 1 5 rfl rfl rfl rfl rfl rfl ?_;refine zj (n:=1) rfl (zm0 hx).symm ?_;exact Nx (k+1) (⟨by omega,by rw[zm0 hx];simp only[ue,List.length_cons,List.length_nil,hx32];omega⟩) ya
 obtain rfl:k=t.ins.length:=ya;obtain⟨hli,_⟩:=hinv;refine CE ?_;refine qbZ ?_;refine A0 (oFp zdb) ?_;refine A0 (oLb zco zkx) ?_;refine A0 (zN rfl rfl zhM) ?_;refine A0 (zny rfl (ui_5) (us_3) rfl) ?_;refine qb7 ?_;refine zC rfl rfl rfl rfl rfl rfl rfl zcT (by simp only[ue,List.length_cons,List.length_nil];omega) ?_;refine A0 aO ?_;refine CNQQR ?_;refine A0 (oFp zdb) ?_;refine A0 (oLb zco zkx) ?_;refine A0 (zN rfl rfl zhM) ?_;refine qaH ?_;refine zaz 2 1 3 rfl rfl rfl rfl rfl rfl ?_;refine zj (y:=zf8 t 0) (n:=1) rfl (by simp[zf8]) ?_;refine Lp (ι:=Nat) 2 (fun k=>((((Fr.none.set 1 (.ptr 0 0)).set 4 (.own 1)).set 42 (.val (sl outT) t.outs)).set 43 (.val i64T (t.outs.length:Int))).set 44 (.val i64T (k:Int))) (fun k=>(Hp.none.set 0 (.box 101 txT t)).set 1 (.row 5 u8T (zf8 t k))) (fun k=>k≤t.outs.length∧(zf8 t k).length=7*k+2+33*t.ins.length) (fun k=>t.outs.length-k) (0) (⟨uf _,by simp[zf8,hpl];omega⟩) ?_;intro k hinv;refine qar ?_;refine Cf (p:=k<t.outs.length) (fun ht45=>?_) (fun ht45=>?_)
 ·
  obtain⟨x,hx⟩:∃x,t.outs[k]?=some x:=⟨_,ub ht45⟩;refine CSQBQR ?_;refine qcC ?_;refine zg rfl rfl rfl rfl rfl (Lens.self _) ziN rfl ?_;refine CN ?_;refine zA [some 1,some 1,some 1,some 1,some 1,none,some 2,some 2,some 2,some 2,none,some 1] mixed yc ?_;refine X0 mO ?_;refine X0 (oFp zf2) ?_;refine X0 (oLb zie ty_3) ?_;refine X0 (zfC rfl (zlL) (us_3) rfl) ?_;refine X0 (oCl (zB (zkm _ 6 yr)) rfl zvR ye) ?_;refine XK.e (fun fr' hfr kk H=>by exact zC rfl rfl rfl rfl ((hfr 48 yc).trans rfl) rfl ((hfr 52 yc).trans rfl) zcT (by simp only[ue,List.length_cons,List.length_nil,zS];omega) (zt H)) ?_;refine XK.g2 (zdp rfl rfl zg4 rfl) (zdp rfl rfl zg4 rfl) rfl rfl rfl ?_;refine XK.gb (t:=54) rfl rfl (fun _ he=>zr rfl rfl he ziF ty_3) rfl yE rfl rfl rfl ?_;refine XK.g2 (zny rfl (ui_5) (us_3) rfl) (zny rfl (ui_5) (us_3) rfl) rfl rfl rfl ?_;refine XK.g2 (zL (T:=u8T) (xs:=[_]) rfl zcG zcT yE rfl rfl) (zL (T:=u8T) (xs:=[_]) rfl zcG zcT yE rfl rfl) rfl rfl rfl ?_;refine XK.e (fun fr' hfr kk H=>by exact zC rfl rfl rfl rfl ((hfr 53 yc).trans rfl) rfl ((hfr 57 yc).trans rfl) zcT (by simp only[ue,List.length_cons,List.length_nil,zS];omega) (zt H)) ?_;refine X0 aO ?_;refine qbj ?_;refine zaz 4 1 5 rfl rfl rfl rfl rfl rfl ?_;refine zj (n:=1) rfl (zlm hx).symm ?_;exact Nx (k+1) (⟨by omega,by rw[zlm hx];simp only[ue,List.length_cons,List.length_nil,zS];omega⟩) ya
 refine CE ?_;refine qbZ ?_;refine qcR ?_;exact zac rfl rfl (zh rfl rfl (by rw[ut hmay,show k=t.outs.length by omega];rfl)) (za rfl hmay.symm)
def rr (x:UInt32) (n:Int):UInt32:=rotl x (IntKind.i64.wrap (0-n))
def beWord (x0 x1 x2 x3:UInt8):UInt32:=shl32 (zjv (IntL.toI u8T x0)) 24|||shl32 (zjv (IntL.toI u8T x1)) 16|||shl32 (zjv (IntL.toI u8T x2)) 8|||zjv (IntL.toI u8T x3)
def zrP (a b x y:UInt32):UInt32:=a+b+(rr x 7^^^rr x 18^^^zor x 3)+(rr y 17^^^rr y 19^^^zor y 10)
def zjG (b:List UInt8) (w:List UInt32) (i:Nat):List UInt32 :=
  if i<16 then w.set i (beWord (b.getD (4*i) default) (b.getD (4*i+1) default) (b.getD (4*i+2) default) (b.getD (4*i+3) default))
  else w.set i (zrP (w.getD (i-16) default) (w.getD (i-7) default) (w.getD (i-15) default) (w.getD (i-2) default))
def zd8 (b:List UInt8) (k:Nat):List UInt32:=(List.range k).foldl (zjG b) (List.replicate 64 0)
def roundX (v w:List UInt32) (i:Nat):UInt32:=v.getD 7 default+(rr (v.getD 4 default) 6^^^rr (v.getD 4 default) 11^^^rr (v.getD 4 default) 25)+((v.getD 4 default&&&v.getD 5 default)^^^(~~~ (v.getD 4 default)&&&v.getD 6 default))+shaK.getD i default+w.getD i default
def roundY (v:List UInt32):UInt32:=(rr (v.getD 0 default) 2^^^rr (v.getD 0 default) 13^^^rr (v.getD 0 default) 22)+((v.getD 0 default&&&v.getD 1 default)^^^(v.getD 0 default&&&v.getD 2 default)^^^(v.getD 1 default&&&v.getD 2 default))
def zrU (w v:List UInt32) (i:Nat):List UInt32:=[roundX v w i+roundY v,v.getD 0 default,v.getD 1 default,v.getD 2 default,v.getD 3 default+roundX v w i,v.getD 4 default,v.getD 5 default,v.getD 6 default]
def zlk (w s:List UInt32) (k:Nat):List UInt32:=(List.range k).foldl (zrU w) s
def sumN (v s:List UInt32) (k:Nat):List UInt32:=(List.range k).foldl (fun s i=>s.set i (s.getD i default+v.getD i default)) s
def addOf (s:List UInt32) (b:List UInt8):List UInt32:=sumN (zlk (zd8 b 64) s 64) s 8
theorem zeM {α:Type} {f:α→Nat→α} {z:α} {k:Nat}:(List.range (k+1)).foldl f z=f ((List.range k).foldl f z) k:=by rw[List.range_succ,List.foldl_append];rfl
theorem sched_lo {b:List UInt8} {k:Nat} {x0 x1 x2 x3:UInt8} (hk:k<16) (h0:b[4*k]?=some x0) (h1:b[4*k+1]?=some x1) (h2:b[4*k+2]?=some x2) (h3:b[4*k+3]?=some x3):(zd8 b k).set k (beWord x0 x1 x2 x3)=zd8 b (k+1):=by
  unfold zd8;rw[zeM];unfold zjG;rw[ut hk];simp only[uq,h0,h1,h2,h3,Option.getD_some]
theorem sched_hi {b:List UInt8} {k:Nat} (hk:¬k<16):(zd8 b k).set k (zrP ((zd8 b k).getD (k-16) default) ((zd8 b k).getD (k-7) default) ((zd8 b k).getD (k-15) default) ((zd8 b k).getD (k-2) default))=zd8 b (k+1):=by
  have e:zd8 b (k+1)=zjG b (zd8 b k) k:=zeM;rw[e];unfold zjG;rw[ur hk]
theorem zo3 {w s:List UInt32} {k:Nat}:zrU w (zlk w s k) k=zlk w s (k+1):=zeM.symm
theorem sum_succ {v s:List UInt32} {k:Nat} {x:UInt32} (h:v[k]?=some x):(sumN v s k).set k ((sumN v s k).getD k default+x)=sumN v s (k+1):=by
  have e:sumN v s (k+1)=_:=zeM;rw[e];show _=(sumN v s k).set k ((sumN v s k).getD k default+v.getD k default);rw[uq (l:=v),h];rfl
theorem roundN_len {w s:List UInt32} (hs:s.length=8):∀k,(zlk w s k).length=8
  | 0=>hs
  | k+1=>by rw[←zo3];rfl
theorem add_ok (s:List UInt32) (b:List UInt8) (hb:b.length=64) (hs:s.length=8):ze7 P 77 (.box 144 (arrT 8 yr u32T) s) [.ptr 0 0,.val (bsl u8T) b] (.lit (.tuple #[])) (.box 144 (arrT 8 yr u32T) (addOf s b)):=by
 refine zgz trivial Tryz.func77 rfl rfl ⟨Nat.one_pos,⟨trivial,trivial⟩⟩ (fun ext pg w hext hgr=>?_);refine ze (d:=1) rfl zm (fun hsl1=>?_);refine CQR ?_;refine zq zuH rfl rfl rfl rfl ?_;refine CNQQR ?_;refine qaH ?_;refine Lp (ι:=Nat) 2 (fun (k:Nat)=>((((Fr.none).set 0 (.ptr 0 0)).set 1 (.val (bsl u8T) b)).set 4 (.ptr 1 0)).set 17 (.val i64T (k:Int))) (fun (k:Nat)=>((Hp.none).set 0 (.box 144 (arrT 8 yr u32T) s)).set 1 (.box 233 (arrT 64 yr u32T) (zd8 b k))) (fun (k:Nat)=>k≤64) (fun (k:Nat)=>64-k) (0) (uf _) ?_;intro k hinv;refine qar ?_;refine Cf (p:=k<64) (fun ht18=>?_) (fun ht18=>?_)
 ·
  refine qaR ?_;refine qap ?_;refine qbr ?_;refine Cf (p:=k<16) (fun ht21=>?_) (fun ht21=>?_)
  ·
   obtain⟨x0,hx0⟩:∃x,b[4*k]?=some x:=yB;obtain⟨x1,hx1⟩:∃x,b[4*k+1]?=some x:=yB;obtain⟨x2,hx2⟩:∃x,b[4*k+2]?=some x:=yB;obtain⟨x3,hx3⟩:∃x,b[4*k+3]?=some x:=yB;refine CQ ?_;refine zA [some 1,some 1,some 1,some 1,some 1,some 1,some 1,some 1,some 1,some 1,some 1,some 1,some 1,some 1,some 1,some 1,some 1,some 1,some 1,some 1,some 1,some 1,some 1,some 1,some 1,some 1,some 1,some 1,some 1,some 1,some 1,some 1,some 1,some 1,some 1,none] mixed yc ?_;refine X0 mV ?_;refine X0 mV ?_;refine X0 mV ?_;refine X0 zoA ?_;refine X0 (zV (i:=4*k) rfl rfl rfl ya zcG yj) ?_;refine X0 (zf rfl rfl ty_5) ?_;refine X0 (zsL rfl (zrt) (us_5) rfl) ?_;refine X0 (zqL rfl rfl rfl ym rfl) ?_;refine X0 mV ?_;refine X0 mV ?_;refine X0 zoA ?_;refine X0 zdl ?_;refine X0 (zV (i:=4*k+1) rfl rfl rfl ya zcG yj) ?_;refine X0 (zf rfl rfl ty_5) ?_;refine X0 (zsL rfl (zrt) (us_5) rfl) ?_;refine X0 (zqL rfl rfl rfl ym rfl) ?_;refine X0 (zvF rfl rfl rfl) ?_;refine X0 mV ?_;refine X0 mV ?_;refine X0 zoA ?_;refine X0 zdl ?_;refine X0 (zV (i:=4*k+2) rfl rfl rfl ya zcG yj) ?_;refine X0 (zf rfl rfl ty_5) ?_;refine X0 (zsL rfl (zrt) (us_5) rfl) ?_;refine X0 (zqL rfl rfl rfl ym rfl) ?_;refine X0 (zvF rfl rfl rfl) ?_;refine X0 mV ?_;refine X0 mV ?_;refine X0 zoA ?_;refine X0 zdl ?_;refine X0 (zV (i:=4*k+3) rfl rfl rfl ya zcG yj) ?_;refine X0 (zf rfl rfl ty_5) ?_;refine X0 (zsL rfl (zrt) (us_5) rfl) ?_;refine X0 (zvF rfl rfl rfl) ?_;refine X0 (zD (i:=k) rfl rfl rfl yp zkp ya) ?_;refine XK.e (x:=.idk) (fun fr' hfr kk H=>by exact zg rfl rfl rfl ((hfr 56 yc).trans rfl) rfl (Lens.elem (i:=k) ya u32T) zcd ((hfr 55 yc).trans rfl) (zt H)) ?_;refine XK.nil' ?_;refine CE ?_;refine CR ?_;refine qan ?_;refine zF (n:=1) rfl (sched_lo ht21 hx0 hx1 hx2 hx3) ?_;exact Nx (k+1) ya ya
  refine CS ?_;refine qb0 ?_;refine G0 mV ?_;refine G0 zbT ?_;refine G0 (zD (i:=k-15) rfl rfl rfl yp zkp ya) ?_;refine G0 (zr rfl rfl rfl (Lens.elem (i:=k-15) ya u32T) zcd) ?_;refine G0 mV ?_;refine G0 zbT ?_;refine G0 (zD (i:=k-2) rfl rfl rfl yp zkp ya) ?_;refine G0 (zr rfl rfl rfl (Lens.elem (i:=k-2) ya u32T) zcd) ?_;refine G0 aV ?_;refine qbs ?_;refine zA [some 1,some 1,some 1,some 1,some 1,some 1,some 1,some 1,some 1,some 1,some 1,some 1,some 1,some 1,some 1,some 1,some 1,some 1,some 1,some 1,some 1,some 1,some 1,some 1,some 1,some 1,some 1,some 1,some 1,none] mixed yc ?_;refine X0 mV ?_;refine X0 mV ?_;refine X0 zbT ?_;refine X0 (zD (i:=k-16) rfl rfl rfl yp zkp ya) ?_;refine X0 (zr rfl rfl rfl (Lens.elem (i:=k-16) ya u32T) zcd) ?_;refine X0 mV ?_;refine X0 zbT ?_;refine X0 (zD (i:=k-7) rfl rfl rfl yp zkp ya) ?_;refine X0 (zr rfl rfl rfl (Lens.elem (i:=k-7) ya u32T) zcd) ?_;refine X0 (zfD rfl rfl rfl) ?_;refine qc5 ?_;refine qc5 ?_;refine X0 (zfB rfl rfl rfl) ?_;refine X0 mV ?_;refine X0 (znu rfl rfl rfl ym rfl) ?_;refine X0 (zfB rfl rfl rfl) ?_;refine X0 (zfD rfl rfl rfl) ?_;refine qc5 ?_;refine qc5 ?_;refine X0 (zfB rfl rfl rfl) ?_;refine X0 mV ?_;refine X0 (znu rfl rfl rfl ym rfl) ?_;refine X0 (zfB rfl rfl rfl) ?_;refine X0 (zfD rfl rfl rfl) ?_;refine X0 (zD (i:=k) rfl rfl rfl yp zkp ya) ?_;refine XK.e (x:=.idk) (fun fr' hfr kk H=>by exact zg rfl rfl rfl ((hfr 93 yc).trans rfl) rfl (Lens.elem (i:=k) ya u32T) zcd ((hfr 92 yc).trans rfl) (zt H)) ?_;refine qbj ?_;refine zF (n:=1) rfl (sched_hi ht21) ?_;exact Nx (k+1) ya ya
 obtain rfl:k=64:=ya;refine CE ?_;refine CQR ?_;refine A0 (oCl (numbers_ok) rfl fn_149 trivial) ?_;refine zq zuH rfl rfl rfl rfl ?_;refine zg rfl rfl rfl rfl rfl (Lens.self _) ty_233 rfl ?_;refine CNQR ?_;refine A0 mP ?_;refine qco ?_;refine A0 (oLs rfl rfl rfl zuN) ?_;refine zq ze_144 rfl rfl rfl rfl ?_;refine zg rfl rfl rfl rfl rfl (Lens.self _) zuN rfl ?_;refine CNQQR ?_;refine qaH ?_;refine Lp (ι:=Nat) 4 (fun k=>((((Fr.none.set 0 (.ptr 0 0)).set 4 (.ptr 1 0)).set 8 (.ptr 2 0)).set 9 (.ptr 3 0)).set 99 (.val i64T (k:Int))) (fun k=>(((Hp.none.set 0 (.box 144 (arrT 8 yr u32T) s)).set 1 (.box 233 (arrT 64 yr u32T) (zd8 b 64))).set 2 (.box 233 (arrT 64 yr u32T) shaK)).set 3 (.box 144 (arrT 8 yr u32T) (zlk (zd8 b 64) s k))) (fun k=>k≤64) (fun k=>64-k) (0) (uf _) ?_;intro k hinv;refine qar ?_;refine Cf (p:=k<64) (fun ht100=>?_) (fun ht100=>?_)
 ·
  refine qaR ?_;refine qcv ?_;refine G0 (zD (i:=0) rfl rfl rfl yp zdU ya) ?_;refine G0 (zr rfl rfl rfl (Lens.elem (i:=0) ya u32T) zcd) ?_;refine G0 (zD (i:=4) rfl rfl rfl yp zdU ya) ?_;refine G0 (zr rfl rfl rfl (Lens.elem (i:=4) ya u32T) zcd) ?_;refine G0 aV ?_;refine qbs ?_;refine qb0 ?_;refine G0 (zD (i:=7) rfl rfl rfl yp zdU ya) ?_;refine G0 (zr rfl rfl rfl (Lens.elem (i:=7) ya u32T) zcd) ?_;refine qbD ?_;refine qbD ?_;refine G0 (zfB rfl rfl rfl) ?_;refine qbD ?_;refine G0 (zfB rfl rfl rfl) ?_;refine G0 (zfD rfl rfl rfl) ?_;refine G0 mV ?_;refine G0 (zD (i:=5) rfl rfl rfl yp zdU ya) ?_;refine G0 (zr rfl rfl rfl (Lens.elem (i:=5) ya u32T) zcd) ?_;refine G0 (zk1 rfl rfl rfl) ?_;refine G0 mV ?_;refine G0 (g_not32 rfl rfl) ?_;refine G0 (zD (i:=6) rfl rfl rfl yp zdU ya) ?_;refine G0 (zr rfl rfl rfl (Lens.elem (i:=6) ya u32T) zcd) ?_;refine G0 (zk1 rfl rfl rfl) ?_;refine G0 (zfB rfl rfl rfl) ?_;refine G0 (zfD rfl rfl rfl) ?_;refine G0 mV ?_;refine G0 (zD (i:=k) rfl rfl rfl yp zkp ya) ?_;refine G0 (zr rfl rfl rfl (Lens.elem (i:=k) ya u32T) zcd) ?_;refine G0 (zfD rfl rfl rfl) ?_;refine G0 mV ?_;refine G0 (zD (i:=k) rfl rfl rfl yp zkp ya) ?_;refine G0 (zr rfl rfl rfl (Lens.elem (i:=k) ya u32T) zcd) ?_;refine G0 (zfD rfl rfl rfl) ?_;refine qbs ?_;refine qb0 ?_;refine qbD ?_;refine qbD ?_;refine G0 (zfB rfl rfl rfl) ?_;refine qbD ?_;refine G0 (zfB rfl rfl rfl) ?_;refine G0 mV ?_;refine G0 (zD (i:=1) rfl rfl rfl yp zdU ya) ?_;refine G0 (zr rfl rfl rfl (Lens.elem (i:=1) ya u32T) zcd) ?_;refine G0 (zk1 rfl rfl rfl) ?_;refine G0 mV ?_;refine G0 (zD (i:=2) rfl rfl rfl yp zdU ya) ?_;refine G0 (zr rfl rfl rfl (Lens.elem (i:=2) ya u32T) zcd) ?_;refine G0 (zk1 rfl rfl rfl) ?_;refine G0 (zfB rfl rfl rfl) ?_;refine G0 (zD (i:=1) rfl rfl rfl yp zdU ya) ?_;refine G0 (zr rfl rfl rfl (Lens.elem (i:=1) ya u32T) zcd) ?_;refine G0 (zD (i:=2) rfl rfl rfl yp zdU ya) ?_;refine G0 (zr rfl rfl rfl (Lens.elem (i:=2) ya u32T) zcd) ?_;refine G0 (zk1 rfl rfl rfl) ?_;refine G0 (zfB rfl rfl rfl) ?_;refine G0 (zfD rfl rfl rfl) ?_;refine qbs ?_;refine CR ?_;refine qav ?_;refine A0 (zfD rfl rfl rfl) ?_;refine qa7 ?_;refine A0 (zD (i:=1) rfl rfl rfl yp zdU ya) ?_;refine A0 (zr rfl rfl rfl (Lens.elem (i:=1) ya u32T) zcd) ?_;refine A0 (zD (i:=2) rfl rfl rfl yp zdU ya) ?_;refine A0 (zr rfl rfl rfl (Lens.elem (i:=2) ya u32T) zcd) ?_;refine A0 (zD (i:=3) rfl rfl rfl yp zdU ya) ?_;refine A0 (zr rfl rfl rfl (Lens.elem (i:=3) ya u32T) zcd) ?_;refine qa7 ?_;refine A0 (zfD rfl rfl rfl) ?_;refine qa7 ?_;refine A0 (zD (i:=5) rfl rfl rfl yp zdU ya) ?_;refine A0 (zr rfl rfl rfl (Lens.elem (i:=5) ya u32T) zcd) ?_;refine A0 (zD (i:=6) rfl rfl rfl yp zdU ya) ?_;refine A0 (zr rfl rfl rfl (Lens.elem (i:=6) ya u32T) zcd) ?_;refine A0 (zil (T:=u32T) (xs:=[_,_,_,_,_,_,_,_]) rfl zdU ze_144 yaG rfl) ?_;refine zg rfl rfl rfl rfl rfl (Lens.self _) zuN rfl ?_;refine qbt ?_;refine zF (n:=3) rfl zo3 ?_;exact Nx (k+1) ya ya
 obtain rfl:k=64:=ya;refine CE ?_;refine CQR ?_;refine A0 (oLs rfl rfl rfl zuN) ?_;refine qaH ?_;refine Lp (ι:=Nat) 1 (fun (k:Nat)=>(((Fr.none).set 0 (.ptr 0 0)).set 179 (.val (arrT 8 yr u32T) (zlk (zd8 b 64) s 64))).set 180 (.val i64T (k:Int))) (fun (k:Nat)=>(Hp.none).set 0 (.box 144 (arrT 8 yr u32T) (sumN (zlk (zd8 b 64) s 64) s k))) (fun (k:Nat)=>k≤8) (fun (k:Nat)=>8-k) (0) (uf _) ?_;intro k hinv;refine qar ?_;refine Cf (p:=k<8) (fun ht181=>?_) (fun ht181=>?_)
 ·
  obtain⟨x,hx⟩:∃x,(zlk (zd8 b 64) s 64)[k]?=some x:=⟨_,ub (by rw[roundN_len hs];exact ht181)⟩;refine qaR ?_;refine A0 (zhU rfl rfl rfl rfl zdU zcd yj) ?_;refine qck ?_;refine xj ?_;refine X0 mP ?_;refine X0 mV ?_;refine xk ?_;refine X0 (zD (i:=k) rfl rfl rfl yp zdU ya) ?_;refine X0 (zr rfl rfl rfl (Lens.elem (i:=k) ya u32T) zcd) ?_;refine X0 mV ?_;refine X0 (zfD rfl rfl rfl) ?_;refine xk ?_;refine X0 (zD (i:=k) rfl rfl rfl yp zdU ya) ?_;refine XK.e (x:=.idk) (fun fr' hfr kk H=>by exact zg rfl rfl rfl ((hfr 192 yc).trans rfl) rfl (Lens.elem (i:=k) ya u32T) zcd ((hfr 190 yc).trans rfl) (zt H)) ?_;refine qbj ?_;refine zF (n:=0) rfl (sum_succ hx) ?_;exact Nx (k+1) ya ya
 obtain rfl:k=8:=ya;refine CE ?_;exact ztg rfl rfl rfl rfl rfl (zb6 rfl rfl)
theorem padOf_len (b:List UInt8):(zeY b).length=64*((b.length+padZ b.length+9)/64):=by
  have h:(zeY b).length=b.length+padZ b.length+9:=by
    unfold zeY;rw[ue,zjQ];unfold zz;simp;omega
  rw[h];unfold padZ;omega
def shaH:List UInt32:=[1779033703,3144134277,1013904242,2773480762,1359893119,2600822924,528734635,1541459225]
def shaN (p:List UInt8) (n:Nat):List UInt32:=(List.range n).foldl (fun s i=>addOf s ((p.take (64*i+64)).drop (64*i))) shaH
def zuR (b:List UInt8):List UInt32:=shaN (zeY b) ((zeY b).length/64)
def zmM (v:List UInt32) (i:Nat):UInt8:=zch (IntL.toI u32T (zor (v.getD (i/4) default) (24-8*(i%4))))
def zgo (b:List UInt8):Ab.Id:=(List.range 32).map (zmM (zuR b))
def zmL (v:List UInt32) (k:Nat):Ab.Id:=(List.range k).foldl (fun l i=>l.set i (zmM v i)) zId
theorem zhV {α:Type} (f:Nat→α) (l:List α):∀k j,((List.range k).foldl (fun l i=>l.set i (f i)) l)[j]?=if j<k∧j<l.length then some (f j) else l[j]?
  | 0,j=>by simp
  | k+1,j=>by
    rw[List.range_succ,List.foldl_append];show(List.set _ k (f k))[j]?=_;have hl:∀k,((List.range k).foldl (fun l i=>l.set i (f i)) l).length=l.length:=fun k=>by
      induction k with
      | zero=>rfl
      | succ k ih=>rw[List.range_succ,List.foldl_append];simp only[List.foldl_cons,List.foldl_nil,List.length_set];exact ih
    rw[List.getElem?_set,zhV f l k j,hl];by_cases c:k=j
    · subst c
      by_cases d:k<l.length
      · simp[d]
      simp[d]
    rw[ur c];by_cases d:j<k
    · have:j<k+1:=by omega
      simp[d,this]
    have:¬j<k+1:=ya
    simp[d,this]
theorem shaOut_all (v:List UInt32):zmL v 32=(List.range 32).map (zmM v):=by
  apply List.ext_getElem?;intro j;unfold zmL;rw[zhV,List.getElem?_map];have hz:zId.length=32:=rfl;rw[hz];by_cases c:j<32
  · rw[ut ⟨c,c⟩,List.getElem?_range c];rfl
  rw[ur (fun h=>c h.1),List.getElem?_eq_none (by first|(rw[hz];omega)|(rw[List.length_range];omega)),List.getElem?_eq_none (by first|(rw[hz];omega)|(rw[List.length_range];omega))];rfl
theorem ztI {v:List UInt32} {k:Nat} {x:UInt8} (h:x=zmM v k):(zmL v k).set k x=zmL v (k+1):=by
  subst h;unfold zmL;rw[List.range_succ,List.foldl_append];rfl
theorem zrM {p:List UInt8} {k:Nat}:addOf (shaN p k) ((p.take (64*k+64)).drop (64*k))=shaN p (k+1):=by
  unfold shaN;rw[List.range_succ,List.foldl_append];rfl
theorem zuP {v s:List UInt32}:∀k,(sumN v s k).length=s.length
  | 0=>rfl
  | k+1=>by
    unfold sumN;rw[List.range_succ,List.foldl_append];simp only[List.foldl_cons,List.foldl_nil,List.length_set];exact zuP k
theorem zuS (p:List UInt8):∀k,(shaN p k).length=8
  | 0=>rfl
  | k+1=>by rw[←zrM];unfold addOf;rw[zuP];exact zuS p k
theorem zuO (b:List UInt8) (hb:b.length≤70368744177664):Tells P 25 [.val (sl u8T) b] (.val idT (zgo b)):=by
 obtain⟨m,hm⟩:∃m,m=(b.length+padZ b.length+9)/64:=⟨_,rfl⟩;have hz2:padZ b.length<64:=by unfold padZ;omega
 have hpl:(zeY b).length=64*m:=by rw[padOf_len,hm]
 have hmb:m≤2000000000000:=ya;refine zd Tryz.func25 rfl rfl rfl (fun ext w hext=>?_);refine ze (d:=0) rfl zm (fun hsl0=>?_);refine qcz ?_;refine A0 (zil (T:=u32T) (xs:=[_,_,_,_,_,_,_,_]) rfl zdU ze_144 yaG rfl) ?_;refine xb ?_;refine ziD zp_142 rfl rfl rfl rfl rfl rfl ?_;refine zap rfl rfl rfl rfl rfl rfl rfl rfl rfl rfl zry ?_;refine qbx ?_;refine A0 (oCl (zB (pad_ok b hb)) rfl fn_76 yd) ?_;refine zR rfl rfl rfl rfl Tryz.func75 fn_75 rfl rfl (fun ia2 iok2=>?_);refine qaA ?_;refine A0 aL ?_;refine CNQQR ?_;refine A0 (oLs rfl rfl rfl ty_3) ?_;refine qbr ?_;refine zae rfl yr ?_;refine CSQR ?_;refine A0 (zj6 (caps:=[_,_]) rfl rfl) ?_;refine A0 aC ?_;refine CN ?_;refine zcw rfl ?_;refine CNB ?_;refine ziA rfl rfl rfl Tryz.func147 fn_147 rfl rfl yab (fun fid3 ca3 lN3 DN3 cok3 rc3 hrc3=>?_);refine CQR ?_;refine qcq ?_;refine Lp (ι:=Nat) 7 (fun (k:Nat)=>((((Fr.none).set 0 (.lit (.func (.yield lN3) #[] #[]))).set 1 (.ptr 3 0)).set 2 (.ptr 4 0)).set 4 (.val i64T ((64*k:Nat):Int))) (fun (k:Nat)=>(((((((Hp.none).set 0 (.box 49 idT zId)).set 1 (.box 144 (arrT 8 yr u32T) (shaN (zeY b) k))).set 2 (.parts 142 [.ptr 1 0])).set 3 (.box 22 (sl u8T) (zeY b))).set 4 (.box 3 i64T 64)).set 5 (.objAt DN3 (.deferred (some [])))).set 6 (.objAt lN3 (rc3 .ready none))) (fun (k:Nat)=>k≤m) (fun (k:Nat)=>m-k) (0) (uf _) ?_;intro k hinv;refine qbQ ?_;refine xl ?_;refine xi ?_;refine qbr ?_;refine Cf (p:=64*k<(zeY b).length) (fun ht9=>?_) (fun ht9=>?_)
 ·
  refine qcH ?_;refine CB ?_;refine qb0 ?_;refine G0 (oLs rfl rfl rfl ty_3) ?_;refine G0 (oLs rfl rfl rfl zcx) ?_;refine G0 mV ?_;refine G0 (zhh rfl rfl rfl zcG yg) ?_;refine G0 (zN rfl rfl zcN) ?_;refine G0 (g_min rfl rfl rfl) ?_;refine qbs ?_;refine zi (d:=5) (y:=(64:Int)) rfl yK ?_;refine CQR ?_;refine A0 mL ?_;refine xl ?_;refine qav ?_;refine qb2 ?_;refine qav ?_;refine A0 zdl ?_;refine A0 (zvE rfl rfl rfl rfl rfl zcG yK) ?_;refine zi (d:=28) (y:=((zeY b).take (64*k+64)).drop (64*k)) rfl (by congr 1) ?_;refine ziz (nL:=6) rfl rfl rfl rfl rfl hrc3 rfl rfl rfl (fun ya4 yok4=>?_);refine CR ?_;refine qae ?_;refine ziC (nL:=6) hrc3 rfl ?_;refine CB ?_;refine CR ?_;refine A0 ybI ?_;refine qa7 ?_;refine ziB (add_ok (shaN (zeY b) k) (((zeY b).take (64*k+64)).drop (64*k)) (by rw[List.length_drop,um];omega) (zuS _ k)) rfl fn_77 rfl trivial trivial rfl ybP rfl rfl rfl ?_;refine CN ?_;refine CI ?_;refine zdS (nL:=6) hrc3 rfl ?_;refine qb3 ?_;refine Cg ?_;refine CSIR ?_;refine qa7 ?_;refine A0 (oLs rfl rfl rfl ty_3) ?_;refine A0 zdl ?_;refine qae ?_;refine zi (d:=4) (y:=((64*(k+1):Nat):Int)) rfl ya ?_;refine zF (n:=1) (y:=shaN (zeY b) (k+1)) rfl zrM ?_;exact Nx (k+1) ya ya
 obtain rfl:m=k:=ya;refine CE ?_;refine zeQ (nL:=6) rfl hrc3 rfl yr ?_;refine CI ?_;refine CQR ?_;refine qaX ?_;refine CNQQR ?_;refine qaH ?_;refine Lp (ι:=Nat) 8 (fun (j:Nat)=>((((Fr.none).set 2 (.ptr 0 0)).set 3 (.ptr 2 0)).set 5 (.ptr 7 0)).set 16 (.val i64T (j:Int))) (fun (j:Nat)=>(((((Hp.none).set 0 (.box 49 idT zId)).set 1 (.box 144 (arrT 8 yr u32T) (shaN (zeY b) m))).set 2 (.parts 142 [.ptr 1 0])).set 5 (.objAt DN3 (.deferred (some [])))).set 7 (.box 49 idT (zmL (shaN (zeY b) m) j))) (fun (j:Nat)=>j≤32) (fun (j:Nat)=>32-j) (0) (uf _) ?_;intro j hinv;refine qar ?_;refine Cf (p:=j<32) (fun ht17=>?_) (fun ht17=>?_)
 ·
  refine qaR ?_;refine qc3 ?_;refine qa7 ?_;refine A0 ybI ?_;refine qa7 ?_;refine qci ?_;refine qco ?_;refine A0 (zD (i:=j/4) rfl rfl rfl yp zdU ya) ?_;refine A0 (zr rfl rfl rfl (Lens.elem (i:=j/4) ya u32T) zcd) ?_;refine qa7 ?_;refine qbK ?_;refine A0 zoA ?_;refine A0 zbT ?_;refine A0 (znu rfl rfl rfl ym rfl) ?_;refine A0 (zny rfl (ui_5) (us_53) rfl) ?_;refine A0 (zD (i:=j) rfl rfl rfl yp ziK ya) ?_;refine zg rfl rfl rfl rfl rfl (Lens.elem (i:=j) ya u8T) ty_5 rfl ?_;refine qbt ?_;refine zF (n:=7) (y:=zmL (shaN (zeY b) m) (j+1)) rfl (ztI (by unfold zmM;congr 3;simp only[IntL.toI,id_eq];omega)) ?_;exact Nx (j+1) ya ya
 obtain rfl:j=32:=ya;refine CE ?_;refine CQR ?_;refine qbG ?_;refine qa5 ?_;refine CN ?_;refine zay (zcn (nD:=5) rfl rfl rfl ?_);exact zrb rfl rfl rfl rfl z6 (by rw[shaOut_all];unfold zgo zuR;rw[hpl,Nat.mul_div_cancel_left m yr])
def idOf (t:Tx):Ab.Id:=if zeg t=true then zgo ([6]++putTx t) else zId
theorem zkG {α:Type} {T:GoT α} {U N:Nat→Prop} {w:World}:∀{l:List α} {cs:List Value},zad T U N w l cs→∀x∈l,∃c,T.rel U N w x c
  | [],_,_,x,hx=>by cases hx
  | y::l,_,⟨c1,c2,_,h1,h2⟩,x,hx=>by
    rcases List.mem_cons.1 hx with e|e
    · exact⟨c1,e▸h1⟩
    exact zkG h2 x e
theorem fact_tx {t:Tx} {ρ:Nat→Value} {B:Nat→Prop} {U N:Nat→Prop} {w:World} {v:Value} (h:(AV.val txT t).rel ρ B U N w v):∀x∈t.ins,x.tx.length=32:=fun x hx=>by
  obtain⟨cs,⟨c1,c2,_,⟨ad,cap,_,_,_,h3⟩,_⟩,_⟩:=h;obtain⟨_,ds,_,_,hr,_⟩:=h3 (List.ne_nil_of_mem hx);obtain⟨c,hc⟩:=zkG hr x hx;exact fact_in hc
theorem zg0 {α β:Type} {f:α→List β} {n:Nat}:∀{l:List α},(∀x∈l,(f x).length=n)→(l.map f).flatten.length=l.length*n
  | [],_=>by simp
  | x::l,h=>by
    rw[List.map_cons,List.flatten_cons,ue,h x yA,zg0 (fun y hy=>h y ybl),List.length_cons,Nat.add_mul];omega
theorem putTx_len {t:Tx} (h:zeg t=true) (h32:∀x∈t.ins,x.tx.length=32):(putTx t).length≤200:=by
  obtain⟨h1,_,h2⟩:=zfp h;unfold putTx zf8 zln;have e1:=zg0 (f:=putIn) (n:=33) (l:=t.ins.take t.ins.length) (fun x hx=>by
    rw[List.take_length] at hx;unfold putIn;rw[ue,h32 x hx];rfl)
  have e2:=zg0 (f:=zu5) (n:=7) (l:=t.outs.take t.outs.length) (fun x hx=>by
    unfold zu5;rw[ue,zS];rfl)
  rw[List.take_length] at e1 e2;simp only[ue,List.length_cons,List.length_nil,List.take_length,e1,e2];omega
theorem of_ok (ls:List (List UInt8)) (hl:ls.flatten.length≤70368744177664):Tells P 70 [.val (bsl (bsl u8T)) ls] (.val idT (zgo ls.flatten)):=by
 refine zd Tryz.func70 rfl rfl rfl (fun ext w hext=>?_);refine ze (d:=0) rfl zm (fun hsl0=>?_);refine qcz ?_;refine qa7 ?_;refine A0 (oCl (zB (zgB ls ya)) rfl zpp yd) ?_;refine A0 (oCl (zuO ls.flatten hl) rfl fn_25 yd) ?_;refine qa5 ?_;refine CN ?_;exact z7 rfl rfl rfl rfl z6 (rfl)
theorem id_ok (t:Tx):Tells P 44 [.val txT t] (.val idT (idOf t)):=by
 refine zd Tryz.func44 rfl rfl rfl (fun ext w hext=>?_);refine ze (d:=0) rfl fact_tx (fun h32=>?_);refine qah ?_;refine qaX ?_;refine CNQR ?_;refine qcG ?_;refine A0 (oCl (zee (put_ok t)) rfl fn_100 yd) ?_;refine qaN ?_;refine A0 aV ?_;refine qap ?_;refine qb3 ?_;refine zn (p:=¬zeg t=true) rfl yA (fun ht11=>?_) (fun ht11=>?_)
 ·
  refine CQR ?_;refine A0 (zgZ rfl ziK ze_49 rfl) ?_;refine qa5 ?_;refine CN ?_;exact z7 rfl rfl rfl rfl z6 (by unfold idOf;rw[ur ht11])
 refine zi (d:=3) rfl (ut (ua ht11)) ?_;refine CSQR ?_;refine qb7 ?_;refine qa7 ?_;refine A0 (zL (T:=(sl u8T)) (xs:=[_,_]) rfl zdL zdj yao rfl rfl) ?_;refine A0 (oCl (of_ok [[6],putTx t] (by have:=putTx_len (ua ht11) h32;simp;omega)) rfl fn_70 yd) ?_;refine qa5 ?_;refine CN ?_;exact z7 rfl rfl rfl rfl z6 (by unfold idOf;rw[ut (ua ht11)];simp)
theorem zn2:∀{a b:List UInt8},Lib.compareBytes a b=0↔a=b
  | [],[]=>by simp[Lib.compareBytes]
  | [],_::_=>by simp[Lib.compareBytes]
  | _::_,[]=>by simp[Lib.compareBytes]
  | x::a,y::b=>by
    unfold Lib.compareBytes;by_cases h1:x<y
    · rw[ut h1]
      constructor
      · intro h;omega
      intro h;injection h with h _;subst h;exact absurd h1 (UInt8.lt_irrefl _)
    rw[ur h1];by_cases h2:y<x
    · rw[ut h2]
      constructor
      · intro h;omega
      intro h;injection h with h _;subst h;exact absurd h2 (UInt8.lt_irrefl _)
    rw[ur h2];have e:x=y:=UInt8.le_antisymm (UInt8.not_lt.1 h2) (UInt8.not_lt.1 h1);subst e;rw[zn2 (a:=a) (b:=b)];simp
theorem cb_neg:∀{a b:List UInt8},Lib.compareBytes b a = -Lib.compareBytes a b
  | [],[]=>by simp[Lib.compareBytes]
  | [],_::_=>by simp[Lib.compareBytes]
  | _::_,[]=>by simp[Lib.compareBytes]
  | x::a,y::b=>by
    unfold Lib.compareBytes;by_cases h1:x<y
    · have h2:¬y<x:=fun h=>UInt8.lt_irrefl _ (UInt8.lt_trans h1 h)
      simp[h1,h2]
    by_cases h2:y<x
    · simp[h1,h2]
    simp only[ur h1,ur h2];exact cb_neg
theorem zwd:∀{a b c:List UInt8},Lib.compareBytes a b<0→Lib.compareBytes b c<0→Lib.compareBytes a c<0
  | [],[],_,h,_=>by simp[Lib.compareBytes] at h
  | _::_,[],_,h,_=>by simp[Lib.compareBytes] at h
  | _,_::_,[],_,h=>by simp[Lib.compareBytes] at h
  | [],_::_,_::_,_,_=>by simp[Lib.compareBytes]
  | x::a,y::b,z::c,h,k=>by
    unfold Lib.compareBytes at h k ⊢;by_cases h1:x<y
    · by_cases k1:y<z
      · rw[ut (UInt8.lt_trans h1 k1)];omega
      rw[ur k1] at k;by_cases k2:z<y
      · rw[ut k2] at k;omega
      have e:y=z:=UInt8.le_antisymm (UInt8.not_lt.1 k2) (UInt8.not_lt.1 k1);subst e;rw[ut h1];omega
    rw[ur h1] at h;by_cases h2:y<x
    · rw[ut h2] at h;omega
    rw[ur h2] at h;have e:x=y:=UInt8.le_antisymm (UInt8.not_lt.1 h2) (UInt8.not_lt.1 h1);subst e;by_cases k1:x<z
    · rw[ut k1];omega
    rw[ur k1] at k ⊢;by_cases k2:z<x
    · rw[ut k2] at k;omega
    rw[ur k2] at k ⊢;exact zwd h k
theorem zl9 (a b:In):zbd a b=if Lib.compareBytes a.tx b.tx=0 then ziY a.i b.i else Lib.compareBytes a.tx b.tx:=by
  unfold zbd;simp only[orL];by_cases h:Lib.compareBytes a.tx b.tx=0
  · rw[ut h,ut h]
    split<;>simp_all
  rw[ur h,ur h]
theorem zuj {x y:Int}:ziY x y=0↔x=y:=by unfold ziY;split<;>(try split)<;>omega
theorem zda {a b:In}:zbd a b=0↔a=b:=by
  rw[zl9];by_cases h:Lib.compareBytes a.tx b.tx=0
  · rw[ut h,zuj]
    have:=zn2.1 h
    cases a;cases b;simp_all
  rw[ur h]
  constructor
  · intro e;exact absurd e h
  intro e;subst e;exact absurd (zn2.2 rfl) h
theorem zdo (a b:In):zbd b a = -zbd a b:=by
  rw[zl9,zl9,cb_neg (a:=a.tx) (b:=b.tx)];by_cases h:Lib.compareBytes a.tx b.tx=0
  · rw[ut h,ut ya]
    unfold ziY;split<;>split<;>(try split)<;>omega
  rw[ur h,ur ya]
theorem zfz {a b c:In} (h:zbd a b<0) (k:zbd b c<0):zbd a c<0:=by
  rw[zl9] at h k ⊢;by_cases h1:Lib.compareBytes a.tx b.tx=0
  · rw[ut h1] at h
    have e:=zn2.1 h1;rw[e];by_cases k1:Lib.compareBytes b.tx c.tx=0
    · rw[ut k1] at k ⊢
      unfold ziY at *;split at h<;>split at k<;>(try split at h)<;>(try split at k)<;>split<;>(try split)<;>omega
    rw[ur k1] at k ⊢;exact k
  rw[ur h1] at h;by_cases k1:Lib.compareBytes b.tx c.tx=0
  · have e:=zn2.1 k1
    rw[←e,ur h1];exact h
  rw[ur k1] at k
  have:=zwd h k
  rw[ur ya];exact this
def sortL_ren:Go.Shelf.Ren:=⟨fun|6=>288|15=>169|14=>334|28=>223|29=>224|20=>363|21=>364|22=>365|23=>366|24=>367|25=>368|26=>369|27=>370|46=>381|47=>355|48=>356|49=>382|50=>383|57=>387|n=>n,fun|22=>61|24=>293|25=>373|3=>3|39=>234|0=>0|53=>53|55=>50|4=>4|46=>384|45=>383|50=>167|5=>5|9=>9|66=>403|70=>407|76=>418|77=>126|n=>n,fun|n=>n⟩
theorem sortL:Go.Proofs.SlLaysF0.n6 P sortL_ren:={
  mixed:=by kernel_rfl,
  f6:=⟨Tryz.f288.name,by decide,Tryz.func288.trans (congrArg some yo)⟩,
  f14:=⟨Tryz.f334.name,by decide,Tryz.func334.trans (congrArg some yo)⟩,
  f15:=Tryz.func169.trans (congrArg some yo),
  f20:=⟨Tryz.f363.name,by decide,Tryz.func363.trans (congrArg some yo)⟩,
  f21:=⟨Tryz.f364.name,by decide,Tryz.func364.trans (congrArg some yo)⟩,
  f22:=⟨Tryz.f365.name,by decide,Tryz.func365.trans (congrArg some yo)⟩,
  f23:=⟨Tryz.f366.name,by decide,Tryz.func366.trans (congrArg some yo)⟩,
  f24:=⟨Tryz.f367.name,by decide,Tryz.func367.trans (congrArg some yo)⟩,
  f25:=⟨Tryz.f368.name,by decide,Tryz.func368.trans (congrArg some yo)⟩,
  f26:=⟨Tryz.f369.name,by decide,Tryz.func369.trans (congrArg some yo)⟩,
  f27:=⟨Tryz.f370.name,by decide,Tryz.func370.trans (congrArg some yo)⟩,
  f28:=Tryz.func223.trans (congrArg some yo),
  f29:=Tryz.func224.trans (congrArg some yo),
  f46:=⟨Tryz.f381.name,by decide,Tryz.func381.trans (congrArg some yo)⟩,
  f47:=Tryz.func355.trans (congrArg some yo),
  f48:=Tryz.func356.trans (congrArg some yo),
  f49:=⟨Tryz.f382.name,by decide,Tryz.func382.trans (congrArg some yo)⟩,
  f50:=⟨Tryz.f383.name,by decide,Tryz.func383.trans (congrArg some yo)⟩,
  f57:=⟨Tryz.f387.name,by decide,Tryz.func387.trans (congrArg some yo)⟩,
  t0:=Tryz.underlying0,
  a0:=Tryz.isAgg0,
  z0:=Tryz.sizeOf0,
  v0:=Tryz.zeroValue0,
  t3:=Tryz.underlying3,
  a3:=Tryz.isAgg3,
  z3:=Tryz.sizeOf3,
  v3:=Tryz.zeroValue3,
  t4:=Tryz.underlying4,
  a4:=Tryz.isAgg4,
  z4:=Tryz.sizeOf4,
  v4:=Tryz.zeroValue4,
  t5:=Tryz.underlying5,
  a5:=Tryz.isAgg5,
  z5:=Tryz.sizeOf5,
  v5:=Tryz.zeroValue5,
  t9:=Tryz.underlying9,
  a9:=Tryz.isAgg9,
  z9:=Tryz.sizeOf9,
  v9:=Tryz.zeroValue9,
  t22:=Tryz.underlying61,
  a22:=Tryz.isAgg61,
  z22:=Tryz.sizeOf61,
  v22:=Tryz.zeroValue61,
  t25:=Tryz.underlying373,
  a25:=Tryz.isAgg373,
  z25:=Tryz.sizeOf373,
  v25:=Tryz.zeroValue373,
  t39:=Tryz.underlying234,
  a39:=Tryz.isAgg234,
  z39:=Tryz.sizeOf234,
  v39:=Tryz.zeroValue234,
  t45:=Tryz.underlying383,
  a45:=Tryz.isAgg383,
  z45:=Tryz.sizeOf383,
  v45:=Tryz.zeroValue383,
  t46:=Tryz.underlying384,
  a46:=Tryz.isAgg384,
  z46:=Tryz.sizeOf384,
  v46:=Tryz.zeroValue384,
  t50:=Tryz.underlying167,
  a50:=Tryz.isAgg167,
  z50:=Tryz.sizeOf167,
  v50:=Tryz.zeroValue167,
  t53:=Tryz.underlying53,
  a53:=Tryz.isAgg53,
  z53:=Tryz.sizeOf53,
  v53:=Tryz.zeroValue53,
  t55:=Tryz.underlying50,
  a55:=Tryz.isAgg50,
  z55:=Tryz.sizeOf50,
  v55:=Tryz.zeroValue50,
  t66:=Tryz.underlying403,
  a66:=Tryz.isAgg403,
  z66:=Tryz.sizeOf403,
  v66:=Tryz.zeroValue403,
  t70:=Tryz.underlying407,
  a70:=Tryz.isAgg407,
  z70:=Tryz.sizeOf407,
  v70:=Tryz.zeroValue407,
  t76:=Tryz.underlying418,
  a76:=Tryz.isAgg418,
  z76:=Tryz.sizeOf418,
  v76:=Tryz.zeroValue418,
  t77:=Tryz.underlying126,
  a77:=Tryz.isAgg126,
  z77:=Tryz.sizeOf126,
  v77:=Tryz.zeroValue126 }
def Apart (l:List Coin):Prop:=l.Pairwise fun a b=>zbd a.inn b.inn≠0
def zjC (l:List Coin):List Coin:=l.mergeSort fun a b=>decide (zbd a.inn b.inn≤0)
def zsU (l:Ab.Id):List Value:=l.map fun b=>.int .u8 b.toNat
def znJ (c:Coin):List Value:=zsU c.inn.tx++[.int .i64 c.inn.i,.int .i64 c.out.v,.int .i64 c.out.to]
def okCoin (c:Coin):Prop:=c.inn.tx.length=32∧IntKind.InR .i64 c.inn.i∧IntKind.InR .i64 c.out.v∧IntKind.InR .i64 c.out.to
theorem flat_u8:Flat1 u8T (fun b=>[.int .u8 b.toNat]) (fun _=>True):=fun _ _ _ _ _=>Iff.rfl
theorem flat_id:Flat1 idT zsU (fun l=>l.length=32):=fun U N w l cs=>by
  show(l.length=32∧zad u8T U N w l cs)↔_;rw[zg1 flat_u8];have e:(l.map fun b:UInt8=>[Value.int .u8 b.toNat]).flatten=zsU l:=by
    unfold zsU
    induction l with
    | nil=>rfl
    | cons x l ih=>rw[List.map_cons,List.flatten_cons,ih];rfl
  rw[e];exact⟨fun h=>⟨h.2.1,h.1⟩,fun h=>⟨h.2,h.1,fun _ _=>trivial⟩⟩
theorem flat_coin:Flat1 zbg znJ okCoin:=fun U N w c cs=>by
  constructor
  · rintro ⟨c1,c2,rfl,⟨d1,d2,rfl,h1,h2⟩,⟨d3,d4,rfl,h3,h4⟩⟩
    obtain⟨rfl,k1⟩:=(flat_id _ _ _ _ _).1 h1;obtain⟨rfl,k2⟩:=h2;obtain⟨rfl,k3⟩:=h3;obtain⟨rfl,k4⟩:=h4;exact⟨by simp[znJ],k1,k2,k3,k4⟩
  rintro ⟨rfl,k1,k2,k3,k4⟩
  exact⟨zsU c.inn.tx++[.int .i64 c.inn.i],[.int .i64 c.out.v,.int .i64 c.out.to],by simp[znJ],⟨zsU c.inn.tx,[.int .i64 c.inn.i],rfl,(flat_id _ _ _ _ _).2 ⟨rfl,k1⟩,rfl,k2⟩,⟨[.int .i64 c.out.v],[.int .i64 c.out.to],rfl,⟨rfl,k3⟩,rfl,k4⟩⟩
theorem ztF {l r:List Coin} (hl:Apart l) (hp:r.Perm l) (hs:r.Pairwise fun a b=>¬zbd b.inn a.inn<0):r=zjC l:=by
  have hle:∀a b c:Coin,(decide (zbd a.inn b.inn≤0))=true→(decide (zbd b.inn c.inn≤0))=true→(decide (zbd a.inn c.inn≤0))=true:=fun a b c h1 h2=>by
    have h1:=of_decide_eq_true h1;have h2:=of_decide_eq_true h2;apply ui;by_cases e1:zbd a.inn b.inn=0
    · rw[zda.1 e1];exact h2
    by_cases e2:zbd b.inn c.inn=0
    · rw[←zda.1 e2];exact h1
    have:=zfz (show zbd a.inn b.inn<0 by omega) (show zbd b.inn c.inn<0 by omega);omega
  have htot:∀a b:Coin,(decide (zbd a.inn b.inn≤0)||decide (zbd b.inn a.inn≤0))=true:=fun a b=>by
    have:=zdo a.inn b.inn
    rw[Bool.or_eq_true,uj,uj];omega
  have h1:(zjC l).Pairwise fun a b=>(decide (zbd a.inn b.inn≤0))=true:=List.pairwise_mergeSort (fun a b c=>hle a b c) (fun a b=>htot a b) l
  have h2:r.Pairwise fun a b=>(decide (zbd a.inn b.inn≤0))=true:=hs.imp fun {a b} h=>by
    have:=zdo a.inn b.inn
    exact ui ya
  have hperm:r.Perm (zjC l):=hp.trans (List.mergeSort_perm l _).symm;have hap:Apart (zjC l):=(List.mergeSort_perm l _).symm.pairwise hl (fun {a b} h=>by have:=zdo a.inn b.inn;omega);have hinj:∀a∈zjC l,∀b∈zjC l,zbd a.inn b.inn=0→a=b:=by
    intro a ha b hb h0;apply Classical.byContradiction;intro hne;obtain⟨i,hi,rfl⟩:=List.getElem_of_mem ha;obtain⟨j,hj,rfl⟩:=List.getElem_of_mem hb;have hw:=List.pairwise_iff_getElem.1 hap;rcases Nat.lt_trichotomy i j with h|h|h
    · exact hw i j hi hj h h0
    · subst h;exact hne rfl
    have:=zdo (zjC l)[i].inn (zjC l)[j].inn
    exact hw j i hj hi h ya
  refine hperm.eq_of_pairwise (le:=fun a b=>(decide (zbd a.inn b.inn≤0))=true) (fun a b ha hb x y=>?_) h2 h1;have x:=of_decide_eq_true x;have y:=of_decide_eq_true y
  have:=zdo a.inn b.inn
  exact hinj a (hperm.mem_iff.1 ha) b hb ya
theorem sort_ok (l:List Coin) (hl:Apart l) (hn:l.length<1000000):ze7 P 288 (.row 293 zbg l) [.own 0,.clo 289 []] (.lit (.tuple #[])) (.row 293 zbg (zjC l)) :=
  sort_tells sortL flat_coin (fun c h=>by unfold znJ zsU;simp only[ue,List.length_map,h.1,List.length_cons,List.length_nil];rfl) (fun c _ v hv=>by
    unfold znJ zsU at hv;simp only[List.mem_append,List.mem_map,List.mem_cons,List.not_mem_nil,or_false] at hv;rcases hv with ⟨b,_,rfl⟩|rfl|rfl|rfl<;>rfl) rfl (x0:=⟨⟨zId,0⟩,⟨0,0⟩⟩) ⟨rfl,zdf.2 yr,zdf.2 yr,zdf.2 yr⟩ zoR (cf:=fun a b=>zbd a.inn b.inn)
    (fun c _ h=>by have:=zda.2 (rfl:c.inn=c.inn);omega) (fun a b c _ _ _ h1 h2=>zfz h1 h2)
    (fun a b c _ _ _ h1 h2 h3=>by
      have n1:=zdo a.inn b.inn;have n2:=zdo b.inn c.inn;by_cases e1:zbd a.inn b.inn=0
      · rw[zda.1 e1] at h3;exact h2 h3
      by_cases e2:zbd b.inn c.inn=0
      · rw[←zda.1 e2] at h3;exact h1 h3
      have:=zfz (show zbd c.inn b.inn<0 by omega) (show zbd b.inn a.inn<0 by omega)
      have n3:=zdo a.inn c.inn;omega) fn_289 (fun x y=>made2_ok x y) ya (fun r hp hs=>ztF hl hp hs)
def newN (id:Ab.Id) (outs:List Out) (k:Nat):List Coin:=(outs.take k).zipIdx.map fun x=>⟨⟨id,(x.2:Int)⟩,x.1⟩
theorem zqs {id:Ab.Id} {outs:List Out} {k:Nat} (h:k≤outs.length):(newN id outs k).length=k:=by simp[newN];omega
theorem newN_succ {id:Ab.Id} {outs:List Out} {k:Nat} {o:Out} (h:outs[k]?=some o) (p:List Coin):p++newN id outs k++[⟨⟨id,(k:Int)⟩,o⟩]=p++newN id outs (k+1):=by
  have hk:=(ul.1 h).1;unfold newN;rw[un,h,List.zipIdx_append,List.map_append,List.append_assoc];simp;omega
def zb4 (p:List Coin) (t:Tx):List Coin×Int:=if (p.any fun c=>decide (c.inn.tx=idOf t))=true then ([],10) else (zjC (p++newN (idOf t) t.outs t.outs.length),0)
theorem made_ok (p:List Coin) (t:Tx) (hp:p.length≤48) (hto:t.outs.length≤3) (hd:(p.any fun c=>decide (c.inn.tx=idOf t))=false→Apart (p++newN (idOf t) t.outs t.outs.length)):ze7 P 249 (.row 293 zbg p) [.own 0,.val txT t] (.tup2 (.fresh 293 zbg (zb4 p t).1) (.val i64T (zb4 p t).2)) (.none_):=by
 refine zgz trivial Tryz.func249 rfl rfl ⟨Nat.one_pos,⟨trivial,trivial⟩⟩ (fun ext pg w hext hgr=>?_);refine zla (n:=0) rfl (fun hrl=>?_);refine qah ?_;refine A0 aL ?_;refine qaj ?_;refine qcG ?_;refine A0 (oCl (id_ok t) rfl fn_44 yd) ?_;refine qaX ?_;refine qa5 ?_;refine CNQQR ?_;refine A0 mO ?_;refine xd ?_;refine A0 (oCl (zl1 _ _) rfl fn_286 ⟨(zM rfl rfl),(by first|exact zdI (Cs:=[_]) rfl fn_287 yk ybN rfl (fun x=>zvm _ x)|exact zdH (Cs:=[_]) rfl fn_287 yk ybN rfl (fun x y=>zvm _ x)|exact zdJ rfl),trivial⟩) ?_;refine CN ?_;refine zn (p:=(p.any fun c=>decide (c.inn.tx=idOf t))=true) rfl (Bool.decide_eq_true.symm) (fun ht13=>?_) (fun ht13=>?_)
 ·
  refine qc9 ?_;exact zwi rfl rfl rfl rfl rfl zgx (by unfold zb4;rw[ut ht13];exact zov rfl) (zf7 zgx rfl (by unfold zb4;rw[ut ht13]))
 have hnot:(p.any fun c=>decide (c.inn.tx=idOf t))=false:=by simpa using ht13
 refine CSQQR ?_;refine A0 (oFp zdb) ?_;refine A0 (oLb zco zkx) ?_;refine A0 (zN rfl rfl zhM) ?_;refine qaH ?_;refine zaz 0 3 4 rfl rfl rfl rfl rfl rfl ?_;refine zj (n:=3) (y:=p++newN (idOf t) t.outs 0) rfl (by simp[newN]) ?_;refine Lp (ι:=Nat) 4 (fun k=>(((((Fr.none.set 0 (.own 3)).set 3 (.ptr 1 0)).set 6 (.ptr 2 0)).set 15 (.val (sl outT) t.outs)).set 16 (.val i64T (t.outs.length:Int))).set 17 (.val i64T (k:Int))) (fun k=>((Hp.none.set 1 (.box 101 txT t)).set 2 (.box 49 idT (idOf t))).set 3 (.row 293 zbg (p++newN (idOf t) t.outs k))) (fun k=>k≤t.outs.length) (fun k=>t.outs.length-k) (0) (uf _) ?_;intro k hinv;refine qar ?_;refine Cf (p:=k<t.outs.length) (fun ht18=>?_) (fun ht18=>?_)
 ·
  obtain⟨o,ho⟩:∃o,t.outs[k]?=some o:=⟨_,ub ht18⟩;have hnl:=zqs (id:=idOf t) hinv;refine qaR ?_;refine qcC ?_;refine A0 aV ?_;refine zg rfl rfl rfl rfl rfl (Lens.self _) ziN rfl ?_;refine CNR ?_;refine A0 mO ?_;refine qbG ?_;refine qa7 ?_;refine A0 (zy rfl ze_256 bd_256 (.cons zin zlc z6 rfl (.cons zeA zkr ty_3 rfl .nil)) rfl) ?_;refine A0 (oLs rfl rfl rfl ziN) ?_;refine A0 (zy rfl ze_293 bd_293 (.cons zfh zdd zdm rfl (.cons zim zfr ziN rfl .nil)) rfl) ?_;refine A0 (zL (T:=zbg) (xs:=[_]) rfl zlP zo1 yE rfl rfl) ?_;refine zC rfl rfl rfl rfl rfl rfl rfl zo1 (by simp only[ue,List.length_cons,List.length_nil,hnl];omega) ?_;refine A0 aO ?_;refine qbt ?_;refine zaz 5 3 6 rfl rfl rfl rfl rfl rfl ?_;refine zj (n:=3) rfl (newN_succ ho p) ?_;exact Nx (k+1) ya ya
 obtain rfl:k=t.outs.length:=ya;refine CE ?_;refine qbZ ?_;refine ziB (sort_ok _ (hd hnot) (by rw[ue,zqs (ug _)];omega)) rfl fn_288 rfl trivial trivial rfl ybP rfl rfl rfl ?_;refine CNQR ?_;refine A0 mO ?_;refine qcR ?_;exact zwi rfl rfl rfl rfl rfl zgx (retm_fresh zgx (fun h=>False.elim h) rfl rfl (by unfold zb4;rw[ur ht13])) (zf7 zgx rfl (by unfold zb4;rw[ur ht13]))
def Sorted (p:List Coin):Prop:=p.Pairwise fun a b=>zbd a.inn b.inn<0
theorem zpz {p:List Coin} {k:Nat} {c:Coin} (h:p[k]?=some c):ziX p k=true↔zf3 c=true∧∀j b,k=j+1→p[j]?=some b→zbd b.inn c.inn<0:=by
  unfold ziX;rw[h];simp only[uk];cases k with
  | zero=>simp
  | succ k =>
    constructor
    · rintro ⟨h1,h2⟩
      refine⟨h1,fun j b e hb=>?_⟩;obtain rfl:k=j:=ya;simp only[hb] at h2;exact of_decide_eq_true h2
    rintro ⟨h1,h2⟩
    refine⟨h1,?_⟩;simp only[];cases hb:p[k]? with
    | none=>rfl
    | some b=>exact ui (h2 k b rfl hb)
theorem za4 {p:List Coin}:zaP p=true↔(∀c∈p,zf3 c=true)∧Sorted p∧p.length≤48:=by
  unfold zaP;simp only[uk,uj,List.all_eq_true,List.mem_range]
  constructor
  · rintro ⟨h1,h2⟩
    have hat:∀k c,p[k]?=some c→zf3 c=true∧∀j b,k=j+1→p[j]?=some b→zbd b.inn c.inn<0:=fun k c hc=>(zpz hc).1 (h1 k (ul.1 hc).1)
    refine⟨fun c hc=>?_,?_,h2⟩
    · obtain⟨k,hk⟩:=List.mem_iff_getElem?.1 hc
      exact(hat k c hk).1
    have key : ∀ (k i : Nat) (a b : Coin), i < k → p[i]? = some a → p[k]? = some b → zbd a.inn b.inn < 0 := fun k => by
      induction k with
      | zero=>intro i a b h;omega
      | succ k ih =>
        intro i a b h ha hb;obtain⟨m,hm⟩:∃m,p[k]?=some m:=⟨_,ub (by have:=(ul.1 hb).1;omega)⟩;have hlast:=(hat (k+1) b hb).2 k m rfl hm;by_cases e:i=k
        · subst e;rw[ha] at hm;injection hm with hm;subst hm;exact hlast
        exact zfz (ih i a m ya ha hm) hlast
    unfold Sorted;rw[List.pairwise_iff_getElem];intro i j hi hj hij;exact key j i _ _ hij (ub hi) (ub hj)
  rintro ⟨h1,h2,h3⟩
  refine⟨fun k hk=>?_,h3⟩;refine(zpz (ub hk)).2 ⟨h1 _ (List.getElem_mem hk),fun j b e hb=>?_⟩;subst e;have hj:=(ul.1 hb).1
  have:=List.pairwise_iff_getElem.1 h2 j (j+1) hj hk ya
  rw[ub hj] at hb;injection hb with hb;rw[←hb];exact this
theorem Sorted.apart {p:List Coin} (h:Sorted p):Apart p:=List.Pairwise.imp (fun h=>by omega) h
theorem zoe {p:List Coin} {id:Ab.Id} {outs:List Out} {k:Nat} (h:Apart p) (hn:(p.any fun c=>decide (c.inn.tx=id))=false):Apart (p++newN id outs k):=by
  unfold Apart;rw[List.pairwise_append];refine⟨h,?_,fun a ha b hb e=>?_⟩
  · unfold newN
    rw[List.pairwise_map,List.pairwise_iff_getElem];intro i j hi hj hij e
    have:=zda.1 e
    injection this with _ h2;simp at h2;omega
  have:=zda.1 e
  unfold newN at hb;obtain⟨x,_,rfl⟩:=List.mem_map.1 hb;have h2:=List.any_eq_false.1 hn a ha;rw[this] at h2;simp at h2
theorem del_sorted {l:List Coin} (i:Nat) (h:Sorted l):Sorted (l.take i++l.drop (i+1)):=by
  rw[←List.eraseIdx_eq_take_drop_succ];exact List.Pairwise.sublist (List.eraseIdx_sublist _ _) h
def zdh:List Coin→Int→List In→Option (List Coin×Int)
  | p,n,[]=>some (p,n)
  | p,n,x::l=>match p[placeOf p x]? with
    | none=>none
    | some c=>if zbd c.inn x=0 then zdh (p.take (placeOf p x)++p.drop (placeOf p x+1)) (IntKind.i64.wrap (n+c.out.v)) l else none
def z8 (p:List Coin) (t:Tx):List Coin×Int×Int :=
  if ¬(zaP p=true∧zeg t=true∧t.ins≠[]) then (p,0,1) else
  match zdh p 0 t.ins with
  | none=>(p,0,8)
  | some (rest,n) =>
    if IntKind.i64.wrap (n-zft (·.v) t.outs)<0 then (p,0,8)
    else if (zb4 rest t).2=0 then (if 48<(zb4 rest t).1.length then (p,0,11) else ((zb4 rest t).1,IntKind.i64.wrap (n-zft (·.v) t.outs),0))
    else (p,0,(zb4 rest t).2)
theorem zeJ {p:List Coin} (h:zaP p=true):p.length≤48:=by
  unfold zaP at h;simp only[uk,uj] at h;exact h.2
theorem zrE {p:List Coin} {n:Int} {ins:List In} {k:Nat} {x:In} {c:Coin} (hx:ins[k]?=some x) (hc:p[placeOf p x]?=some c) (h0:zbd c.inn x=0):zdh p n (ins.drop k)=zdh (p.take (placeOf p x)++p.drop (placeOf p x+1)) (IntKind.i64.wrap (n+c.out.v)) (ins.drop (k+1)):=by
  obtain⟨hk,rfl⟩:=ul.1 hx;rw[List.drop_eq_getElem_cons hk];rw[zdh.eq_2];simp only[hc,ut h0]
theorem zrD {p:List Coin} {n:Int} {ins:List In} {k:Nat} {x:In} (hx:ins[k]?=some x) (h:¬zkQ p x=true):zdh p n (ins.drop k)=none:=by
  obtain⟨hk,rfl⟩:=ul.1 hx;rw[List.drop_eq_getElem_cons hk];rw[zdh.eq_2];unfold zkQ zk2 at h
  split
  · rfl
  rename_i c hc;rw[hc] at h;simp only[uj] at h;rw[ur h]
theorem isThere_at {p:List Coin} {x:In} (h:zkQ p x=true):∃c,p[placeOf p x]?=some c∧zbd c.inn x=0:=by
  unfold zkQ zk2 at h
  split at h
  · cases h
  rename_i c hc;exact⟨c,hc,by simpa using h⟩
theorem zfv (p:List Coin) (e:Int) (hp:p.length≤2000000000000):Tells P 283 [.val i64T e,.rptr (bsl zbg) p] (.tup3 (.fresh 293 zbg p) (.val i64T 0) (.val i64T e)):=by
 refine zd Tryz.func283 rfl rfl rfl (fun ext w hext=>?_);refine ze (d:=0) rfl zu (fun hin0=>?_);refine qa9 ?_;refine A0 aV ?_;refine qaj ?_;refine A0 (zf rfl rfl zlM) ?_;refine zaQ (zh5 p y6) rfl zsP yd rfl rfl rfl ?_;refine qa7 ?_;refine A0 aO ?_;refine qck ?_;exact ze3 rfl rfl (zh rfl rfl rfl) (zdk rfl) (zdk rfl)
theorem zuQ (p:List Coin) (t:Tx) (hp:p.length≤2000000000000):Tells P 248 [.val (bsl zbg) p,.val txT t] (.tup3 (.fresh 293 zbg (z8 p t).1) (.val i64T (z8 p t).2.1) (.val i64T (z8 p t).2.2)):=by
 refine zd Tryz.func248 rfl rfl rfl (fun ext w hext=>?_);refine ze (d:=0) rfl zm (fun hsl0=>?_);refine qaA ?_;refine A0 aL ?_;refine A0 aV ?_;refine qaj ?_;refine xd ?_;refine A0 aC ?_;refine CNQQR ?_;refine A0 (oLs rfl rfl rfl zlM) ?_;refine A0 (oCl (may_ok _) rfl fn_247 yd) ?_;refine qcS ?_;refine zo (d:=21) (p:=¬zaP p=true) rfl yA (fun g21=>?_) (fun g21=>?_)
 ·
  refine qb1 ?_;refine qcm ?_;refine Ct ?_;refine qcT ?_;refine xm ?_;refine qbI ?_;have hS:z8 p t=(p,0,1):=by unfold z8;rw[ut (fun h=>g21 h.1)]
  exact ze3 rfl rfl (zh rfl rfl yV) (za rfl yV) (za rfl yV)
 refine A1 (oLs rfl rfl rfl zhx) ?_;refine A1 (oCl (zqu _) rfl fn_168 yd) ?_;refine A1 oN ?_;refine qaf ?_;refine zo (d:=26) (p:=¬zeg t=true) rfl yA (fun g26=>?_) (fun g26=>?_)
 ·
  refine qaa ?_;refine qcm ?_;refine Ct ?_;refine qcT ?_;refine xm ?_;refine qbI ?_;have hS:z8 p t=(p,0,1):=by unfold z8;rw[ut (fun h=>g26 h.2.1)]
  exact ze3 rfl rfl (zh rfl rfl yV) (za rfl yV) (za rfl yV)
 refine A1 (oFp zeB) ?_;refine A1 (oLb zeE zoo) ?_;refine A1 (zN rfl rfl ziR) ?_;refine A1 zaH ?_;refine A0 oK ?_;refine Sp (d:=31) (p:=t.ins.length=0) (fun g31=>?_) (fun g31=>?_)
 ·
  refine CN ?_;refine Ct ?_;refine qcT ?_;refine xm ?_;refine qbI ?_;have hS:z8 p t=(p,0,1):=by unfold z8;rw[ut (fun h=>h.2.2 (List.length_eq_zero_iff.1 g31))]
  exact ze3 rfl rfl (zh rfl rfl yV) (za rfl yV) (za rfl yV)
 have hmp:=ua g21;have hmt:=ua g26;have hpl:=zeJ hmp;have hne:t.ins≠[]:=fun e=>g31 (by rw[e];rfl)
 refine CN ?_;refine Cg ?_;refine CSQR ?_;refine A0 (oLs rfl rfl rfl zlM) ?_;refine zaQ (zh5 p y6) rfl zsP yd rfl rfl rfl ?_;refine A0 aO ?_;refine CNQR ?_;refine qbO ?_;refine qbW ?_;refine qaH ?_;refine Lp (ι:=Nat×List Coin×Int) 3 (fun(k,rest,n)=>(((((((Fr.none.set 2 (.ptr 0 0)).set 3 (.ptr 1 0)).set 7 (.clo 283 [0])).set 8 (.own 2)).set 9 (.val i64T n)).set 40 (.val (sl inT) t.ins)).set 41 (.val i64T (t.ins.length:Int))).set 42 (.val i64T (k:Int))) (fun(k,rest,n)=>((Hp.none.set 0 (.box 61 (bsl zbg) p)).set 1 (.box 101 txT t)).set 2 (.row 293 zbg rest)) (fun(k,rest,n)=>k≤t.ins.length∧Sorted rest∧rest.length≤48∧zdh p 0 t.ins=zdh rest n (t.ins.drop k)) (fun(k,rest,n)=>t.ins.length-k) ((0,p,0)) (⟨uf _,(za4.1 hmp).2.1,hpl,rfl⟩) ?_;intro⟨k,rest,n⟩ hinv;dsimp only at hinv;refine ze (d:=40) rfl zm (fun hsi=>?_);refine qar ?_;refine Cf (p:=k<t.ins.length) (fun ht43=>?_) (fun ht43=>?_)
 ·
  obtain⟨x,hx⟩:∃x,t.ins[k]?=some x:=⟨_,ub ht43⟩;refine CSQBQR ?_;refine qcD ?_;refine zg rfl rfl rfl rfl rfl (Lens.self _) zdm rfl ?_;refine CNQR ?_;refine A0 mO ?_;refine A0 (oLs rfl rfl rfl zdm) ?_;refine A0 (oCl (place_ok rest x ya) rfl fn_284 ⟨(zM rfl rfl),yn,trivial⟩) ?_;refine qaN ?_;refine A0 aV ?_;refine qap ?_;refine qb3 ?_;refine zn (p:=¬zkQ rest x=true) rfl yA (fun ht53=>?_) (fun ht53=>?_)
  ·
   refine qcT ?_;refine xm ?_;refine qbI ?_;have hS:z8 p t=(p,0,8):=by unfold z8;rw[ur (Classical.not_not.2 ⟨hmp,hmt,hne⟩)];rw[hinv.2.2.2,zrD hx ht53]
   exact ze3 rfl rfl (zh rfl rfl yV) (za rfl yV) (za rfl yV)
  obtain⟨c,hc,h0⟩:=isThere_at (ua ht53);have hlt:placeOf rest x<rest.length:=(ul.1 hc).1;refine qc4 ?_;refine A0 mO ?_;refine qa7 ?_;refine A0 (zb8 (i:=placeOf rest x) rfl rfl rfl rfl yp zlP yg) ?_;refine A0 (znw rfl rfl zim rfl) ?_;refine A0 (znw rfl rfl zf2 rfl) ?_;refine A0 (zcO rfl rfl rfl rfl yj (zfr.comp zie) ty_3) ?_;refine A0 zdl ?_;refine qc3 ?_;refine A0 mO ?_;refine qav ?_;refine A0 zdl ?_;refine aw_callc (delete_ok rest (placeOf rest x) hlt) rfl fn_285 rfl trivial ⟨yl,yl,yl,trivial⟩ rfl rfl rfl ?_;refine A0 aO ?_;refine qbt ?_;refine zaz 4 2 5 rfl rfl rfl rfl rfl rfl ?_;exact Nx ((k+1,rest.take (placeOf rest x)++rest.drop (placeOf rest x+1),IntKind.i64.wrap (n+c.out.v))) (⟨by omega,del_sorted _ hinv.2.1,by simp;omega,hinv.2.2.2.trans (zrE hx hc h0)⟩) (by show _<t.ins.length-k;simp only[];omega)
 obtain rfl:k=t.ins.length:=ya;have htk:zdh p 0 t.ins=some (rest,n):=by rw[hinv.2.2.2,List.drop_of_length_le (ug _)];rfl
 refine CE ?_;refine qaE ?_;refine qcG ?_;refine A0 (oCl (outs_ok _) rfl fn_250 yd) ?_;refine A0 zbT ?_;refine qap ?_;refine qbr ?_;refine Cf (p:=IntKind.i64.wrap (n-zft (·.v) t.outs)<0) (fun ht78=>?_) (fun ht78=>?_)
 ·
  refine qcT ?_;refine xm ?_;refine qbI ?_;have hS:z8 p t=(p,0,8):=by unfold z8;rw[ur (Classical.not_not.2 ⟨hmp,hmt,hne⟩)];rw[htk];exact ut ht78
  exact ze3 rfl rfl (zh rfl rfl yV) (za rfl yV) (za rfl yV)
 refine CSQR ?_;refine A0 mO ?_;refine qcG ?_;refine ztj (made_ok rest t ya (zfp hmt).2.2 (zoe (Sorted.apart hinv.2.1))) rfl fn_249 rfl trivial zaA ybP rfl rfl rfl ?_;refine A0 yH ?_;refine qab ?_;refine A0 aO ?_;refine A0 aX ?_;refine CNQQR ?_;refine A0 mX ?_;refine A0 zaH ?_;refine qa7 ?_;refine Sp (d:=92) (p:=(zb4 rest t).2=0) (fun g92=>?_) (fun g92=>?_)
 ·
  refine A1 mO ?_;refine A1 (zbe rfl rfl rfl ziS) ?_;refine A1 zbH ?_;refine A0 oK ?_;refine Sp (d:=96) (p:=48<(zb4 rest t).1.length) (fun g96=>?_) (fun g96=>?_)
  ·
   refine CN ?_;refine Ct ?_;refine CR ?_;refine qap ?_;refine qbk ?_;refine Ct ?_;refine qcT ?_;refine qa7 ?_;refine xm ?_;refine qbI ?_;have hS:z8 p t=(p,0,11):=by unfold z8;rw[ur (Classical.not_not.2 ⟨hmp,hmt,hne⟩)];rw[htk];simp only[ur ht78,ut g92,ut g96]
   exact ze3 rfl rfl (zh rfl rfl yV) (za rfl yV) (za rfl yV)
  refine CN ?_;refine Cg ?_;refine CSQQR ?_;refine A0 mX ?_;refine qbk ?_;refine zae rfl (by simp[IntL.toI,g92]) ?_;refine CSQR ?_;refine A0 mO ?_;refine qa7 ?_;refine A0 aO ?_;refine qck ?_;have hS:z8 p t=((zb4 rest t).1,IntKind.i64.wrap (n-zft (·.v) t.outs),0):=by unfold z8;rw[ur (Classical.not_not.2 ⟨hmp,hmt,hne⟩)];rw[htk];simp only[ur ht78,ut g92,ur g96]
  exact ze3 rfl rfl (zh rfl rfl yV) (za rfl yV) (za rfl yV)
 refine qcU ?_;refine Cg ?_;refine CSQQR ?_;refine A0 mX ?_;refine qbk ?_;refine zes rfl (by simp[IntL.toI,g92]) ?_;refine qcT ?_;refine A0 mX ?_;refine zfN (As:=[_]) (Cs:=[_]) (zfv p _ hp) rfl rfl znD ybM yk ybN zaA zaA rfl rfl rfl ?_;refine qbI ?_;have hS:z8 p t=(p,0,(zb4 rest t).2):=by unfold z8;rw[ur (Classical.not_not.2 ⟨hmp,hmt,hne⟩)];rw[htk];simp only[ur ht78,ur g92]
 exact ze3 rfl rfl (zh rfl rfl yV) (za rfl yV) (za rfl yV)
theorem leC_trans (a b c:Coin) (h:decide (zbd a.inn b.inn≤0)=true) (k:decide (zbd b.inn c.inn≤0)=true):decide (zbd a.inn c.inn≤0)=true:=by
  simp only[uj] at *;by_cases h0:zbd a.inn b.inn=0
  · rw[zda.1 h0];exact k
  by_cases k0:zbd b.inn c.inn=0
  · rw[←zda.1 k0];exact h
  have:=zfz (a:=a.inn) (b:=b.inn) (c:=c.inn) ya ya
  omega
theorem leC_total (a b:Coin):(decide (zbd a.inn b.inn≤0)||decide (zbd b.inn a.inn≤0))=true:=by
  have:=zdo a.inn b.inn
  simp only[Bool.or_eq_true,uj];omega
theorem zih (l:List Coin):(zjC l).Perm l:=List.mergeSort_perm l _
theorem zrI {l:List Coin} (h:Apart l):Sorted (zjC l):=by
  have h1:(zjC l).Pairwise fun a b=>decide (zbd a.inn b.inn≤0)=true:=List.pairwise_mergeSort leC_trans leC_total l
  have h2:Apart (zjC l):=((zih l).pairwise_iff (R:=fun a b:Coin=>zbd a.inn b.inn≠0) (fun {a b} h=>by have:=zdo a.inn b.inn;omega)).2 h;unfold Sorted Apart at *;refine List.Pairwise.imp₂ (fun a b h1 h2=>?_) h1 h2
  have:=of_decide_eq_true h1
  omega
theorem zrB {t:Tx} (h:zeg t=true):∀o∈t.outs,zvc o=false:=fun o ho=>by
  unfold zeg at h;simp only[uk,Bool.not_eq_true'] at h
  have:=List.any_eq_false.1 h.2.2.2.2 o ho
  simpa using this
theorem newN_ok {t:Tx} {id:Ab.Id} {k:Nat} (h:zeg t=true):∀c∈newN id t.outs k,zf3 c=true:=fun c hc=>by
  unfold newN at hc;obtain⟨⟨o,i⟩,hx,rfl⟩:=List.mem_map.1 hc;have hi:=List.mk_mem_zipIdx_iff_getElem?.1 hx;have hlt:=(ul.1 hi).1;have ho:o∈t.outs:=List.mem_of_mem_take (ud hi);have h1:=zrB h o ho;have h3:=(zfp h).2.2;rw[um] at hlt;unfold zvc at h1;have h1:=of_decide_eq_false h1;unfold zf3;apply ui;simp only[];omega
theorem znd {p:List Coin} {t:Tx} (hp:∀c∈p,zf3 c=true) (hs:Sorted p) (ht:zeg t=true):(∀c∈(zb4 p t).1,zf3 c=true)∧Sorted (zb4 p t).1:=by
  unfold zb4
  split
  · exact⟨fun c hc=>absurd hc (List.not_mem_nil),List.Pairwise.nil⟩
  rename_i h;have h:(p.any fun c=>decide (c.inn.tx=idOf t))=false:=by simpa using h
  refine⟨fun c hc=>?_,zrI (zoe (Sorted.apart hs) h)⟩
  have:=(zih _).mem_iff.1 hc
  rcases List.mem_append.1 this with h|h
  · exact hp c h
  exact newN_ok ht c h
theorem zhy:∀{ins:List In} {p rest:List Coin} {n m:Int},zdh p n ins=some (rest,m)→rest.Sublist p
  | [],p,rest,n,m,h=>by
    rw[zdh.eq_1] at h;injection h with h;injection h with h _;subst h;exact List.Sublist.refl _
  | x::ins,p,rest,n,m,h=>by
    rw[zdh.eq_2] at h
    split at h
    · cases h
    split at h
    · have:=zhy h
      refine this.trans ?_;rw[←List.eraseIdx_eq_take_drop_succ];exact List.eraseIdx_sublist _ _
    cases h
theorem zgP {p:List Coin} {t:Tx} (h:zaP p=true):zaP (z8 p t).1=true:=by
  obtain⟨h1,h2,h3⟩:=za4.1 h;unfold z8
  split
  · exact h
  rename_i hn;have hn:=ua hn
  split
  · exact h
  rename_i rest n hrest;have hsub:=zhy hrest
  split
  · exact h
  split
  · split
    · exact h
    rename_i hl;have hg:=znd (p:=rest) (fun c hc=>h1 c (hsub.subset hc)) (h2.sublist hsub) hn.2.1;exact za4.2 ⟨hg.1,hg.2,Nat.le_of_not_lt hl⟩
  exact h
def ze5:List Coin→Int→List Tx→Sum Int (List Coin×Int)
  | out,room,[]=>.inr (out,room)
  | out,room,t::l=>if (z8 out t).2.2=0 then ze5 (z8 out t).1 (IntKind.i64.wrap (room+(z8 out t).2.1)) l else .inl (z8 out t).2.2
def zdZ (l:List Tx):Bool:=match l with | []=>false|t::_=>decide (t.ins.length=0)
theorem zpj {l:List Tx} {t:Tx} (h:l[0]?=some t):zdZ l=decide (t.ins.length=0):=by
  cases l with
  | nil=>simp at h
  | cons a m=>simp at h;subst h;rfl
theorem zjc {l:List Tx} (h:¬0<l.length):zdZ l=false:=by
  cases l with
  | nil=>rfl
  | cons a m=>simp at h
def zeG (l:List Tx) (k:Nat):List Tx:=if zdZ l=true∧k=0 then l.drop 1 else l.drop k
def zX (p:List Coin) (l:List Tx):List Coin×Int :=
  if ¬zaP p=true then (p,1) else if 4<l.length then (p,3) else
  match ze5 p 50 (zeG l 0) with
  | .inl e=>(p,e)
  | .inr (out,room)=>match (if zdZ l=true then l[0]? else none) with
    | none=>(out,0)
    | some t=>if ¬zeg t=true then (p,1) else if ¬(zb4 out t).2=0 then (p,(zb4 out t).2) else if room<zft (·.v) t.outs then (p,8) else if 48<(zb4 out t).1.length then (p,11) else ((zb4 out t).1,0)
theorem zi7 {out:List Coin} {room:Int} {l:List Tx} {k:Nat} {t:Tx} (hk:¬(zdZ l=true∧k=0)) (hx:l[k]?=some t) (h:(z8 out t).2.2=0):ze5 out room (zeG l k)=ze5 (z8 out t).1 (IntKind.i64.wrap (room+(z8 out t).2.1)) (zeG l (k+1)):=by
  obtain⟨hlt,rfl⟩:=ul.1 hx;unfold zeG;rw[ur hk,ur ya,List.drop_eq_getElem_cons hlt,ze5.eq_2,ut h]
theorem zmU {out:List Coin} {room:Int} {l:List Tx} {k:Nat} {t:Tx} (hk:¬(zdZ l=true∧k=0)) (hx:l[k]?=some t) (h:¬(z8 out t).2.2=0):ze5 out room (zeG l k) = .inl (z8 out t).2.2:=by
  obtain⟨hlt,rfl⟩:=ul.1 hx;unfold zeG;rw[ur hk,List.drop_eq_getElem_cons hlt,ze5.eq_2,ur h]
theorem zhD {l:List Tx} (h:zdZ l=true):zeG l 0=zeG l 1:=by
  unfold zeG;rw[ut ⟨h,rfl⟩,ur ya]
theorem zo5 {l:List Tx} (k:Nat) (h:l.length≤k):zeG l k=[]:=by
  unfold zeG
  split
  · exact List.drop_of_length_le ya
  exact List.drop_of_length_le h
theorem zeT (p:List Coin) (e:Int) (hp:p.length≤2000000000000):Tells P 246 [.val i64T e,.rptr (bsl zbg) p] (.tup2 (.fresh 293 zbg p) (.val i64T e)):=by
 refine zd Tryz.func246 rfl rfl rfl (fun ext w hext=>?_);refine ze (d:=0) rfl zu (fun hin0=>?_);refine qa9 ?_;refine qaj ?_;refine A0 (zf rfl rfl zlM) ?_;refine zaQ (zh5 p y6) rfl zsP yd rfl rfl rfl ?_;refine qa7 ?_;refine qcR ?_;exact zac rfl rfl (zh rfl rfl rfl) (zdk rfl)
theorem apply_ok (p:List Coin) (l:List Tx) (hp:p.length≤2000000000000):Tells P 192 [.val (bsl zbg) p,.val (bsl txT) l] (.tup2 (.fresh 293 zbg (zX p l).1) (.val i64T (zX p l).2)):=by
 refine zd Tryz.func192 rfl rfl rfl (fun ext w hext=>?_);refine ze (d:=0) rfl zm (fun hsl0=>?_);refine ze (d:=1) rfl zm (fun hsl1=>?_);refine qah ?_;refine A0 aL ?_;refine qaj ?_;refine xd ?_;refine A0 aC ?_;refine CNQ ?_;refine CB ?_;refine CQR ?_;refine A0 (oLs rfl rfl rfl zlM) ?_;refine A0 (oCl (may_ok _) rfl fn_247 yd) ?_;refine A0 oN ?_;refine qae ?_;refine zn (p:=¬zaP p=true) rfl yA (fun ht17=>?_) (fun ht17=>?_)
 ·
  refine qcT ?_;refine xn ?_;refine qdb ?_;have hS:zX p l=(p,1):=by unfold zX;rw[ut ht17]
  exact zac rfl rfl (zh rfl rfl yV) (za rfl yV)
 have hmp:=ua ht17;have hpl:=zeJ hmp;refine qaE ?_;refine xo ?_;refine A0 zbH ?_;refine qae ?_;refine Cf (p:=4<l.length) (fun ht25=>?_) (fun ht25=>?_)
 ·
  refine qcT ?_;refine xn ?_;refine qdb ?_;have hS:zX p l=(p,3):=by unfold zX;rw[ur (Classical.not_not.2 hmp),ut ht25]
  exact zac rfl rfl (zh rfl rfl yV) (za rfl yV)
 refine CS ?_;refine CI ?_;refine CQR ?_;refine A0 (oLs rfl rfl rfl zlM) ?_;refine zaQ (zh5 p y6) rfl zsP yd rfl rfl rfl ?_;refine A0 aO ?_;refine qaL ?_;refine xo ?_;refine A0 zbH ?_;refine qa7 ?_;refine Sp (d:=38) (p:=0<l.length) (fun g38=>?_) (fun g38=>?_)
 ·
  obtain⟨t0,ht0⟩:∃t0,l[0]?=some t0:=⟨_,ub g38⟩;refine qcV ?_;refine A1 (zV (i:=0) rfl rfl rfl ya zpW yj) ?_;refine A1 (oFr zeB zeE) ?_;refine A1 (zf rfl rfl zoo) ?_;refine A1 (by first|exact zN rfl rfl ziR|exact zbe rfl rfl rfl ziR|exact zeL rfl rfl ziR) ?_;refine A1 zaH ?_;refine A0 oK ?_;refine zi (d:=45) (y:=zdZ l) rfl ybw ?_;refine qap ?_;refine xo ?_;refine qaH ?_;refine Lp (ι:=Nat×List Coin×Int) 2 (fun(k,out,room)=>((((((((Fr.none.set 1 (.val (bsl txT) l)).set 2 (.ptr 0 0)).set 6 (.clo 246 [0])).set 7 (.own 1)).set 8 (.val i64T room)).set 9 (.val zl (zdZ l))).set 46 (.val (bsl txT) l)).set 47 (.val i64T (l.length:Int))).set 48 (.val i64T (k:Int))) (fun(k,out,room)=>(Hp.none.set 0 (.box 61 (bsl zbg) p)).set 1 (.row 293 zbg out)) (fun(k,out,room)=>k≤l.length∧zaP out=true∧ze5 p 50 (zeG l 0)=ze5 out room (zeG l k)) (fun(k,out,room)=>l.length-k) ((0,p,50)) (⟨uf _,hmp,rfl⟩) ?_;intro⟨k,out,room⟩ hinv;dsimp only at hinv;have hol:=zeJ hinv.2.1;refine qar ?_;refine Cf (p:=k<l.length) (fun ht49=>?_) (fun ht49=>?_)
  ·
   obtain⟨t,hx⟩:∃t,l[k]?=some t:=⟨_,ub ht49⟩;refine qaR ?_;refine qbz ?_;refine A0 aV ?_;refine qc0 ?_;refine qbx ?_;refine A0 zaH ?_;refine qa7 ?_;refine Sp (d:=55) (p:=k=0) (fun g55=>?_) (fun g55=>?_)
   ·
    refine qcV ?_;refine A0 oK ?_;refine zo (d:=57) (p:=zdZ l=true) rfl yA (fun g57=>?_) (fun g57=>?_)
    ·
     refine CN ?_;refine Ct ?_;refine CE ?_;refine CR ?_;refine qan ?_;exact Nx ((k+1,out,room)) yX ybA
    refine CN ?_;refine Cg ?_;refine CSQR ?_;refine A0 mO ?_;refine qcG ?_;refine zti (zuQ out t ya) rfl fn_248 ⟨(zM rfl rfl),yn,trivial⟩ zaA zaA rfl rfl rfl ?_;refine A0 yH ?_;refine qab ?_;refine A0 e32 ?_;refine A0 aO ?_;refine qbA ?_;refine zn (p:=¬(z8 out t).2.2=0) rfl yw (fun ht66=>?_) (fun ht66=>?_)
    ·
     refine qcT ?_;refine A0 mX ?_;refine xp ?_;refine qdb ?_;have hS:zX p l=(p,(z8 out t).2.2):=yb7;exact zac rfl rfl (zh rfl rfl yV) (za rfl yV)
    refine CSQR ?_;refine A0 mO ?_;refine A0 aO ?_;refine CNR ?_;refine qa7 ?_;refine A0 mX ?_;refine A0 zdl ?_;refine A0 aV ?_;refine qbt ?_;refine ze4 1 ?_;refine xq ?_;exact Nx ((k+1,(z8 out t).1,IntKind.i64.wrap (room+(z8 out t).2.1))) yX ybA
   refine qcm ?_;refine Cg ?_;refine CSQR ?_;refine A0 mO ?_;refine qcG ?_;refine zti (zuQ out t ya) rfl fn_248 ⟨(zM rfl rfl),yn,trivial⟩ zaA zaA rfl rfl rfl ?_;refine A0 yH ?_;refine qab ?_;refine A0 e32 ?_;refine A0 aO ?_;refine qbA ?_;refine zn (p:=¬(z8 out t).2.2=0) rfl yw (fun ht66=>?_) (fun ht66=>?_)
   ·
    refine qcT ?_;refine A0 mX ?_;refine xp ?_;refine qdb ?_;have hS:zX p l=(p,(z8 out t).2.2):=yb7;exact zac rfl rfl (zh rfl rfl yV) (za rfl yV)
   refine CSQR ?_;refine A0 mO ?_;refine A0 aO ?_;refine CNR ?_;refine qa7 ?_;refine A0 mX ?_;refine A0 zdl ?_;refine A0 aV ?_;refine qbt ?_;refine ze4 1 ?_;refine xq ?_;exact Nx ((k+1,(z8 out t).1,IntKind.i64.wrap (room+(z8 out t).2.1))) yX ybA
  have hrun:ze5 p 50 (zeG l 0) = .inr (out,room):=by rw[hinv.2.2,zo5 k ya];rfl
  refine CE ?_;refine qbQ ?_;refine qb3 ?_;refine zn (p:=¬zdZ l=true) rfl yA (fun ht78=>?_) (fun ht78=>?_)
  ·
   have hnf:=ht78;refine qbZ ?_;refine qcR ?_;have hS:zX p l=(out,0):=yb8;exact zac rfl rfl (zh rfl rfl yV) (za rfl yV)
  have hf:=ua ht78;refine qc2 ?_;refine A0 (zV (i:=0) rfl rfl rfl ya zpW yj) ?_;refine A0 (zf rfl rfl zhx) ?_;refine A0 (oCl (zqu _) rfl fn_168 ybM) ?_;refine qb3 ?_;refine zn (p:=¬zeg t0=true) rfl yA (fun ht84=>?_) (fun ht84=>?_)
  ·
   refine qcT ?_;refine xn ?_;refine qdb ?_;have hS:zX p l=(p,1):=by unfold zX;rw[ur (Classical.not_not.2 hmp),ur (show ¬4<l.length by omega)];rw[hrun];simp only[ut hf,ht0];rw[ut ht84]
   exact zac rfl rfl (zh rfl rfl yV) (za rfl yV)
  have hmt:=ua ht84;refine CSQR ?_;refine A0 mO ?_;refine qa7 ?_;refine A0 (zV (i:=0) rfl rfl rfl ya zpW yj) ?_;refine A0 (zf rfl rfl zhx) ?_;refine ztj (made_ok out t0 ya (zfp hmt).2.2 (zoe (Sorted.apart (za4.1 hinv.2.1).2.1))) rfl fn_249 rfl trivial zaA ybP rfl rfl rfl ?_;refine A0 yH ?_;refine qab ?_;refine A0 aO ?_;refine A0 aX ?_;refine CNQ ?_;refine CB ?_;refine CQR ?_;refine A0 mX ?_;refine A0 zcQ ?_;refine qae ?_;refine zn (p:=¬(zb4 out t0).2=0) rfl yw (fun ht97=>?_) (fun ht97=>?_)
  ·
   refine qcT ?_;refine A0 mX ?_;refine xp ?_;refine qdb ?_;have hS:zX p l=(p,(zb4 out t0).2):=by unfold zX;rw[ur (Classical.not_not.2 hmp),ur (show ¬4<l.length by omega)];rw[hrun];simp only[ut hf,ht0];rw[ur (Classical.not_not.2 hmt),ut ht97]
   exact zac rfl rfl (zh rfl rfl yV) (za rfl yV)
  refine qaE ?_;refine A0 (zV (i:=0) rfl rfl rfl ya zpW yj) ?_;refine A0 (zf rfl rfl zhx) ?_;refine A0 (oCl (outs_ok _) rfl fn_250 ybM) ?_;refine qa7 ?_;refine A0 zbH ?_;refine qae ?_;refine Cf (p:=room<zft (·.v) t0.outs) (fun ht105=>?_) (fun ht105=>?_)
  ·
   refine qcT ?_;refine xn ?_;refine qdb ?_;have hS:zX p l=(p,8):=by unfold zX;rw[ur (Classical.not_not.2 hmp),ur (show ¬4<l.length by omega)];rw[hrun];simp only[ut hf,ht0];rw[ur (Classical.not_not.2 hmt),ur ht97,ut ht105]
   exact zac rfl rfl (zh rfl rfl yV) (za rfl yV)
  refine qbZ ?_;refine A0 (zbe rfl rfl rfl ziS) ?_;refine A0 zbH ?_;refine qae ?_;refine Cf (p:=48<(zb4 out t0).1.length) (fun ht116=>?_) (fun ht116=>?_)
  ·
   refine qcT ?_;refine xn ?_;refine qdb ?_;have hS:zX p l=(p,11):=by unfold zX;rw[ur (Classical.not_not.2 hmp),ur (show ¬4<l.length by omega)];rw[hrun];simp only[ut hf,ht0];rw[ur (Classical.not_not.2 hmt),ur ht97,ur ht105,ut ht116]
   exact zac rfl rfl (zh rfl rfl yV) (za rfl yV)
  refine CS ?_;refine CI ?_;refine qbZ ?_;refine qcR ?_;have hS:zX p l=((zb4 out t0).1,0):=by unfold zX;rw[ur (Classical.not_not.2 hmp),ur (show ¬4<l.length by omega)];rw[hrun];simp only[ut hf,ht0];rw[ur (Classical.not_not.2 hmt),ur ht97,ur ht105,ur ht116]
  exact zac rfl rfl (zh rfl rfl yV) (za rfl yV)
 refine qaa ?_;refine qaa ?_;refine A0 oK ?_;refine zi (d:=45) (y:=zdZ l) rfl ybw ?_;refine qap ?_;refine xo ?_;refine qaH ?_;refine Lp (ι:=Nat×List Coin×Int) 2 (fun(k,out,room)=>((((((((Fr.none.set 1 (.val (bsl txT) l)).set 2 (.ptr 0 0)).set 6 (.clo 246 [0])).set 7 (.own 1)).set 8 (.val i64T room)).set 9 (.val zl (zdZ l))).set 46 (.val (bsl txT) l)).set 47 (.val i64T (l.length:Int))).set 48 (.val i64T (k:Int))) (fun(k,out,room)=>(Hp.none.set 0 (.box 61 (bsl zbg) p)).set 1 (.row 293 zbg out)) (fun(k,out,room)=>k≤l.length∧zaP out=true∧ze5 p 50 (zeG l 0)=ze5 out room (zeG l k)) (fun(k,out,room)=>l.length-k) ((0,p,50)) (⟨uf _,hmp,rfl⟩) ?_;intro⟨k,out,room⟩ hinv;dsimp only at hinv;have hol:=zeJ hinv.2.1;refine qar ?_;refine Cf (p:=k<l.length) (fun ht49=>?_) (fun ht49=>?_)
 ·
  exfalso;omega
 have hrun:ze5 p 50 (zeG l 0) = .inr (out,room):=by rw[hinv.2.2,zo5 k ya];rfl
 refine CE ?_;refine qbQ ?_;refine qb3 ?_;refine zn (p:=¬zdZ l=true) rfl yA (fun ht78=>?_) (fun ht78=>?_)
 ·
  have hnf:=ht78;refine qbZ ?_;refine qcR ?_;have hS:zX p l=(out,0):=yb8;exact zac rfl rfl (zh rfl rfl yV) (za rfl yV)
 exact absurd (ua ht78) (by rw[zjc g38];simp)
def tot {α:Type} (f:α→Int):List α→Int
  | []=>0
  | x::l=>f x+tot f l
theorem zoS {α:Type} {f:α→Int}:∀{l m:List α},tot f (l++m)=tot f l+tot f m
  | [],m=>by simp[tot]
  | x::l,m=>by rw[List.cons_append,tot,tot,zoS];omega
theorem tot_perm {α:Type} {f:α→Int} {l m:List α} (h:l.Perm m):tot f l=tot f m:=by
  induction h with
  | nil=>rfl
  | cons x _ ih=>rw[tot,tot,ih]
  | swap x y l=>simp only[tot];omega
  | trans _ _ h1 h2=>exact h1.trans h2
theorem tot_del {α:Type} {f:α→Int} {x:α}:∀{l:List α} {i:Nat},l[i]?=some x→tot f (l.take i++l.drop (i+1))+f x=tot f l
  | [],i,h=>by simp at h
  | y::l,0,h=>by simp at h;subst h;simp[tot];omega
  | y::l,i+1,h=>by
    have:=tot_del (f:=f) (l:=l) (i:=i) (by simpa using h)
    simp only[List.take_succ_cons,List.drop_succ_cons,List.cons_append,tot];omega
theorem zmA {α:Type} {f:α→Int}:∀{l:List α},(∀x∈l,0≤f x)→0≤tot f l
  | [],_=>Int.le_refl _
  | x::l,h=>by
    have:=zmA (f:=f) (l:=l) fun y hy=>h y (List.mem_cons_of_mem _ hy)
    have:=h x List.mem_cons_self
    rw[tot];omega
theorem tot_le {α:Type} {f:α→Int} {M:Int}:∀{l:List α},(∀x∈l,f x≤M)→tot f l≤M*l.length
  | [],_=>by simp[tot]
  | x::l,h=>by
    have:=tot_le (f:=f) (M:=M) (l:=l) fun y hy=>h y (List.mem_cons_of_mem _ hy)
    have:=h x List.mem_cons_self
    rw[tot,List.length_cons,Int.natCast_add,Int.mul_add];omega
theorem zvL {α:Type} {f:α→Int} {M:Int} (hM:0≤M):∀{l:List α} {n:Int},(∀x∈l,0≤f x∧f x≤M)→0≤n→n+M*l.length≤9223372036854775807→l.foldl (fun n x=>IntKind.i64.wrap (n+f x)) n=n+tot f l
  | [],n,_,_,_=>by simp[tot]
  | x::l,n,h,h0,h1=>by
    have hx:=h x List.mem_cons_self;rw[List.length_cons,Int.natCast_add,Int.mul_add] at h1;have h2:0≤M*l.length:=Int.mul_nonneg hM (Int.natCast_nonneg _);have e:IntKind.i64.wrap (n+f x)=n+f x:=zas ya;rw[List.foldl_cons,e,zvL hM (fun y hy=>h y (List.mem_cons_of_mem _ hy)) ya ya,tot];omega
theorem worth_tot {α:Type} {f:α→Int} {l:List α} (h:∀x∈l,0≤f x∧f x≤2199023255552) (hl:l.length≤60):zft f l=tot f l:=by
  have:=zvL (f:=f) (M:=2199023255552) yr (n:=0) h (Int.le_refl _) ya
  unfold zft;rw[this];omega
theorem zki {p:List Coin} (h:∀c∈p,zf3 c=true):∀c∈p,0≤c.out.v∧c.out.v≤1099511627776:=fun c hc=>by
  have:=of_decide_eq_true (h c hc)
  omega
theorem znS {p:List Coin} (h:∀c∈p,zf3 c=true) (hl:p.length≤48):0≤tot (·.out.v) p∧tot (·.out.v) p≤52776558133248:=by
  have h:=zki h;refine⟨zmA fun x hx=>(h x hx).1,?_⟩
  have:=tot_le (f:=fun c:Coin=>c.out.v) (M:=1099511627776) (l:=p) fun x hx=>(h x hx).2
  omega
theorem outs_pos {t:Tx} (h:zeg t=true):∀o∈t.outs,0≤o.v∧o.v≤1099511627776:=fun o ho=>by
  have h1:=zrB h o ho;unfold zvc at h1
  have:=of_decide_eq_false h1
  omega
theorem zva {t:Tx} (h:zeg t=true):zft (·.v) t.outs=tot (·.v) t.outs∧0≤tot (·.v) t.outs∧tot (·.v) t.outs≤3298534883328:=by
  have h1:=outs_pos h;have h3:=(zfp h).2.2;refine⟨worth_tot (fun x hx=>by have:=h1 x hx;omega) ya,zmA fun x hx=>(h1 x hx).1,?_⟩
  have:=tot_le (f:=fun o:Out=>o.v) (M:=1099511627776) (l:=t.outs) fun x hx=>(h1 x hx).2
  omega
theorem zip_tot {id:Ab.Id}:∀{outs:List Out} {k:Nat},tot (·.out.v) ((outs.zipIdx k).map fun x=>(⟨⟨id,(x.2:Int)⟩,x.1⟩:Coin))=tot (·.v) outs
  | [],_=>rfl
  | o::outs,k=>by rw[List.zipIdx_cons,List.map_cons,tot,tot,zip_tot]
theorem newN_tot {id:Ab.Id} {outs:List Out}:tot (·.out.v) (newN id outs outs.length)=tot (·.v) outs:=by
  unfold newN;rw[List.take_length];exact zip_tot
theorem zpe {p:List Coin} {t:Tx} (h:(zb4 p t).2=0):tot (·.out.v) (zb4 p t).1=tot (·.out.v) p+tot (·.v) t.outs∧(zb4 p t).1.length=p.length+t.outs.length:=by
  unfold zb4 at h ⊢
  split
  · rename_i e;rw[ut e] at h;exact absurd h yr
  refine⟨?_,?_⟩
  · rw[tot_perm (zih _),zoS,newN_tot]
  rw[(zih _).length_eq,ue,zqs (ug _)]
theorem zmF:∀{ins:List In} {p rest:List Coin} {n m:Int},zdh p n ins=some (rest,m)→(∀c∈p,zf3 c=true)→p.length≤48→0≤n→n+tot (·.out.v) p≤52776558133248→m+tot (·.out.v) rest=n+tot (·.out.v) p∧n≤m∧rest.length+ins.length=p.length
  | [],p,rest,n,m,h,_,_,_,_=>by
    rw[zdh.eq_1] at h;injection h with h;injection h with h1 h2;subst h1;subst h2;exact⟨rfl,Int.le_refl _,rfl⟩
  | x::ins,p,rest,n,m,h,ho,hl,h0,h1=>by
    rw[zdh.eq_2] at h
    split at h
    · cases h
    rename_i c hc
    split at h
    · have hd:=tot_del (f:=fun c:Coin=>c.out.v) hc
      have hcm:=zki ho c (ud hc);have hlt:=(ul.1 hc).1;have hsub:(p.take (placeOf p x)++p.drop (placeOf p x+1)).Sublist p:=by
        rw[←List.eraseIdx_eq_take_drop_succ];exact List.eraseIdx_sublist _ _
      have hp:=zmA (f:=fun c:Coin=>c.out.v) (l:=p.take (placeOf p x)++p.drop (placeOf p x+1)) fun y hy=>(zki ho y (hsub.subset hy)).1
      have hll:(p.take (placeOf p x)++p.drop (placeOf p x+1)).length+1=p.length:=yK;have e:IntKind.i64.wrap (n+c.out.v)=n+c.out.v:=zas ya;rw[e] at h
      have:=zmF h (fun y hy=>ho y (hsub.subset hy)) ya ya ya
      rw[List.length_cons];omega
    cases h
theorem ztD {p:List Coin} {t:Tx} (h:zaP p=true):0≤(z8 p t).2.1∧tot (·.out.v) (z8 p t).1+(z8 p t).2.1=tot (·.out.v) p∧((z8 p t).2.2≠0→(z8 p t).1=p∧(z8 p t).2.1=0):=by
  obtain⟨h1,h2,h3⟩:=za4.1 h;have hT:=znS h1 h3;unfold z8
  split
  · exact⟨Int.le_refl _,by simp,fun _=>⟨rfl,rfl⟩⟩
  rename_i hn;have hn:=ua hn
  split
  · exact⟨Int.le_refl _,by simp,fun _=>⟨rfl,rfl⟩⟩
  rename_i rest n hrest;have ht:=zmF hrest h1 h3 (Int.le_refl _) ya;have ho:=zva hn.2.1;have hsub:=zhy hrest;have hr:=zmA (f:=fun c:Coin=>c.out.v) (l:=rest) fun c hc=>(zki h1 c (hsub.subset hc)).1
  split
  · exact⟨Int.le_refl _,by simp,fun _=>⟨rfl,rfl⟩⟩
  rename_i hw;rw[ho.1] at hw ⊢;have e:IntKind.i64.wrap (n-tot (·.v) t.outs)=n-tot (·.v) t.outs:=zas ya;rw[e] at hw ⊢
  split
  · rename_i hm
    have hmt:=(zpe hm).1
    split
    · exact⟨Int.le_refl _,by simp,fun _=>⟨rfl,rfl⟩⟩
    exact⟨by simp only[];omega,by simp only[];omega,fun h=>absurd rfl h⟩
  exact⟨Int.le_refl _,by simp,fun _=>⟨rfl,rfl⟩⟩
theorem zoZ:∀{l:List Tx} {p out:List Coin} {r r':Int},ze5 p r l = .inr (out,r')→zaP p=true→0≤r→tot (·.out.v) p+r≤52776558133398→zaP out=true∧r≤r'∧tot (·.out.v) out+r'=tot (·.out.v) p+r
  | [],p,out,r,r',h,hp,_,_=>by
    rw[ze5.eq_1] at h;injection h with h;injection h with h1 h2;subst h1;subst h2;exact⟨hp,Int.le_refl _,rfl⟩
  | t::l,p,out,r,r',h,hp,h0,h1=>by
    rw[ze5.eq_2] at h
    split at h
    · have hs:=ztD (t:=t) hp
      have hm:=zgP (t:=t) hp;have hT:=znS (za4.1 hm).1 (za4.1 hm).2.2;have e:IntKind.i64.wrap (r+(z8 p t).2.1)=r+(z8 p t).2.1:=zas ya;rw[e] at h
      have:=zoZ h hm ya ya
      exact⟨this.1,by omega,by omega⟩
    cases h
theorem zux {p:List Coin} {l:List Tx} (h:zaP p=true):zaP (zX p l).1=true∧tot (·.out.v) (zX p l).1≤tot (·.out.v) p+50∧((zX p l).2≠0→(zX p l).1=p):=by
  have hT:=znS (za4.1 h).1 (za4.1 h).2.2;have same:∀e:Int,zaP p=true∧tot (·.out.v) p≤tot (·.out.v) p+50∧(e≠0→p=p):=fun _=>⟨h,by omega,fun _=>rfl⟩
  unfold zX;rw[ur (Classical.not_not.2 h)]
  split
  · exact same _
  split
  · exact same _
  rename_i out room hr;have hrt:=zoZ hr h yr ya
  split
  · exact⟨hrt.1,by simp only[];omega,fun h=>absurd rfl h⟩
  rename_i t _
  split
  · exact same _
  rename_i hmt;have hmt:=ua hmt;have ho:=zva hmt
  split
  · exact same _
  rename_i hm;have hm:=ua hm
  split
  · exact same _
  rename_i hw;rw[ho.1] at hw
  split
  · exact same _
  rename_i hl;have hg:=znd (p:=out) (za4.1 hrt.1).1 (za4.1 hrt.1).2.1 hmt;have hmt:=(zpe hm).1;exact⟨za4.2 ⟨hg.1,hg.2,Nat.le_of_not_lt hl⟩,by simp only[];omega,fun h=>absurd rfl h⟩
theorem zfy (x:UInt64) {m:Nat} (h:m≤64):(zaY x m).toNat=x.toNat/2^m:=by
  have hx:x.toNat<18446744073709551616:=x.toNat_lt;unfold zaY;rw[UInt64.toNat_ofNat_of_lt' (Nat.lt_of_le_of_lt (Nat.div_le_self _ _) hx),Nat.min_eq_left h]
theorem shr_zero (x:UInt64):x=zaY x (8*0):=by
  apply UInt64.toNat_inj.1;rw[zfy x yr];simp
def setN {α:Type} (f:Nat→α) (z:List α) (k:Nat):List α:=(List.range k).foldl (fun l i=>l.set i (f i)) z
theorem zmN {α:Type} {f:Nat→α} {z:List α} {k:Nat}:(setN f z k).set k (f k)=setN f z (k+1):=(zeM (f:=fun (l:List α) i=>l.set i (f i))).symm
theorem zpZ {α:Type} {f:Nat→α} {z:List α} {k:Nat} (h:z.length=k):setN f z k=(List.range k).map f:=by
  apply List.ext_getElem?;intro j;unfold setN;rw[zhV,List.getElem?_map];by_cases c:j<k
  · rw[ut ⟨c,by omega⟩,List.getElem?_range c];rfl
  rw[ur ya,List.getElem?_eq_none ya,List.getElem?_eq_none yK];rfl
theorem zmk {a:Ab.Id} {ρ:Nat→Value} {B:Nat→Prop} {U N:Nat→Prop} {w:World} {v:Value} (h:(AV.val idT a).rel ρ B U N w v):a.length=32:=by
  obtain⟨cs,h,_⟩:=h;exact h.1
theorem zeN {a:Wide} {ρ:Nat→Value} {B:Nat→Prop} {U N:Nat→Prop} {w:World} {v:Value} (h:(AV.val zaC a).rel ρ B U N w v):a.length=4:=by
  obtain⟨cs,h,_⟩:=h;exact h.1
def cmpU (x y:UInt64):Int:=if x<y then -1 else if y<x then 1 else 0
def atW (a:Wide) (i:Int):UInt64:=if i<0∨4≤i then 0 else a.getD i.toNat default
def upF (a:Wide) (n:Int) (i:Nat):UInt64:=zlR (atW a ((i:Int)-n/64)) (n%64).toNat|||zaY (zaY (atW a ((i:Int)-n/64-1)) 1) (63-n%64).toNat
def upW (a:Wide) (n:Int):Wide:=if n<0 then a else if 256≤n then zc6 else (List.range 4).map (upF a n)
def downF (a:Wide) (n:Int) (i:Nat):UInt64:=zaY (atW a ((i:Int)+n/64)) (n%64).toNat|||zlR (zlR (atW a ((i:Int)+n/64+1)) 1) (63-n%64).toNat
def downW (a:Wide) (n:Int):Wide:=if n<0 then a else if 256≤n then zc6 else (List.range 4).map (downF a n)
def byteF (a:Wide) (i:Nat):UInt8:=zch (IntL.toI u64T (zaY (a.getD (3-i/8) default) (56-8*((i:Int)%8)).toNat))
def zfK (a:Wide):Ab.Id:=(List.range 32).map (byteF a)
def of32S (b:Ab.Id) (w:Wide) (i:Nat):Wide:=w.set (3-i/8) (zlR (w.getD (3-i/8) default) 8|||z2 (IntL.toI u8T (b.getD i default)))
def of32N (b:Ab.Id) (k:Nat):Wide:=(List.range k).foldl (of32S b) zc6
def zlU (b:Ab.Id):Wide:=of32N b 32
def cmpW (a b:Wide):Int:=orL [cmpU (a.getD 3 default) (b.getD 3 default),cmpU (a.getD 2 default) (b.getD 2 default),cmpU (a.getD 1 default) (b.getD 1 default),cmpU (a.getD 0 default) (b.getD 0 default)]
theorem zsA (x:UInt64):Tells P 326 [.val u64T x] (.val zl false):=by
 refine zd Tryz.func326 rfl rfl rfl (fun ext w hext=>?_);refine CQR ?_;refine qbv ?_;refine A0 zcQ ?_;refine qae ?_;exact zb rfl rfl (zdk (by simp[Fr.set]))
theorem zqY (x y:UInt64):Tells P 279 [.val u64T x,.val u64T y] (.val i64T (cmpU x y)):=by
 refine zd Tryz.func279 rfl rfl rfl (fun ext w hext=>?_);refine CQR ?_;refine qaL ?_;refine A0 (oCl (zsA _) rfl fn_326 yd) ?_;refine qaL ?_;refine A0 (oCl (zsA _) rfl fn_326 yd) ?_;refine qap ?_;refine CN ?_;refine Cg ?_;refine qc2 ?_;refine CN ?_;refine Cg ?_;refine CSQQR ?_;refine qav ?_;refine qbr ?_;refine zn (p:=x<y) rfl (by simp[IntL.toI,UInt64.lt_iff_toNat_lt]) (fun ht16=>?_) (fun ht16=>?_)
 ·
  refine qa3 ?_;exact zb rfl rfl (za rfl yad)
 refine CSQQR ?_;refine qav ?_;refine qcL ?_;refine zn (p:=y<x) rfl (by simp[IntL.toI,UInt64.lt_iff_toNat_lt]) (fun ht19=>?_) (fun ht19=>?_)
 ·
  refine qa3 ?_;exact zb rfl rfl (za rfl yad)
 refine CSQR ?_;refine qae ?_;exact zb rfl rfl (za rfl yad)
theorem zwm (a:Wide) (i:Int):Tells P 235 [.val zaC a,.val i64T i] (.val u64T (atW a i)):=by
 refine zd Tryz.func235 rfl rfl rfl (fun ext w hext=>?_);refine ze (d:=1) rfl zu (fun hin1=>?_);refine ze (d:=0) rfl zeN (fun ha=>?_);refine qah ?_;refine qap ?_;refine A0 zcy ?_;refine Sp (d:=6) (p:=i<0) (fun g6=>?_) (fun g6=>?_)
 ·
  refine qa7 ?_;refine qbm ?_;refine qau ?_;refine Ct ?_;refine qa3 ?_;exact zb rfl rfl (za rfl (by unfold atW;rw[ut (.inl g6)];rfl))
 refine qa7 ?_;refine qcV ?_;refine A1 zfb ?_;refine Sp (d:=9) (p:=4≤i) (fun g9=>?_) (fun g9=>?_)
 ·
  refine qau ?_;refine Ct ?_;refine qa3 ?_;exact zb rfl rfl (za rfl (by unfold atW;rw[ut (.inr g9)];rfl))
 refine qau ?_;refine Cg ?_;refine qc4 ?_;refine A0 (zD (i:=i.toNat) rfl rfl rfl yp zcA ya) ?_;refine A0 (zr rfl rfl rfl (Lens.elem (i:=i.toNat) ya u64T) zct) ?_;refine qae ?_;exact zb rfl rfl (za rfl (by unfold atW;rw[ur ya]))
theorem upW_ok (a:Wide) (n:Int):Tells P 176 [.val zaC a,.val i64T n] (.val zaC (upW a n)):=by
 refine zd Tryz.func176 rfl rfl rfl (fun ext w hext=>?_);refine ze (d:=1) rfl zu (fun hin1=>?_);refine ze (d:=0) rfl zeN (fun ha=>?_);refine qah ?_;refine qbd ?_;refine qbx ?_;refine qbr ?_;refine Cf (p:=n<0) (fun ht10=>?_) (fun ht10=>?_)
 ·
  refine qcE ?_;exact z7 rfl rfl rfl rfl zaO (by unfold upW;rw[ut ht10])
 refine qc2 ?_;refine qcs ?_;refine Cf (p:=256≤n) (fun ht13=>?_) (fun ht13=>?_)
 ·
  refine qbU ?_;refine CN ?_;exact z7 rfl rfl rfl rfl zaO (by unfold upW;rw[ur ht10,ut ht13])
 refine CSQR ?_;refine qbd ?_;refine CNQR ?_;refine qa7 ?_;refine qci ?_;refine qa7 ?_;refine qbK ?_;refine A0 aV ?_;refine qap ?_;refine CNB ?_;refine Lp (ι:=Nat) 3 (fun (k:Nat)=>((((((Fr.none).set 2 (.ptr 0 0)).set 4 (.ptr 1 0)).set 5 (.ptr 2 0)).set 6 (.val i64T (n/64))).set 7 (.val i64T (n%64))).set 19 (.val i64T (k:Int))) (fun (k:Nat)=>(((Hp.none).set 0 (.box 52 zaC a)).set 1 (.box 52 zaC zc6)).set 2 (.box 52 zaC (setN (upF a n) zc6 k))) (fun (k:Nat)=>k≤4) (fun (k:Nat)=>4-k) (0) (uf _) ?_;intro k hinv;refine qar ?_;refine Cf (p:=k<4) (fun ht20=>?_) (fun ht20=>?_)
 ·
  refine qaR ?_;refine qae ?_;refine zA [some 1,some 1,some 1,some 1,some 1,some 1,some 1,some 1,some 1,some 1,some 1,some 1,some 1,some 1,some 1,some 1,some 1,some 1,some 1,some 1,none] mixed yc ?_;refine X0 mV ?_;refine xr ?_;refine X0 mV ?_;refine X0 mV ?_;refine X0 zbT ?_;refine X0 (oCl (zwm _ _) rfl zvP ye) ?_;refine X0 mV ?_;refine X0 (zkY rfl rfl rfl ym rfl) ?_;refine xr ?_;refine X0 mV ?_;refine X0 mV ?_;refine X0 zbT ?_;refine X0 zbT ?_;refine X0 (oCl (zwm _ _) rfl zvP ye) ?_;refine X0 (zcm rfl rfl rfl ym rfl) ?_;refine X0 mV ?_;refine X0 zbT ?_;refine X0 (zcm rfl rfl rfl ym rfl) ?_;refine X0 (zsJ rfl rfl rfl) ?_;refine xt ?_;refine XK.e (x:=.idk) (fun fr' hfr kk H=>by exact zg rfl rfl rfl ((hfr 41 yc).trans rfl) rfl (Lens.elem (i:=k) ya u64T) zct ((hfr 40 yc).trans rfl) (zt H)) ?_;refine qbj ?_;refine zF (n:=2) (y:=setN (upF a n) zc6 (k+1)) rfl zmN ?_;exact Nx (k+1) ya ya
 obtain rfl:k=4:=ya;refine CE ?_;refine qcE ?_;exact z7 rfl rfl rfl rfl zaO (by unfold upW;rw[ur ht10,ur ht13];exact zpZ rfl)
theorem downW_ok (a:Wide) (n:Int):Tells P 243 [.val zaC a,.val i64T n] (.val zaC (downW a n)):=by
 refine zd Tryz.func243 rfl rfl rfl (fun ext w hext=>?_);refine ze (d:=1) rfl zu (fun hin1=>?_);refine ze (d:=0) rfl zeN (fun ha=>?_);refine qah ?_;refine qbd ?_;refine qbx ?_;refine qbr ?_;refine Cf (p:=n<0) (fun ht10=>?_) (fun ht10=>?_)
 ·
  refine qcE ?_;exact z7 rfl rfl rfl rfl zaO (by unfold downW;rw[ut ht10])
 refine qc2 ?_;refine qcs ?_;refine Cf (p:=256≤n) (fun ht13=>?_) (fun ht13=>?_)
 ·
  refine qbU ?_;refine CN ?_;exact z7 rfl rfl rfl rfl zaO (by unfold downW;rw[ur ht10,ut ht13])
 refine CSQR ?_;refine qbd ?_;refine CNQR ?_;refine qa7 ?_;refine qci ?_;refine qa7 ?_;refine qbK ?_;refine A0 aV ?_;refine qap ?_;refine CNB ?_;refine Lp (ι:=Nat) 3 (fun (k:Nat)=>((((((Fr.none).set 2 (.ptr 0 0)).set 4 (.ptr 1 0)).set 5 (.ptr 2 0)).set 6 (.val i64T (n/64))).set 7 (.val i64T (n%64))).set 19 (.val i64T (k:Int))) (fun (k:Nat)=>(((Hp.none).set 0 (.box 52 zaC a)).set 1 (.box 52 zaC zc6)).set 2 (.box 52 zaC (setN (downF a n) zc6 k))) (fun (k:Nat)=>k≤4) (fun (k:Nat)=>4-k) (0) (uf _) ?_;intro k hinv;refine qar ?_;refine Cf (p:=k<4) (fun ht20=>?_) (fun ht20=>?_)
 ·
  refine qaR ?_;refine qae ?_;refine zA [some 1,some 1,some 1,some 1,some 1,some 1,some 1,some 1,some 1,some 1,some 1,some 1,some 1,some 1,some 1,some 1,some 1,some 1,some 1,some 1,none] mixed yc ?_;refine X0 mV ?_;refine xr ?_;refine X0 mV ?_;refine X0 mV ?_;refine X0 zdl ?_;refine X0 (oCl (zwm _ _) rfl zvP ye) ?_;refine X0 mV ?_;refine X0 (zcm rfl rfl rfl ym rfl) ?_;refine xr ?_;refine X0 mV ?_;refine X0 mV ?_;refine X0 zdl ?_;refine X0 zdl ?_;refine X0 (oCl (zwm _ _) rfl zvP ye) ?_;refine X0 (zkY rfl rfl rfl ym rfl) ?_;refine X0 mV ?_;refine X0 zbT ?_;refine X0 (zkY rfl rfl rfl ym rfl) ?_;refine X0 (zsJ rfl rfl rfl) ?_;refine xt ?_;refine XK.e (x:=.idk) (fun fr' hfr kk H=>by exact zg rfl rfl rfl ((hfr 41 yc).trans rfl) rfl (Lens.elem (i:=k) ya u64T) zct ((hfr 40 yc).trans rfl) (zt H)) ?_;refine qbj ?_;refine zF (n:=2) (y:=setN (downF a n) zc6 (k+1)) rfl zmN ?_;exact Nx (k+1) ya ya
 obtain rfl:k=4:=ya;refine CE ?_;refine qcE ?_;exact z7 rfl rfl rfl rfl zaO (by unfold downW;rw[ur ht10,ur ht13];exact zpZ rfl)
theorem zs9 (a:Wide):Tells P 137 [.val zaC a] (.val idT (zfK a)):=by
 refine zd Tryz.func137 rfl rfl rfl (fun ext w hext=>?_);refine ze (d:=0) rfl zeN (fun ha=>?_);refine qah ?_;refine qaX ?_;refine CNQR ?_;refine qaX ?_;refine CNQQR ?_;refine qaH ?_;refine Lp (ι:=Nat) 3 (fun (k:Nat)=>((((Fr.none).set 1 (.ptr 0 0)).set 2 (.ptr 1 0)).set 3 (.ptr 2 0)).set 5 (.val i64T (k:Int))) (fun (k:Nat)=>(((Hp.none).set 0 (.box 52 zaC a)).set 1 (.box 49 idT zId)).set 2 (.box 49 idT (setN (byteF a) zId k))) (fun (k:Nat)=>k≤32) (fun (k:Nat)=>32-k) (0) (uf _) ?_;intro k hinv;refine qar ?_;refine Cf (p:=k<32) (fun ht6=>?_) (fun ht6=>?_)
 ·
  refine qaR ?_;refine qc3 ?_;refine qav ?_;refine qci ?_;refine A0 zbT ?_;refine A0 (zD (i:=3-k/8) rfl rfl rfl yp zcA ya) ?_;refine A0 (zr rfl rfl rfl (Lens.elem (i:=3-k/8) ya u64T) zct) ?_;refine qa7 ?_;refine qbK ?_;refine A0 zoA ?_;refine A0 zbT ?_;refine xf ?_;refine qch ?_;refine A0 (zD (i:=k) rfl rfl rfl yp ziK ya) ?_;refine zg rfl rfl rfl rfl rfl (Lens.elem (i:=k) ya u8T) ty_5 rfl ?_;refine qbt ?_;refine zF (n:=2) (y:=setN (byteF a) zId (k+1)) rfl zmN ?_;exact Nx (k+1) ya ya
 obtain rfl:k=32:=ya;refine CE ?_;refine CQR ?_;refine qbG ?_;refine qa5 ?_;refine CN ?_;exact z7 rfl rfl rfl rfl z6 (zpZ rfl)
theorem zvf (b:Ab.Id):Tells P 175 [.val idT b] (.val zaC (zlU b)):=by
 refine zd Tryz.func175 rfl rfl rfl (fun ext w hext=>?_);refine ze (d:=0) rfl zmk (fun hb=>?_);refine qah ?_;refine qbd ?_;refine CNQR ?_;refine qbd ?_;refine CNQQR ?_;refine qbG ?_;refine qaH ?_;refine Lp (ι:=Nat) 3 (fun (k:Nat)=>((((Fr.none).set 2 (.ptr 1 0)).set 3 (.ptr 2 0)).set 7 (.val idT b)).set 8 (.val i64T (k:Int))) (fun (k:Nat)=>((Hp.none).set 1 (.box 52 zaC zc6)).set 2 (.box 52 zaC (of32N b k))) (fun (k:Nat)=>k≤32) (fun (k:Nat)=>32-k) (0) (uf _) ?_;intro k hinv;refine qar ?_;refine Cf (p:=k<32) (fun ht9=>?_) (fun ht9=>?_)
 ·
  obtain⟨x,hx⟩:∃x,b[k]?=some x:=yB;refine qaR ?_;refine A0 (zhU rfl rfl rfl rfl ziK ty_5 yj) ?_;refine A0 aV ?_;refine qaL ?_;refine qci ?_;refine A0 zbT ?_;refine qc3 ?_;refine qav ?_;refine A0 (zD (i:=3-k/8) rfl rfl rfl yp zcA ya) ?_;refine A0 (zr rfl rfl rfl (Lens.elem (i:=3-k/8) ya u64T) zct) ?_;refine A0 (zkY rfl rfl rfl ym rfl) ?_;refine qa7 ?_;refine A0 (zfC rfl (zlL) (us_5) rfl) ?_;refine A0 (zsJ rfl rfl rfl) ?_;refine A0 (zD (i:=3-k/8) rfl rfl rfl yp zcA ya) ?_;refine zg rfl rfl rfl rfl rfl (Lens.elem (i:=3-k/8) ya u64T) zct rfl ?_;refine qbt ?_;refine zF (n:=2) (y:=of32N b (k+1)) rfl (by unfold of32N;rw[zeM];unfold of32S;rw[uq (l:=b),hx];rfl) ?_;exact Nx (k+1) ya ya
 obtain rfl:k=32:=ya;refine CE ?_;refine qcE ?_;exact z7 rfl rfl rfl rfl zaO (rfl)
theorem cmpW_ok (a b:Wide):Tells P 242 [.val zaC a,.val zaC b] (.val i64T (cmpW a b)):=by
 refine zd Tryz.func242 rfl rfl rfl (fun ext w hext=>?_);refine qaA ?_;refine qcv ?_;refine G0 (zD (i:=3) rfl rfl rfl yp zcA ya) ?_;refine G0 (zr rfl rfl rfl (Lens.elem (i:=3) ya u64T) zct) ?_;refine G0 (zD (i:=3) rfl rfl rfl yp zcA ya) ?_;refine G0 (zr rfl rfl rfl (Lens.elem (i:=3) ya u64T) zct) ?_;refine G0 (oCl (zqY _ _) rfl zvO ye) ?_;refine G0 (zD (i:=2) rfl rfl rfl yp zcA ya) ?_;refine G0 (zr rfl rfl rfl (Lens.elem (i:=2) ya u64T) zct) ?_;refine G0 (zD (i:=2) rfl rfl rfl yp zcA ya) ?_;refine G0 (zr rfl rfl rfl (Lens.elem (i:=2) ya u64T) zct) ?_;refine G0 (oCl (zqY _ _) rfl zvO ye) ?_;refine G0 (zD (i:=1) rfl rfl rfl yp zcA ya) ?_;refine G0 (zr rfl rfl rfl (Lens.elem (i:=1) ya u64T) zct) ?_;refine G0 (zD (i:=1) rfl rfl rfl yp zcA ya) ?_;refine G0 (zr rfl rfl rfl (Lens.elem (i:=1) ya u64T) zct) ?_;refine G0 (oCl (zqY _ _) rfl zvO ye) ?_;refine G0 (zD (i:=0) rfl rfl rfl yp zcA ya) ?_;refine G0 (zr rfl rfl rfl (Lens.elem (i:=0) ya u64T) zct) ?_;refine G0 (zD (i:=0) rfl rfl rfl yp zcA ya) ?_;refine G0 (zr rfl rfl rfl (Lens.elem (i:=0) ya u64T) zct) ?_;refine G0 (oCl (zqY _ _) rfl zvO ye) ?_;refine G0 (zL (T:=i64T) (xs:=[_,_,_,_]) rfl zcj zgr ⟨rfl,rfl,rfl,rfl,rfl,rfl,rfl,rfl,trivial⟩ rfl rfl) ?_;refine G0 (oCl (orInt _) rfl fn_278 yd) ?_;refine qbs ?_;exact zb rfl rfl (za rfl rfl)
def ofW (n:UInt64):Wide:=[n,0,0,0]
def tgtM (bits:UInt32):UInt64:=z2 (IntL.toI u32T (bits&&&16777215))
def tgtE (bits:UInt32):Int:=IntL.toI u32T (zor bits 24)
def zbG (bits:UInt32):Bool:=decide (3≤tgtE bits∧tgtE bits≤32∧32768≤(tgtM bits).toNat∧(tgtM bits).toNat<8388608)
def tgtW (bits:UInt32):Wide:=if zbG bits=true then upW (ofW (tgtM bits)) (8*(tgtE bits-3)) else zc6
theorem zve (n:UInt64):Tells P 177 [.val u64T n] (.val zaC (ofW n)):=by
 refine zd Tryz.func177 rfl rfl rfl (fun ext w hext=>?_);refine CQR ?_;refine qbd ?_;refine CNQR ?_;refine qa7 ?_;refine A0 (g_buildP (T:=u64T) (xs:=[_]) rfl zcA zpP yE rfl rfl) ?_;refine qaz ?_;refine CN ?_;exact z7 rfl rfl rfl rfl zaO (rfl)
theorem zmE (bits:UInt32):Tells P 113 [.val u32T bits] (.tup2 (.val zaC (tgtW bits)) (.val zl (zbG bits))):=by
 have he0:0≤tgtE bits:=Int.natCast_nonneg _;have heL:tgtE bits<4294967296:=by have:(zor bits 24).toNat<4294967296:=(zor bits 24).toNat_lt;show((zor bits 24).toNat:Int)<4294967296;omega
 refine zd Tryz.func113 rfl rfl rfl (fun ext w hext=>?_);refine CQR ?_;refine qbd ?_;refine qaL ?_;refine A0 (znu rfl rfl rfl ym rfl) ?_;refine A0 (znx rfl (ui_3) (us_53) rfl (zas (by show -9223372036854775808≤tgtE bits∧tgtE bits≤9223372036854775807;omega))) ?_;refine zi (d:=8) (y:=tgtE bits) rfl rfl ?_;refine qa7 ?_;refine A0 (zk1 rfl rfl rfl) ?_;refine A0 (zfC rfl (zlL) (us_53) rfl) ?_;refine zi (d:=11) (y:=tgtM bits) rfl rfl ?_;refine A0 aV ?_;refine qap ?_;refine A0 zcy ?_;refine Sp (d:=13) (p:=tgtE bits<3) (fun g13=>?_) (fun g13=>?_)
 ·
  refine qa7 ?_;refine qcA ?_;refine qaf ?_;refine qbm ?_;refine qau ?_;refine Ct ?_;refine qbU ?_;refine qae ?_;exact zp rfl rfl (zs rfl rfl zaO yaE) (zQ (za rfl ybf))
 refine qa7 ?_;refine qcV ?_;refine A1 zbH ?_;refine Sp (d:=16) (p:=32<tgtE bits) (fun g16=>?_) (fun g16=>?_)
 ·
  refine qaf ?_;refine qcA ?_;refine qau ?_;refine Ct ?_;refine qbU ?_;refine qae ?_;exact zp rfl rfl (zs rfl rfl zaO yaE) (zQ (za rfl ybf))
 refine qaf ?_;refine qcV ?_;refine A1 zcy ?_;refine zo (d:=20) (p:=(tgtM bits).toNat<32768) rfl (by rw[uo];show((tgtM bits).toNat:Int)<(32768:Int)↔_;omega) (fun g20=>?_) (fun g20=>?_)
 ·
  refine qaf ?_;refine qbm ?_;refine qau ?_;refine Ct ?_;refine qbU ?_;refine qae ?_;exact zp rfl rfl (zs rfl rfl zaO yaE) (zQ (za rfl ybf))
 refine qaf ?_;refine qcV ?_;refine A1 zfb ?_;refine zo (d:=24) (p:=8388608≤(tgtM bits).toNat) rfl (by rw[uo];show(8388608:Int)≤((tgtM bits).toNat:Int)↔_;omega) (fun g24=>?_) (fun g24=>?_)
 ·
  refine qau ?_;refine Ct ?_;refine qbU ?_;refine qae ?_;exact zp rfl rfl (zs rfl rfl zaO yaE) (zQ (za rfl ybf))
 refine qau ?_;refine Cg ?_;refine qc4 ?_;refine A0 (oCl (zve _) rfl zvQ yd) ?_;refine qcO ?_;refine A0 zoA ?_;refine A0 (oCl (upW_ok _ _) rfl fn_176 ye) ?_;refine qaz ?_;refine qae ?_;exact zp rfl rfl (zs rfl rfl zaO (by unfold tgtW;rw[ut ybc])) (zQ (za rfl (by unfold zbG;symm;apply ui;omega)))
theorem ext_Add64:ExtAt P 276 add64E:=⟨_,rfl,rfl,rfl,rfl,rfl⟩
theorem ext_Sub64:ExtAt P 359 sub64E:=⟨_,rfl,rfl,rfl,rfl,rfl⟩
def zcr (f g:UInt64→UInt64→UInt64→UInt64) (a b:Wide) (k:Nat):Wide×UInt64:=(List.range k).foldl (fun x i=>(x.1.set i (f (x.1.getD i default) (b.getD i default) x.2),g (x.1.getD i default) (b.getD i default) x.2)) (a,0)
theorem zeo {f g:UInt64→UInt64→UInt64→UInt64} {a b:Wide} {k:Nat}:zcr f g a b (k+1)=((zcr f g a b k).1.set k (f ((zcr f g a b k).1.getD k default) (b.getD k default) (zcr f g a b k).2),g ((zcr f g a b k).1.getD k default) (b.getD k default) (zcr f g a b k).2):=by unfold zcr;rw[zeM]
def addW (a b:Wide):Wide:=(zcr addS addC a b 4).1
def addOk (a b:Wide):Bool:=decide ((zcr addS addC a b 4).2.toNat=0)
def subW (a b:Wide):Wide:=(zcr subS subC a b 4).1
def subOk (a b:Wide):Bool:=decide ((zcr subS subC a b 4).2.toNat=0)
theorem zuq (a b:Wide):Tells P 275 [.val zaC a,.val zaC b,.clo 276 []] (.tup2 (.val zaC (zcr addS addC a b 4).1) (.val zl (decide ((zcr addS addC a b 4).2.toNat=0)))):=by
 refine zd Tryz.func275 rfl rfl rfl (fun ext w hext=>?_);refine qaA ?_;refine qbd ?_;refine qaj ?_;refine qap ?_;refine CNB ?_;refine Lp (ι:=Nat) 3 (fun (k:Nat)=>((((((Fr.none).set 2 (.clo 276 [])).set 3 (.ptr 0 0)).set 4 (.ptr 1 0)).set 6 (.ptr 2 0)).set 8 (.val u64T (zcr addS addC a b k).2)).set 10 (.val i64T (k:Int))) (fun (k:Nat)=>(((Hp.none).set 0 (.box 52 zaC (zcr addS addC a b k).1)).set 1 (.box 52 zaC b)).set 2 (.box 52 zaC zc6)) (fun (k:Nat)=>k≤4∧(zcr addS addC a b k).2.toNat≤1) (fun (k:Nat)=>4-k) (0) (⟨uf _,uf 1⟩) ?_;intro k hinv;refine qar ?_;refine Cf (p:=k<4) (fun ht11=>?_) (fun ht11=>?_)
 ·
  refine qaR ?_;refine qae ?_;refine zA [some 1,some 1,some 1,some 1,some 1,some 1,some 1,some 1,some 1,some 1,some 1,some 1,some 1000001,some 1,none,some 1] mixed yc ?_;refine X0 mV ?_;refine X0 mC ?_;refine X0 mV ?_;refine xt ?_;refine xu ?_;refine X0 mV ?_;refine xt ?_;refine xu ?_;refine X0 mV ?_;refine X0 (g_ext3 rfl ext_Add64 rfl rfl rfl rfl (fun P w=>Go.Ab.run_add64 P w _ _ hinv.2)) ?_;refine X0 mX ?_;refine X0 yS ?_;refine XK.ga yR rfl rfl rfl ?_;refine xt ?_;refine XK.e (x:=.idk) (fun fr' hfr kk H=>by exact zg rfl rfl rfl ((hfr 26 yc).trans rfl) rfl (Lens.elem (i:=k) ya u64T) zct ((hfr 24 yc).trans rfl) (zt H)) ?_;refine X0 aX ?_;refine qbj ?_;refine zF (n:=0) (y:=(zcr addS addC a b (k+1)).1) rfl (by rw[zeo]) ?_;refine zi (d:=8) (y:=(zcr addS addC a b (k+1)).2) rfl (by rw[zeo]) ?_;exact Nx (k+1) (⟨by omega,by rw[zeo];exact zre _ _ hinv.2⟩) ya
 obtain rfl:k=4:=ya;refine CE ?_;refine CQR ?_;refine qbH ?_;refine qa7 ?_;refine A0 zaH ?_;refine qaz ?_;refine qae ?_;exact zp rfl rfl (zs rfl rfl zaO (rfl)) (zQ (za rfl (by rw[uo];show((_:Nat):Int)=(0:Int)↔_;omega)))
theorem zup (a b:Wide):Tells P 275 [.val zaC a,.val zaC b,.clo 359 []] (.tup2 (.val zaC (zcr subS subC a b 4).1) (.val zl (decide ((zcr subS subC a b 4).2.toNat=0)))):=by
 refine zd Tryz.func275 rfl rfl rfl (fun ext w hext=>?_);refine qaA ?_;refine qbd ?_;refine qaj ?_;refine qap ?_;refine CNB ?_;refine Lp (ι:=Nat) 3 (fun (k:Nat)=>((((((Fr.none).set 2 (.clo 359 [])).set 3 (.ptr 0 0)).set 4 (.ptr 1 0)).set 6 (.ptr 2 0)).set 8 (.val u64T (zcr subS subC a b k).2)).set 10 (.val i64T (k:Int))) (fun (k:Nat)=>(((Hp.none).set 0 (.box 52 zaC (zcr subS subC a b k).1)).set 1 (.box 52 zaC b)).set 2 (.box 52 zaC zc6)) (fun (k:Nat)=>k≤4∧(zcr subS subC a b k).2.toNat≤1) (fun (k:Nat)=>4-k) (0) (⟨uf _,uf 1⟩) ?_;intro k hinv;refine qar ?_;refine Cf (p:=k<4) (fun ht11=>?_) (fun ht11=>?_)
 ·
  refine qaR ?_;refine qae ?_;refine zA [some 1,some 1,some 1,some 1,some 1,some 1,some 1,some 1,some 1,some 1,some 1,some 1,some 1000001,some 1,none,some 1] mixed yc ?_;refine X0 mV ?_;refine X0 mC ?_;refine X0 mV ?_;refine xt ?_;refine xu ?_;refine X0 mV ?_;refine xt ?_;refine xu ?_;refine X0 mV ?_;refine X0 (g_ext3 rfl ext_Sub64 rfl rfl rfl rfl (fun P w=>Go.Ab.run_sub64 P w _ _ hinv.2)) ?_;refine X0 mX ?_;refine X0 yS ?_;refine XK.ga yR rfl rfl rfl ?_;refine xt ?_;refine XK.e (x:=.idk) (fun fr' hfr kk H=>by exact zg rfl rfl rfl ((hfr 26 yc).trans rfl) rfl (Lens.elem (i:=k) ya u64T) zct ((hfr 24 yc).trans rfl) (zt H)) ?_;refine X0 aX ?_;refine qbj ?_;refine zF (n:=0) (y:=(zcr subS subC a b (k+1)).1) rfl (by rw[zeo]) ?_;refine zi (d:=8) (y:=(zcr subS subC a b (k+1)).2) rfl (by rw[zeo]) ?_;exact Nx (k+1) (⟨by omega,by rw[zeo];exact subC_le _ _ _⟩) ya
 obtain rfl:k=4:=ya;refine CE ?_;refine CQR ?_;refine qbH ?_;refine qa7 ?_;refine A0 zaH ?_;refine qaz ?_;refine qae ?_;exact zp rfl rfl (zs rfl rfl zaO (rfl)) (zQ (za rfl (by rw[uo];show((_:Nat):Int)=(0:Int)↔_;omega)))
theorem zuA (a b:Wide):Tells P 238 [.val zaC a,.val zaC b] (.tup2 (.val zaC (addW a b)) (.val zl (addOk a b))):=by
 refine zd Tryz.func238 rfl rfl rfl (fun ext w hext=>?_);refine qaA ?_;refine qbd ?_;refine qaj ?_;refine qbH ?_;refine qbH ?_;refine A0 (oCl (zuq a b) rfl fn_275 ⟨yn,yn,(by first|exact zdI (Cs:=[]) rfl fn_276 yF trivial rfl (fun x=>no_contract_of_math_bits_Add64)|exact zdH (Cs:=[]) rfl fn_276 yF trivial rfl (fun x y=>no_contract_of_math_bits_Add64)|exact zdJ rfl),trivial⟩) ?_;refine qab ?_;refine qaz ?_;refine qae ?_;exact zp rfl rfl (zs rfl rfl zaO (rfl)) (zQ (za rfl (rfl)))
theorem subW_ok (a b:Wide):Tells P 325 [.val zaC a,.val zaC b] (.tup2 (.val zaC (subW a b)) (.val zl (subOk a b))):=by
 refine zd Tryz.func325 rfl rfl rfl (fun ext w hext=>?_);refine qaA ?_;refine qbd ?_;refine qaj ?_;refine qbH ?_;refine qbH ?_;refine A0 (oCl (zup a b) rfl fn_275 ⟨yn,yn,(by first|exact zdI (Cs:=[]) rfl fn_359 yF trivial rfl (fun x=>no_contract_of_math_bits_Sub64)|exact zdH (Cs:=[]) rfl fn_359 yF trivial rfl (fun x y=>no_contract_of_math_bits_Sub64)|exact zdJ rfl),trivial⟩) ?_;refine qab ?_;refine qaz ?_;refine qae ?_;exact zp rfl rfl (zs rfl rfl zaO (rfl)) (zQ (za rfl (rfl)))
def zaJ (n:Nat):Nat:=if n=0 then 0 else Nat.log2 n+1
theorem ztb {n s:Nat} (h:2^s≤n):zaJ n=s+zaJ (n/2^s):=by
  have hp:=Nat.two_pow_pos s;have h1:1≤n/2^s:=(Nat.le_div_iff_mul_le hp).2 ya;unfold zaJ;rw[ur ya,ur ya];obtain⟨k,hk⟩:∃k,k=Nat.log2 (n/2^s):=⟨_,rfl⟩;have h2:=(Nat.log2_eq_iff (n:=n/2^s) (k:=k) ya).1 hk.symm;have h3:Nat.log2 n=k+s:=by
    rw[Nat.log2_eq_iff ya]
    constructor
    · rw[Nat.pow_add];exact(Nat.le_div_iff_mul_le hp).1 h2.1
    rw[show k+s+1=k+1+s by omega,Nat.pow_add];exact(Nat.div_lt_iff_lt_mul hp).1 h2.2
  rw[h3,←hk];omega
theorem zgG {n s:Nat} (h:n<2^s):zaJ n≤s:=by
  unfold zaJ
  split
  · omega
  rename_i h0
  have:=(Nat.log2_lt h0).2 h
  omega
theorem zbh (x:UInt64) {m:Nat} (h:m≤64):(zaY x m).toNat=x.toNat/2^m:=by
  have hx:x.toNat<18446744073709551616:=x.toNat_lt;unfold zaY;rw[UInt64.toNat_ofNat_of_lt' (Nat.lt_of_le_of_lt (Nat.div_le_self _ _) hx),Nat.min_eq_left h]
theorem u8_small {x:UInt64} (h:x.toNat<256):(zch (IntL.toI u64T x)).toNat=x.toNat:=by
  unfold zch;show(UInt8.ofNat ((x.toNat:Int)%256).toNat).toNat=x.toNat
  rw[UInt8.toNat_ofNat_of_lt' ybp];omega
theorem len_small {x:UInt64} (h:x.toNat<256):IntL.toI u8T (UInt8.ofNat (zaJ (zch (IntL.toI u64T x)).toNat))=zaJ x.toNat:=by
  have:=zgG (s:=8) (n:=x.toNat) ya
  rw[u8_small h];show((UInt8.ofNat (zaJ x.toNat)).toNat:Int)=_;rw[UInt8.toNat_ofNat_of_lt' ybp]
theorem zhJ {x y:UInt64} {b:Int} {s:Nat} (hy:y.toNat<256) (hx:zaJ x.toNat=s+zaJ y.toNat) (hs:s≤64) (hb:b=(s:Int)):IntKind.i64.wrap (b+IntKind.i64.wrap (IntL.toI u8T (UInt8.ofNat (zaJ (zch (IntL.toI u64T y)).toNat))))=(zaJ x.toNat:Nat):=by
  have:=zgG (s:=8) (n:=y.toNat) ya
  rw[len_small hy,zas (n:=((zaJ y.toNat:Nat):Int)) ya,zas ya,hx,hb];omega
theorem zdv {x:UInt64} {s:Nat} (hs:s≤64) (h:2^s≤x.toNat):zaJ x.toNat=s+zaJ (zaY x s).toNat:=by
  rw[zbh x hs];exact ztb h
theorem zvs (x:UInt64):Tells P 224 [.val u64T x] (.val i64T (zaJ x.toNat:Nat)):=by
 refine zd Tryz.func224 rfl rfl rfl (fun ext w hext=>?_);refine qcQ ?_;refine qcs ?_;refine zn (p:=4294967296≤(x).toNat) rfl (by rw[uo];show(4294967296:Int)≤((x).toNat:Int)↔_;omega) (fun ht4=>?_) (fun ht4=>?_)
 ·
  refine qaE ?_;refine xf ?_;refine qc3 ?_;refine qap ?_;refine qcs ?_;refine zn (p:=65536≤(zaY x 32).toNat) rfl (by rw[uo];show(65536:Int)≤((zaY x 32).toNat:Int)↔_;omega) (fun ht8=>?_) (fun ht8=>?_)
  ·
   refine qaE ?_;refine xf ?_;refine qc3 ?_;refine qb2 ?_;refine qap ?_;refine qcs ?_;refine zn (p:=256≤(zaY (zaY x 32) 16).toNat) rfl (by rw[uo];show(256:Int)≤((zaY (zaY x 32) 16).toNat:Int)↔_;omega) (fun ht14=>?_) (fun ht14=>?_)
   ·
    refine qaE ?_;refine xf ?_;refine qc3 ?_;refine qb2 ?_;refine qbv ?_;refine qch ?_;refine A0 (zdQ (fun n=>UInt8.ofNat (zaJ n)) rfl rfl st_9 yc) ?_;refine qaP ?_;exact zb rfl rfl (za rfl (zhJ (y:=zaY (zaY (zaY x 32) 16) 8) (s:=56) yv (by rw[zdv (s:=32) yr ht4,zdv (s:=16) yr ht8,zdv (s:=8) yr ht14];omega) yr (by rfl)))
   refine CSQR ?_;refine qav ?_;refine qch ?_;refine A0 (zdQ (fun n=>UInt8.ofNat (zaJ n)) rfl rfl st_9 yc) ?_;refine qaP ?_;exact zb rfl rfl (za rfl (zhJ (y:=zaY (zaY x 32) 16) (s:=48) yv (by rw[zdv (s:=32) yr ht4,zdv (s:=16) yr ht8];omega) yr (by rfl)))
  refine qc2 ?_;refine qcs ?_;refine zn (p:=256≤(zaY x 32).toNat) rfl (by rw[uo];show(256:Int)≤((zaY x 32).toNat:Int)↔_;omega) (fun ht14=>?_) (fun ht14=>?_)
  ·
   refine qaE ?_;refine xf ?_;refine qc3 ?_;refine qb2 ?_;refine qbv ?_;refine qch ?_;refine A0 (zdQ (fun n=>UInt8.ofNat (zaJ n)) rfl rfl st_9 yc) ?_;refine qaP ?_;exact zb rfl rfl (za rfl (zhJ (y:=zaY (zaY x 32) 8) (s:=40) yv (by rw[zdv (s:=32) yr ht4,zdv (s:=8) yr ht14];omega) yr (by rfl)))
  refine CSQR ?_;refine qav ?_;refine qch ?_;refine A0 (zdQ (fun n=>UInt8.ofNat (zaJ n)) rfl rfl st_9 yc) ?_;refine qaP ?_;exact zb rfl rfl (za rfl (zhJ (y:=zaY x 32) (s:=32) yv (zdv (s:=32) yr ht4) yr (by rfl)))
 refine qc2 ?_;refine qcs ?_;refine zn (p:=65536≤(x).toNat) rfl (by rw[uo];show(65536:Int)≤((x).toNat:Int)↔_;omega) (fun ht8=>?_) (fun ht8=>?_)
 ·
  refine qaE ?_;refine xf ?_;refine qc3 ?_;refine qb2 ?_;refine qap ?_;refine qcs ?_;refine zn (p:=256≤(zaY x 16).toNat) rfl (by rw[uo];show(256:Int)≤((zaY x 16).toNat:Int)↔_;omega) (fun ht14=>?_) (fun ht14=>?_)
  ·
   refine qaE ?_;refine xf ?_;refine qc3 ?_;refine qb2 ?_;refine qbv ?_;refine qch ?_;refine A0 (zdQ (fun n=>UInt8.ofNat (zaJ n)) rfl rfl st_9 yc) ?_;refine qaP ?_;exact zb rfl rfl (za rfl (zhJ (y:=zaY (zaY x 16) 8) (s:=24) yv (by rw[zdv (s:=16) yr ht8,zdv (s:=8) yr ht14];omega) yr (by rfl)))
  refine CSQR ?_;refine qav ?_;refine qch ?_;refine A0 (zdQ (fun n=>UInt8.ofNat (zaJ n)) rfl rfl st_9 yc) ?_;refine qaP ?_;exact zb rfl rfl (za rfl (zhJ (y:=zaY x 16) (s:=16) yv (zdv (s:=16) yr ht8) yr (by rfl)))
 refine qc2 ?_;refine qcs ?_;refine zn (p:=256≤(x).toNat) rfl (by rw[uo];show(256:Int)≤((x).toNat:Int)↔_;omega) (fun ht14=>?_) (fun ht14=>?_)
 ·
  refine qaE ?_;refine xf ?_;refine qc3 ?_;refine qb2 ?_;refine qbv ?_;refine qch ?_;refine A0 (zdQ (fun n=>UInt8.ofNat (zaJ n)) rfl rfl st_9 yc) ?_;refine qaP ?_;exact zb rfl rfl (za rfl (zhJ (y:=zaY x 8) (s:=8) yv (zdv (s:=8) yr ht14) yr (by rfl)))
 refine CSQR ?_;refine qav ?_;refine qch ?_;refine A0 (zdQ (fun n=>UInt8.ofNat (zaJ n)) rfl rfl st_9 yc) ?_;refine qaP ?_;exact zb rfl rfl (za rfl (zhJ (y:=x) (s:=0) yv ((Nat.zero_add _).symm) yr (by rfl)))
theorem lenU_ok (x:UInt64):Tells P 169 [.val u64T x] (.val i64T (zaJ x.toNat:Nat)):=by
 refine zd Tryz.func169 rfl rfl rfl (fun ext w hext=>?_);refine CQR ?_;refine qaQ ?_;refine Cg ?_;refine qc4 ?_;refine A0 (oCl (zvs _) rfl fn_224 yd) ?_;refine qae ?_;exact zb rfl rfl (za rfl rfl)
end Go.Proofs.YtikaeepohlkjdaaGreat
