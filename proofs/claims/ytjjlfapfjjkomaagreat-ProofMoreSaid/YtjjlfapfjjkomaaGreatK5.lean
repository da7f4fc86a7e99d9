/- Parts of the proof: the layer that reads Go values as data, and what the functions of the program tell. -/
import Derived.Test.YtjjlfapfjjkomaaGreatK4
set_option linter.unusedVariables false
set_option linter.unusedSimpArgs false
set_option maxRecDepth 20000
namespace Go.Proofs.YtjjlfapfjjkomaaGreat
open Go.Ab Go.RowKit
theorem equalId (l m:List Ab.Id):Tells P 53 [.val (bsl idT) l,.val (bsl idT) m] (.val boolT (decide (l=m))):=by
 refine zc Tryz.func53 rfl rfl rfl (fun ext w hext=>?_)
 refine ze (d:=0) rfl zk (fun hsl0=>?_)
 refine ze (d:=1) rfl zk (fun hsl1=>?_)
 refine CQR ?_;refine qai ?_;refine qbE ?_;refine qaw ?_;refine qbE ?_;refine qaS ?_;refine Cf (p:=¬l.length=m.length) (fun ht10=>?_) (fun ht10=>?_)
 ·
  refine qa5 ?_
  exact zb rfl rfl (za rfl (decide_eq_false (fun e=>ht10 (by rw [e]))).symm)
 ·
  refine qbv ?_;refine qbE ?_;refine qa8 ?_;refine Lp (ι:=Nat) 0 (fun (k:Nat)=>((((Fr.none).set 0 (.val (bsl idT) l)).set 1 (.val (bsl idT) m)).set 12 (.val i64T (l.length:Int))).set 13 (.val i64T (k:Int))) (fun (k:Nat)=>Hp.none) (fun (k:Nat)=>k≤l.length∧l.take k=m.take k) (fun (k:Nat)=>l.length-k) (0) (⟨Nat.zero_le _,by simp⟩) ?_
  intro k hinv
  refine qaj ?_;refine Cf (p:=k<l.length) (fun ht14=>?_) (fun ht14=>?_)
  ·
   obtain ⟨x,hx⟩:∃x,l[k]?=some x:=⟨_,List.getElem?_eq_getElem ht14⟩
   obtain ⟨y,hy⟩:∃y,m[k]?=some y:=⟨_,List.getElem?_eq_getElem (by omega)⟩
   refine qaP ?_;refine qbN ?_;refine G0 mV ?_;refine G0 mV ?_;refine G0 (za0 rfl rfl rfl zcM (by assumption)) ?_;refine G0 (zg rfl rfl zI) ?_;refine G0 mV ?_;refine G0 mV ?_;refine G0 (za0 rfl rfl rfl zcM (by assumption)) ?_;refine G0 (zg rfl rfl zI) ?_;refine G0 (g_neqS rfl rfl rfl (eqt_46)) ?_;refine GK.nil ?_;refine zr (p:=¬x=y) rfl (by simp) (fun ht24=>?_) (fun ht24=>?_)
   ·
    refine qa5 ?_
    exact zb rfl rfl (za rfl (decide_eq_false (ne_of_at hx hy ht24)).symm)
   ·
    refine qbh ?_
    exact Nx (k+1) (⟨by omega,zdj hx hy hinv.2 (by simpa using ht24)⟩) (by omega)
  ·
   refine CE ?_;refine qa5 ?_
   exact zb rfl rfl (za rfl (decide_eq_true (by have h:=hinv.2;rw [List.take_of_length_le (by omega),List.take_of_length_le (by omega)] at h;exact h)).symm)
theorem equalIn (l m:List In):Tells P 169 [.val (bsl inT) l,.val (bsl inT) m] (.val boolT (decide (l=m))):=by
 refine zc Tryz.func169 rfl rfl rfl (fun ext w hext=>?_)
 refine ze (d:=0) rfl zk (fun hsl0=>?_)
 refine ze (d:=1) rfl zk (fun hsl1=>?_)
 refine CQR ?_;refine qai ?_;refine A0 (zR rfl rfl zeu) ?_;refine qaw ?_;refine A0 (zR rfl rfl zeu) ?_;refine qaS ?_;refine Cf (p:=¬l.length=m.length) (fun ht10=>?_) (fun ht10=>?_)
 ·
  refine qa5 ?_
  exact zb rfl rfl (za rfl (decide_eq_false (fun e=>ht10 (by rw [e]))).symm)
 ·
  refine qbv ?_;refine A0 (zR rfl rfl zeu) ?_;refine qa8 ?_;refine Lp (ι:=Nat) 0 (fun (k:Nat)=>((((Fr.none).set 0 (.val (bsl inT) l)).set 1 (.val (bsl inT) m)).set 12 (.val i64T (l.length:Int))).set 13 (.val i64T (k:Int))) (fun (k:Nat)=>Hp.none) (fun (k:Nat)=>k≤l.length∧l.take k=m.take k) (fun (k:Nat)=>l.length-k) (0) (⟨Nat.zero_le _,by simp⟩) ?_
  intro k hinv
  refine qaj ?_;refine Cf (p:=k<l.length) (fun ht14=>?_) (fun ht14=>?_)
  ·
   obtain ⟨x,hx⟩:∃x,l[k]?=some x:=⟨_,List.getElem?_eq_getElem ht14⟩
   obtain ⟨y,hy⟩:∃y,m[k]?=some y:=⟨_,List.getElem?_eq_getElem (by omega)⟩
   refine qaP ?_;refine qbN ?_;refine qbO ?_;refine qbO ?_;refine G0 (g_neqS rfl rfl rfl (eqt_218)) ?_;refine GK.nil ?_;refine zr (p:=¬x=y) rfl (by simp) (fun ht24=>?_) (fun ht24=>?_)
   ·
    refine qa5 ?_
    exact zb rfl rfl (za rfl (decide_eq_false (ne_of_at hx hy ht24)).symm)
   ·
    refine qbh ?_
    exact Nx (k+1) (⟨by omega,zdj hx hy hinv.2 (by simpa using ht24)⟩) (by omega)
  ·
   refine CE ?_;refine qa5 ?_
   exact zb rfl rfl (za rfl (decide_eq_true (by have h:=hinv.2;rw [List.take_of_length_le (by omega),List.take_of_length_le (by omega)] at h;exact h)).symm)
theorem equalOut (l m:List Out):Tells P 170 [.val (bsl outT) l,.val (bsl outT) m] (.val boolT (decide (l=m))):=by
 refine zc Tryz.func170 rfl rfl rfl (fun ext w hext=>?_)
 refine ze (d:=0) rfl zk (fun hsl0=>?_)
 refine ze (d:=1) rfl zk (fun hsl1=>?_)
 refine CQR ?_;refine qai ?_;refine A0 (zR rfl rfl zds) ?_;refine qaw ?_;refine A0 (zR rfl rfl zds) ?_;refine qaS ?_;refine Cf (p:=¬l.length=m.length) (fun ht10=>?_) (fun ht10=>?_)
 ·
  refine qa5 ?_
  exact zb rfl rfl (za rfl (decide_eq_false (fun e=>ht10 (by rw [e]))).symm)
 ·
  refine qbv ?_;refine A0 (zR rfl rfl zds) ?_;refine qa8 ?_;refine Lp (ι:=Nat) 0 (fun (k:Nat)=>((((Fr.none).set 0 (.val (bsl outT) l)).set 1 (.val (bsl outT) m)).set 12 (.val i64T (l.length:Int))).set 13 (.val i64T (k:Int))) (fun (k:Nat)=>Hp.none) (fun (k:Nat)=>k≤l.length∧l.take k=m.take k) (fun (k:Nat)=>l.length-k) (0) (⟨Nat.zero_le _,by simp⟩) ?_
  intro k hinv
  refine qaj ?_;refine Cf (p:=k<l.length) (fun ht14=>?_) (fun ht14=>?_)
  ·
   obtain ⟨x,hx⟩:∃x,l[k]?=some x:=⟨_,List.getElem?_eq_getElem ht14⟩
   obtain ⟨y,hy⟩:∃y,m[k]?=some y:=⟨_,List.getElem?_eq_getElem (by omega)⟩
   refine qaP ?_;refine qbN ?_;refine G0 mV ?_;refine G0 mV ?_;refine G0 (za0 rfl rfl rfl sl_131 (by assumption)) ?_;refine G0 (zg rfl rfl zdY) ?_;refine G0 mV ?_;refine G0 mV ?_;refine G0 (za0 rfl rfl rfl sl_131 (by assumption)) ?_;refine G0 (zg rfl rfl zdY) ?_;refine G0 (g_neqS rfl rfl rfl (eqt_221)) ?_;refine GK.nil ?_;refine zr (p:=¬x=y) rfl (by simp) (fun ht24=>?_) (fun ht24=>?_)
   ·
    refine qa5 ?_
    exact zb rfl rfl (za rfl (decide_eq_false (ne_of_at hx hy ht24)).symm)
   ·
    refine qbh ?_
    exact Nx (k+1) (⟨by omega,zdj hx hy hinv.2 (by simpa using ht24)⟩) (by omega)
  ·
   refine CE ?_;refine qa5 ?_
   exact zb rfl rfl (za rfl (decide_eq_true (by have h:=hinv.2;rw [List.take_of_length_le (by omega),List.take_of_length_le (by omega)] at h;exact h)).symm)
theorem cloneId (l:List Ab.Id) (hl:l.length*32≤140737488355328∧l.length≤9223372036854775807):Tells P 74 [.val (bsl idT) l] (.fresh 46 idT l):=by
 refine zc Tryz.func74 rfl rfl rfl (fun ext w hext=>?_)
 refine ze (d:=0) rfl zk (fun hsl0=>?_)
 refine qao ?_;refine qaT ?_;refine zfg rfl rfl rfl rfl rfl zba (fun c4 hc4=>?_)
 refine CN ?_;refine zr (p:=c4=true) rfl (by simp) (fun ht4=>?_) (fun ht4=>?_)
 ·
  obtain rfl:=hc4 ht4
  refine qao ?_;refine CN ?_
  exact zb rfl rfl (zm rfl)
 ·
  refine CSQR ?_;refine zbo (T:=idT) (xs:=[]) rfl rfl rfl rfl zcM zdC trivial rfl rfl ?_;refine qaw ?_;refine zD rfl rfl rfl rfl rfl rfl rfl zdC (by simpa using hl) ?_;refine qbk ?_
  exact zb rfl rfl (zf rfl rfl (by simp))
theorem cloneTotal (l:List Total) (hl:l.length*72≤140737488355328∧l.length≤9223372036854775807):Tells P 166 [.val (bsl totalT) l] (.fresh 164 totalT l):=by
 refine zc Tryz.func166 rfl rfl rfl (fun ext w hext=>?_)
 refine ze (d:=0) rfl zk (fun hsl0=>?_)
 refine qao ?_;refine qaT ?_;refine zfg rfl rfl rfl rfl rfl isl_62 (fun c4 hc4=>?_)
 refine CN ?_;refine zr (p:=c4=true) rfl (by simp) (fun ht4=>?_) (fun ht4=>?_)
 ·
  obtain rfl:=hc4 ht4
  refine qao ?_;refine CN ?_
  exact zb rfl rfl (zm rfl)
 ·
  refine CSQR ?_;refine zbo (T:=totalT) (xs:=[]) rfl rfl rfl rfl sl_62 row_62 trivial rfl rfl ?_;refine qaw ?_;refine zD rfl rfl rfl rfl rfl rfl rfl row_62 (by simpa using hl) ?_;refine qbk ?_
  exact zb rfl rfl (zf rfl rfl (by simp))
theorem cloneIn (l:List In) (hl:l.length*40≤140737488355328∧l.length≤9223372036854775807):Tells P 181 [.val (bsl inT) l] (.fresh 218 inT l):=by
 refine zc Tryz.func181 rfl rfl rfl (fun ext w hext=>?_)
 refine ze (d:=0) rfl zk (fun hsl0=>?_)
 refine qao ?_;refine qaT ?_;refine zfg rfl rfl rfl rfl rfl zeu (fun c4 hc4=>?_)
 refine CN ?_;refine zr (p:=c4=true) rfl (by simp) (fun ht4=>?_) (fun ht4=>?_)
 ·
  obtain rfl:=hc4 ht4
  refine qao ?_;refine CN ?_
  exact zb rfl rfl (zm rfl)
 ·
  refine CSQR ?_;refine zbo (T:=inT) (xs:=[]) rfl rfl rfl rfl sl_130 row_130 trivial rfl rfl ?_;refine qaw ?_;refine zD rfl rfl rfl rfl rfl rfl rfl row_130 (by simpa using hl) ?_;refine qbk ?_
  exact zb rfl rfl (zf rfl rfl (by simp))
theorem cloneOut (l:List Out) (hl:l.length*16≤140737488355328∧l.length≤9223372036854775807):Tells P 182 [.val (bsl outT) l] (.fresh 221 outT l):=by
 refine zc Tryz.func182 rfl rfl rfl (fun ext w hext=>?_)
 refine ze (d:=0) rfl zk (fun hsl0=>?_)
 refine qao ?_;refine qaT ?_;refine zfg rfl rfl rfl rfl rfl zds (fun c4 hc4=>?_)
 refine CN ?_;refine zr (p:=c4=true) rfl (by simp) (fun ht4=>?_) (fun ht4=>?_)
 ·
  obtain rfl:=hc4 ht4
  refine qao ?_;refine CN ?_
  exact zb rfl rfl (zm rfl)
 ·
  refine CSQR ?_;refine zbo (T:=outT) (xs:=[]) rfl rfl rfl rfl sl_131 row_131 trivial rfl rfl ?_;refine qaw ?_;refine zD rfl rfl rfl rfl rfl rfl rfl row_131 (by simpa using hl) ?_;refine qbk ?_
  exact zb rfl rfl (zf rfl rfl (by simp))
theorem cloneTx (l:List Tx) (hl:l.length*48≤140737488355328∧l.length≤9223372036854775807):Tells P 239 [.val (bsl txT) l] (.fresh 133 txT l):=by
 refine zc Tryz.func239 rfl rfl rfl (fun ext w hext=>?_)
 refine ze (d:=0) rfl zk (fun hsl0=>?_)
 refine qao ?_;refine qaT ?_;refine zfg rfl rfl rfl rfl rfl isl_56 (fun c4 hc4=>?_)
 refine CN ?_;refine zr (p:=c4=true) rfl (by simp) (fun ht4=>?_) (fun ht4=>?_)
 ·
  obtain rfl:=hc4 ht4
  refine qao ?_;refine CN ?_
  exact zb rfl rfl (zm rfl)
 ·
  refine CSQR ?_;refine zbo (T:=txT) (xs:=[]) rfl rfl rfl rfl sl_56 row_56 trivial rfl rfl ?_;refine qaw ?_;refine zD rfl rfl rfl rfl rfl rfl rfl row_56 (by simpa using hl) ?_;refine qbk ?_
  exact zb rfl rfl (zf rfl rfl (by simp))
theorem equalFTx (l m:List Tx):Tells P 111 [.val (bsl txT) l,.val (bsl txT) m,.fn2 P txT txT boolT (fun x y=>decide (x=y))] (.val boolT (decide (l=m))):=by
 refine zc Tryz.func111 rfl rfl rfl (fun ext w hext=>?_)
 refine ze (d:=0) rfl zk (fun hsl0=>?_)
 refine ze (d:=1) rfl zk (fun hsl1=>?_)
 refine CQR ?_;refine qai ?_;refine qbS ?_;refine qaw ?_;refine qbS ?_;refine qaS ?_;refine Cf (p:=¬l.length=m.length) (fun ht14=>?_) (fun ht14=>?_)
 ·
  refine qa5 ?_
  exact zb rfl rfl (za rfl (decide_eq_false (fun e=>ht14 (by rw [e]))).symm)
 ·
  refine qbv ?_;refine qbS ?_;refine qa8 ?_;refine Lp (ι:=Nat) 0 (fun (k:Nat)=>((((((Fr.none).set 0 (.val (bsl txT) l)).set 1 (.val (bsl txT) m)).set 2 (.fn2 P txT txT boolT (fun x y=>decide (x=y)))).set 15 (.val (bsl txT) l)).set 16 (.val i64T (l.length:Int))).set 17 (.val i64T (k:Int))) (fun (k:Nat)=>Hp.none) (fun (k:Nat)=>k≤l.length∧l.take k=m.take k) (fun (k:Nat)=>l.length-k) (0) (⟨Nat.zero_le _,by simp⟩) ?_
  intro k hinv
  refine qaj ?_;refine Cf (p:=k<l.length) (fun ht18=>?_) (fun ht18=>?_)
  ·
   obtain ⟨x,hx⟩:∃x,l[k]?=some x:=⟨_,List.getElem?_eq_getElem ht18⟩
   obtain ⟨y,hy⟩:∃y,m[k]?=some y:=⟨_,List.getElem?_eq_getElem (by omega)⟩
   refine qaP ?_;refine qaQ ?_;refine A0 aV ?_;refine qbz ?_;refine CNQR ?_;refine qak ?_;refine qaQ ?_;refine qbz ?_;refine CNQR ?_;refine A0 mH ?_;refine qbH ?_;refine qbH ?_;refine A0 (g_callf2 rfl rfl (zd rfl) (zd rfl)) ?_;refine qaN ?_;refine zr (p:=¬x=y) rfl (by simp) (fun ht30=>?_) (fun ht30=>?_)
   ·
    refine qa5 ?_
    exact zb rfl rfl (za rfl (decide_eq_false (ne_of_at hx hy ht30)).symm)
   ·
    refine qbh ?_
    exact Nx (k+1) (⟨by omega,zdj hx hy hinv.2 (by simpa using ht30)⟩) (by omega)
  ·
   refine CE ?_;refine qa5 ?_
   exact zb rfl rfl (za rfl (decide_eq_true (by have h:=hinv.2;rw [List.take_of_length_le (by omega),List.take_of_length_le (by omega)] at h;exact h)).symm)
theorem coinSame_ok (a b:Tx):Tells P 112 [.val txT a,.val txT b] (.val boolT (decide (a=b))):=by
 refine zc Tryz.func112 rfl rfl rfl (fun ext w hext=>?_)
 refine qa6 ?_;refine qar ?_;refine A0 (oFp zbv) ?_;refine A0 (oLb zc4 zdZ) ?_;refine A0 (oFp zbv) ?_;refine A0 (oLb zc4 zdZ) ?_;refine A0 (oCl (equalIn _ _) rfl fn_169 ⟨(zd rfl),(zd rfl),trivial⟩) ?_;refine Sp (d:=9) (p:=a.ins=b.ins) (fun g9=>?_) (fun g9=>?_)
 ·
  refine qaw ?_;refine qb6 ?_;refine qb6 ?_;refine A1 (oCl (equalOut _ _) rfl fn_170 ⟨(zd rfl),(zd rfl),trivial⟩) ?_;refine qa3 ?_
  exact zb rfl rfl (za rfl (by rw [decide_eq_decide];exact ⟨fun h=>by cases a;cases b;simp_all,fun h=>by rw [h]⟩))
 ·
  refine qbJ ?_;refine qaC ?_;refine qa3 ?_
  exact zb rfl rfl (za rfl (by symm;apply decide_eq_false;intro h;exact g9 (by rw [h])))
set_option maxRecDepth 20000
def halfN (n:Nat):Nat:=2^(bitLen (n-1)-1)
theorem half_pos (n:Nat):0<halfN n:=Nat.two_pow_pos _
theorem half_lt {n:Nat} (h:2≤n):halfN n<n:=by
  unfold halfN bitLen
  rw [if_neg (by omega),Nat.add_sub_cancel]
  have:=Nat.log2_self_le (n:=n-1) (by omega)
  omega
theorem half_eq {n:Nat} (h:2≤n) (hn:n<4398046511104):IntKind.i64.wrap (1*2^(min (IntL.toI i64T (((bitLen (u64OfI (IntL.toI i64T ((n:Int)-1))).toNat:Nat):Int)-1)).toNat 64))=(halfN n:Nat):=by
  have e1:(u64OfI (IntL.toI i64T ((n:Int)-1))).toNat=n-1:=by
    unfold u64OfI
    show (UInt64.ofNat (((n:Int)-1)%18446744073709551616).toNat).toNat=n-1
    rw [UInt64.toNat_ofNat_of_lt' (by show _<18446744073709551616;omega)];omega
  have hb:=zeN (s:=42) (n:=n-1) (by omega)
  have hp:2^(bitLen (n-1)-1)≤2^42:=Nat.pow_le_pow_right (by decide) (by omega)
  rw [e1]
  have e2:(IntL.toI i64T (((bitLen (n-1):Nat):Int)-1)).toNat=bitLen (n-1)-1:=by
    show (((bitLen (n-1):Nat):Int)-1).toNat=_;omega
  rw [e2,Nat.min_eq_left (by omega),Int.one_mul]
  have e3:(2:Int)^(bitLen (n-1)-1)=((2^(bitLen (n-1)-1):Nat):Int):=by simp
  rw [e3]
  show _=((2^(bitLen (n-1)-1):Nat):Int)
  obtain ⟨q,hq⟩:∃q,q=2^(bitLen (n-1)-1):=⟨_,rfl⟩
  rw [←hq] at hp ⊢
  exact zaa (by omega)
theorem bitLen_one {n:Nat} (h:2≤n) (hn:n<4398046511104):1≤bitLen (u64OfI (IntL.toI i64T ((n:Int)-1))).toNat∧bitLen (u64OfI (IntL.toI i64T ((n:Int)-1))).toNat≤42:=by
  have e1:(u64OfI (IntL.toI i64T ((n:Int)-1))).toNat=n-1:=by
    unfold u64OfI
    show (UInt64.ofNat (((n:Int)-1)%18446744073709551616).toNat).toNat=n-1
    rw [UInt64.toNat_ofNat_of_lt' (by show _<18446744073709551616;omega)];omega
  rw [e1]
  refine ⟨?_,zeN (by omega)⟩
  unfold bitLen
  rw [if_neg (by omega)];omega
theorem half_ok (n:Nat) (h:2≤n) (hn:n<4398046511104):Tells P 221 [.val i64T (n:Int)] (.val i64T (halfN n:Nat)):=by
 obtain ⟨hb1,hb2⟩:=bitLen_one h hn
 refine zc Tryz.func221 rfl rfl rfl (fun ext w hext=>?_)
 refine ze (d:=0) rfl zn (fun hin0=>?_)
 refine qbI ?_;refine A0 zaT ?_;refine A0 (zdH rfl (ui_135) (us_3) rfl) ?_;refine A0 (oCl (lenU_ok _) rfl fn_155 ⟨(zd rfl),trivial⟩) ?_;refine A0 zaT ?_;refine A0 (g_shlI rfl rfl rfl (by first|decide|omega|(show (0:Int)≤((_:Nat):Int)-1;omega)|(simp [IntL.toI];done)|(simp [IntL.toI];omega)) rfl) ?_;refine qac ?_
 exact zb rfl rfl (za rfl (half_eq h hn))
def leafOf (b:List UInt8):Ab.Id:=shaSum ([0]++b)
theorem leaf_ok (b:List UInt8) (hb:b.length≤1000000):Tells P 223 [.val (bsl u8T) b] (.val idT (leafOf b)):=by
 refine zc Tryz.func223 rfl rfl rfl (fun ext w hext=>?_)
 refine ze (d:=0) rfl zk (fun hsl0=>?_)
 refine qby ?_;refine A0 (zt (T:=u8T) (xs:=[_]) rfl zar zaZ ⟨rfl,rfl,trivial⟩ rfl rfl) ?_;refine aw_lend (S:=bsl u8T) (d:=3) rfl ?_;refine qaw ?_;refine A0 (zt (T:=(bsl u8T)) (xs:=[_,_]) rfl zeF zdB ⟨rfl,rfl,rfl,rfl,trivial⟩ rfl rfl) ?_;refine A0 (oCl (of_ok [[0],b] (by simp;omega)) rfl fn_123 ⟨(zd rfl),trivial⟩) ?_;refine qaq ?_
 exact z6 rfl rfl rfl rfl zI (by unfold leafOf;simp)
def nodeText (a b:Ab.Id):List UInt8:=[1]++a++b
def nodeOf (a b:Ab.Id):Ab.Id:=shaSum (nodeText a b)
theorem treeText_ok (a b:Ab.Id) (ha:a.length=32) (hb:b.length=32):Tells P 270 [.val (arrT 2 (by decide) idT) [a,b]] (.fresh 5 u8T (nodeText a b)):=by
 refine zc Tryz.func270 rfl rfl rfl (fun ext w hext=>?_)
 refine qaf ?_;refine A0 aL ?_;refine CNQ ?_;refine zdm (d:=1) rfl rfl (Lens.self _) ?_
 have e0:([a,b]:List Ab.Id)[0]?=some a:=rfl
 have e1:([a,b]:List Ab.Id)[1]?=some b:=rfl
 refine zE [some 1,some 1,some 1,some 1,some 1,some 1,none,some 1] mixed (by decide +kernel) ?_;refine X0 (g_lend (T:=sl u8T) (S:=bsl u8T) (zt (T:=u8T) (xs:=[_]) rfl zar zaZ ⟨rfl,rfl,trivial⟩ rfl rfl)) ?_;refine X0 (g_ia_ra (i:=0) rfl rfl rfl (by first|omega|rfl) ar_295 (by assumption)) ?_;refine X0 (zbz rfl rfl zdp rfl rfl) ?_;refine X0 (g_ia_ra (i:=1) rfl rfl rfl (by first|omega|rfl) ar_295 (by assumption)) ?_;refine X0 (zbz rfl rfl zdp rfl rfl) ?_;refine X0 (zt (T:=(bsl u8T)) (xs:=[_,_,_]) rfl zeF zdB ⟨rfl,rfl,rfl,rfl,rfl,rfl,trivial⟩ rfl rfl) ?_
 refine XK.e (fun fr' hfr kk H=>by exact zaA (zeL [[1],a,b] (by simp;omega)) rfl fn_143 ⟨(zd ((hfr 8 (by decide +kernel)).trans rfl)),trivial⟩ rfl rfl rfl (zK H)) ?_;refine X0 aO ?_;refine XK.nil' ?_
 exact zb rfl rfl (zf rfl rfl (by unfold nodeText;simp))
theorem node_ok (a b:Ab.Id):Tells P 222 [.val idT a,.val idT b] (.val idT (nodeOf a b)):=by
 refine zc Tryz.func222 rfl rfl rfl (fun ext w hext=>?_)
 refine ze (d:=0) rfl fact_idL (fun ha=>?_)
 refine ze (d:=1) rfl fact_idL (fun hb=>?_)
 refine qa6 ?_;refine qaD ?_;refine CNQR ?_;refine A0 (oLs rfl rfl rfl zI) ?_;refine A0 (oLs rfl rfl rfl zI) ?_;refine A0 (g_buildA (T:=idT) (xs:=[_,_]) rfl ar_295 ze_295 ⟨rfl,rfl,rfl,rfl,trivial⟩ rfl) ?_;refine A0 (oCl (zp (treeText_ok a b ha hb)) rfl fn_270 ⟨(zd rfl),trivial⟩) ?_;refine A0 (oCl (sum_ok (nodeText a b) (by unfold nodeText;simp;omega)) rfl fn_163 ⟨(zd rfl),trivial⟩) ?_;refine qaq ?_
 exact z6 rfl rfl rfl rfl zI (rfl)
set_option maxRecDepth 20000
def rootOf (l:List Ab.Id):Ab.Id:=if l.length=0 then shaSum [2] else if h1:l.length≤1 then l.headD zId else nodeOf (rootOf (l.take (halfN l.length))) (rootOf (l.drop (halfN l.length)))
termination_by l.length
decreasing_by
  · have:=half_lt (n:=l.length) (by omega);simp;omega
  · have:=half_pos l.length;simp;omega
theorem root_ok (l:List Ab.Id) (hl:l.length<4398046511104):Tells P 159 [.val (bsl idT) l] (.val idT (rootOf l)):=by
 refine zc Tryz.func159 rfl rfl rfl (fun ext w hext=>?_)
 refine ze (d:=0) rfl zk (fun hsl0=>?_)
 refine CQR ?_;refine qaD ?_;refine qaT ?_;refine qbE ?_;refine CNB ?_;refine CQR ?_;refine A0 zbf ?_;refine qac ?_;refine Cf (p:=l.length=0) (fun ht6=>?_) (fun ht6=>?_)
 ·
  refine CQR ?_;refine A0 (zt (T:=u8T) (xs:=[_]) rfl zar zaZ ⟨rfl,rfl,trivial⟩ rfl rfl) ?_;refine A0 (oCl (sum_ok [2] (by decide)) rfl fn_163 ⟨(zd rfl),trivial⟩) ?_;refine qaq ?_
  exact z6 rfl rfl rfl rfl zI (by rw [rootOf,if_pos ht6])
 ·
  refine CQR ?_;refine A0 zbf ?_;refine qac ?_;refine Cf (p:=l.length=1) (fun ht10=>?_) (fun ht10=>?_)
  ·
   obtain ⟨x,hx⟩:∃x,l[0]?=some x:=⟨_,List.getElem?_eq_getElem (by omega)⟩
   refine qa1 ?_;refine A0 (zu (i:=0) rfl rfl rfl (by omega) zcM (by assumption)) ?_;refine A0 (zg rfl rfl zI) ?_;refine qaq ?_
   exact z6 rfl rfl rfl rfl zI (by rw [rootOf,if_neg ht6,dif_pos (by omega)];cases l with|nil=>simp at ht6|cons a m=>simp at hx ⊢;exact hx.symm)
  ·
   have hp:=half_pos l.length
   have hh:=half_lt (n:=l.length) (by omega)
   refine CS ?_;refine CI ?_;refine qa1 ?_;refine qbE ?_;refine A0 (oCl (half_ok l.length (by omega) (by omega)) rfl fn_221 ⟨(zd rfl),trivial⟩) ?_;refine qaL ?_;refine zE [some 1,some 1,some 1,some 1,some 1,some 1,some 1,some 1,some 1,none] mixed (by decide +kernel) ?_;refine qbT ?_;refine X0 (by first|exact zbj rfl rfl rfl (by first|rfl|omega) zcM|exact zdG rfl rfl rfl zcM (by first|assumption|omega|(simp;omega))) ?_;refine X0 (oCl (root_ok (l.take (halfN l.length)) (by simp;omega)) rfl fn_159 ⟨(zd rfl),trivial⟩) ?_;refine qbT ?_
   refine X0 (zen rfl rfl rfl zcM (by first|assumption|omega|(simp;omega))) ?_;refine X0 (oCl (root_ok (l.drop (halfN l.length)) (by simp;omega)) rfl fn_159 ⟨(zd rfl),trivial⟩) ?_;refine X0 (oCl (node_ok _ _) rfl fn_222 ⟨(zd rfl),(zd rfl),trivial⟩) ?_;refine XK.e (x:=.idk) (fun fr' hfr kk H=>by exact zh rfl rfl rfl ((hfr 2 (by decide +kernel)).trans rfl) rfl (Lens.self _) zI ((hfr 26 (by decide +kernel)).trans rfl) (zK H)) ?_;refine XK.nil' ?_
   exact z6 rfl rfl rfl rfl zI (by conv=>rhs;rw [rootOf,if_neg ht6,dif_neg (by omega)])
termination_by l.length
decreasing_by
  all_goals (simp;omega)
set_option maxRecDepth 20000
theorem fact_total {t:Total} {ρ:Nat→Value} {B:Nat→Prop} {U N:Nat→Prop} {w:World} {v:Value} (hv:(AV.val totalT t).rel ρ B U N w v):t.h.length=32∧t.w.length=4:=by
  obtain ⟨cs,⟨_,_,_,h1,_,_,_,h2,_⟩,_⟩:=hv
  exact ⟨h1.1,h2.1⟩
def totalText (t:Total):List UInt8:=[t.h,bytesW t.w,numBytes (u64OfI (IntL.toI i64T t.n)) 4].flatten
theorem totalText_len {t:Total} (h:t.h.length=32):(totalText t).length=68:=by unfold totalText;simp [h,zc1,zH]
def joinT (a b:Total):Total:=⟨shaSum ([3]++totalText a++totalText b),addW a.w b.w,IntKind.i64.wrap (a.n+b.n)⟩
def leafT (id:Ab.Id) (w:Wide):Total:=⟨id,w,1⟩
def linkLeaf (id:Ab.Id):Ab.Id:=leafOf id
def linkRoot (l:List Ab.Id):Ab.Id:=rootOf (l.map linkLeaf)
def txRoot (l:List Tx):Ab.Id:=rootOf (l.map idOf)
theorem totalText_ok (t:Total) (hh:t.h.length=32):Tells P 230 [.val totalT t] (.fresh 5 u8T (totalText t)):=by
 refine zc Tryz.func230 rfl rfl rfl (fun ext w hext=>?_)
 refine qaf ?_;refine A0 aL ?_;refine CNQR ?_;refine A0 (oFp fd_164_1) ?_;refine A0 (oLb zeP zam) ?_;refine A0 (oCl (bytesW_ok _) rfl fn_142 ⟨(zd rfl),trivial⟩) ?_;refine qaD ?_;refine zh rfl rfl rfl rfl rfl (Lens.self _) zI rfl ?_;refine CNQ ?_;refine zdm (d:=1) rfl rfl (Lens.self _) ?_;refine zdm (d:=3) rfl rfl (Lens.self _) ?_
 have hbl:=zc1 t.w
 have hn:=zH (u64OfI (IntL.toI i64T t.n)) 4
 refine zE [some 1,some 1,some 1,some 1,some 1,some 1,some 1,some 1,none,some 1] mixed (by decide +kernel) ?_;refine X0 (oFr fd_164_0 zeQ) ?_;refine X0 (zbz rfl rfl zdp rfl rfl) ?_;refine X0 (zbz rfl rfl zdp rfl rfl) ?_;refine X0 (oFr zfc zeg) ?_;refine X0 (zg rfl rfl ty_3) ?_;refine X0 (zdH rfl (ui_47) (us_3) rfl) ?_;refine X0 (g_lend (T:=sl u8T) (S:=bsl u8T) (zeo (zp (zeO _ 4 (by decide))) rfl fn_144 ⟨(zd rfl),(zd rfl),trivial⟩ rfl)) ?_
 refine X0 (zt (T:=(bsl u8T)) (xs:=[_,_,_]) rfl zeF zdB ⟨rfl,rfl,rfl,rfl,rfl,rfl,trivial⟩ rfl rfl) ?_;refine XK.e (fun fr' hfr kk H=>by exact zaA (zeL [t.h,bytesW t.w,numBytes (u64OfI (IntL.toI i64T t.n)) 4] (by simp [hh,hbl,hn])) rfl fn_143 ⟨(zd ((hfr 14 (by decide +kernel)).trans rfl)),trivial⟩ rfl rfl rfl (zK H)) ?_;refine X0 aO ?_;refine XK.nil' ?_
 exact zb rfl rfl (zf rfl rfl rfl)
theorem mleaf_ok (id:Ab.Id) (w:Wide):Tells P 167 [.val idT id,.val wideT w] (.val totalT (leafT id w)):=by
 refine zc Tryz.func167 rfl rfl rfl (fun ext w hext=>?_)
 refine qa6 ?_;refine zw ze_164 rfl rfl rfl rfl ?_;refine CNQR ?_;refine A0 (oLs rfl rfl rfl zI) ?_;refine qba ?_;refine A0 (zC rfl ze_164 bd_164 (.cons fd_164_0 zeQ zI rfl (.cons fd_164_1 zeP zam rfl (.cons zfc zeg ty_3 rfl .nil))) rfl) ?_;refine qbp ?_;refine CN ?_
 exact z6 rfl rfl rfl rfl zcO (rfl)
theorem join_ok (a b:Total):Tells P 165 [.val totalT a,.val totalT b] (.val totalT (joinT a b)):=by
 refine zc Tryz.func165 rfl rfl rfl (fun ext w hext=>?_)
 refine ze (d:=0) rfl fact_total (fun ha=>?_)
 refine ze (d:=1) rfl fact_total (fun hb=>?_)
 refine qa6 ?_;refine zw ze_164 rfl rfl rfl rfl ?_;refine CNQR ?_;refine A0 (oFp fd_164_1) ?_;refine A0 (oLb zeP zam) ?_;refine A0 (oFp fd_164_1) ?_;refine A0 (oLb zeP zam) ?_;refine A0 (oCl (addW_ok _ _) rfl fn_229 ⟨(zd rfl),(zd rfl),trivial⟩) ?_;refine A0 mX ?_;refine A0 (by first|exact zN rfl rfl|exact zM rfl rfl) ?_;refine A0 (by first|exact zQ rfl rfl|exact zP rfl rfl) ?_;refine qaB ?_;refine qal ?_;refine qaL ?_
 refine zE [some 1,some 1,some 1,some 1,some 1,some 1,some 1,some 1,some 1,some 1,some 1,some 1,some 1,some 1,none] mixed (by decide +kernel) ?_;refine X0 (g_lend (T:=sl u8T) (S:=bsl u8T) (zt (T:=u8T) (xs:=[_]) rfl zar zaZ ⟨rfl,rfl,trivial⟩ rfl rfl)) ?_;refine X0 (oLs rfl rfl rfl zcO) ?_;refine X0 (g_lend (T:=sl u8T) (S:=bsl u8T) (zeo (zp (totalText_ok a ha.1)) rfl fn_230 ⟨(zd rfl),trivial⟩ rfl)) ?_;refine X0 (oLs rfl rfl rfl zcO) ?_;refine X0 (g_lend (T:=sl u8T) (S:=bsl u8T) (zeo (zp (totalText_ok b hb.1)) rfl fn_230 ⟨(zd rfl),trivial⟩ rfl)) ?_
 refine X0 (zt (T:=(bsl u8T)) (xs:=[_,_,_]) rfl zeF zdB ⟨rfl,rfl,rfl,rfl,rfl,rfl,trivial⟩ rfl rfl) ?_;refine X0 (oCl (of_ok [[3],totalText a,totalText b] (by simp [totalText_len ha.1,totalText_len hb.1])) rfl fn_123 ⟨(zd rfl),trivial⟩) ?_;refine X0 (oLs rfl rfl rfl zam) ?_;refine X0 (oFp zfc) ?_;refine X0 (oLb zeg ty_3) ?_;refine X0 (oFp zfc) ?_;refine X0 (oLb zeg ty_3) ?_;refine X0 zby ?_;refine X0 (zC rfl ze_164 bd_164 (.cons fd_164_0 zeQ zI rfl (.cons fd_164_1 zeP zam rfl (.cons zfc zeg ty_3 rfl .nil))) rfl) ?_
 refine XK.e (x:=.idk) (fun fr' hfr kk H=>by exact zh rfl rfl rfl ((hfr 4 (by decide +kernel)).trans rfl) rfl (Lens.self _) zcO ((hfr 28 (by decide +kernel)).trans rfl) (zK H)) ?_;refine XK.nil' ?_
 exact z6 rfl rfl rfl rfl zcO (by unfold joinT;simp)
theorem linkLeaf_ok (id:Ab.Id):Tells P 161 [.val idT id] (.val idT (linkLeaf id)):=by
 refine zc Tryz.func161 rfl rfl rfl (fun ext w hext=>?_)
 refine ze (d:=0) rfl fact_idL (fun hid=>?_)
 refine qaf ?_;refine qaD ?_;refine CNQ ?_;refine zdm (d:=1) rfl rfl (Lens.self _) ?_;refine CR ?_;refine A0 (zbz rfl rfl zdp rfl rfl) ?_;refine A0 (oCl (leaf_ok id (by omega)) rfl fn_223 ⟨(zd rfl),trivial⟩) ?_;refine qaq ?_
 exact z6 rfl rfl rfl rfl zI (rfl)
theorem mapped_ok (l:List Ab.Id) (f:Ab.Id→Ab.Id) (hl:l.length≤4000000000000):Tells P 160 [.val (bsl idT) l,.fn1 P idT idT f] (.fresh 46 idT (l.map f)):=by
 refine zc Tryz.func160 rfl rfl rfl (fun ext w hext=>?_)
 refine ze (d:=0) rfl zk (fun hsl0=>?_)
 refine qaX ?_;refine A0 aL ?_;refine qaT ?_;refine qbE ?_;refine qa8 ?_;refine zed (T:=idT) (d:=5) 46 rfl ?_;refine Lp (ι:=Nat) 1 (fun (k:Nat)=>((((((Fr.none).set 0 (.val (bsl idT) l)).set 1 (.fn1 P idT idT f)).set 5 (.own 0)).set 8 (.val (bsl idT) l)).set 9 (.val i64T (l.length:Int))).set 10 (.val i64T (k:Int))) (fun (k:Nat)=>(Hp.none).set 0 (.row 46 idT ((l.take k).map f))) (fun (k:Nat)=>k≤l.length) (fun (k:Nat)=>l.length-k) (0) (Nat.zero_le _) ?_
 intro k hinv
 refine qaj ?_;refine Cf (p:=k<l.length) (fun ht11=>?_) (fun ht11=>?_)
 ·
  obtain ⟨x,hx⟩:∃x,l[k]?=some x:=⟨_,List.getElem?_eq_getElem ht11⟩
  refine CSQBQR ?_;refine A0 (za0 rfl rfl rfl zcM (by assumption)) ?_;refine A0 (zg rfl rfl zI) ?_;refine qaD ?_;refine zh rfl rfl rfl rfl rfl (Lens.self _) zI rfl ?_;refine CNR ?_;refine A0 mO ?_;refine A0 mF ?_;refine A0 (oLs rfl rfl rfl zI) ?_;refine A0 (ze8 rfl rfl (zd rfl)) ?_;refine A0 (zt (T:=idT) (xs:=[_]) rfl zcM zdC ⟨rfl,rfl,trivial⟩ rfl rfl) ?_;refine zD rfl rfl rfl rfl rfl rfl rfl zdC (by simp;omega) ?_;refine A0 aO ?_;refine qaW ?_;refine zaG 2 0 3 rfl rfl rfl rfl rfl rfl ?_
  refine zA (n:=0) (y:=(l.take (k+1)).map f) rfl (by rw [List.take_add_one,hx];simp) ?_
  exact Nx (k+1) (by omega) (by omega)
 ·
  refine qaA ?_
  exact zb rfl rfl (zf rfl rfl (by rw [List.take_of_length_le (by omega)]))
theorem linkRoot_ok (l:List Ab.Id) (hl:l.length≤4000000000000):Tells P 106 [.val (bsl idT) l] (.val idT (linkRoot l)):=by
 refine zc Tryz.func106 rfl rfl rfl (fun ext w hext=>?_)
 refine ze (d:=0) rfl zk (fun hsl0=>?_)
 refine qby ?_;refine qaw ?_;refine A0 (oCl (zp (mapped_ok l linkLeaf hl)) rfl fn_160 ⟨(zd rfl),(by first|exact zcH (Cs:=[]) rfl fn_161 (by intro n hn;cases hn) trivial rfl (fun x=>linkLeaf_ok x)|exact zcG (Cs:=[]) rfl fn_161 (by intro n hn;cases hn) trivial rfl (fun x y=>linkLeaf_ok x)|exact zcI rfl),trivial⟩) ?_;refine A0 (oCl (root_ok (l.map linkLeaf) (by simp;omega)) rfl fn_159 ⟨(zd rfl),trivial⟩) ?_;refine qaq ?_
 exact z6 rfl rfl rfl rfl zI (rfl)
theorem txRoot_ok (l:List Tx) (hl:l.length≤4000000000000):Tells P 107 [.val (bsl txT) l] (.val idT (txRoot l)):=by
 refine zc Tryz.func107 rfl rfl rfl (fun ext w hext=>?_)
 refine ze (d:=0) rfl zk (fun hsl0=>?_)
 refine qby ?_;refine A0 aL ?_;refine qaT ?_;refine qbS ?_;refine qa8 ?_;refine zed (T:=idT) (d:=3) 46 rfl ?_;refine Lp (ι:=Nat) 2 (fun (k:Nat)=>(((((Fr.none).set 2 (.ptr 0 0)).set 3 (.own 1)).set 6 (.val (bsl txT) l)).set 7 (.val i64T (l.length:Int))).set 8 (.val i64T (k:Int))) (fun (k:Nat)=>((Hp.none).set 0 (.box 46 idT zId)).set 1 (.row 46 idT ((l.take k).map idOf))) (fun (k:Nat)=>k≤l.length) (fun (k:Nat)=>l.length-k) (0) (Nat.zero_le _) ?_
 intro k hinv
 refine qaj ?_;refine Cf (p:=k<l.length) (fun ht9=>?_) (fun ht9=>?_)
 ·
  obtain ⟨x,hx⟩:∃x,l[k]?=some x:=⟨_,List.getElem?_eq_getElem ht9⟩
  refine CSQBQR ?_;refine qaQ ?_;refine qbz ?_;refine CNR ?_;refine A0 mO ?_;refine qbH ?_;refine A0 (oCl (id_ok _) rfl fn_162 ⟨(zd rfl),trivial⟩) ?_;refine A0 (zt (T:=idT) (xs:=[_]) rfl zcM zdC ⟨rfl,rfl,trivial⟩ rfl rfl) ?_;refine zD rfl rfl rfl rfl rfl rfl rfl zdC (by simp;omega) ?_;refine A0 aO ?_;refine qaW ?_;refine zaG 3 1 4 rfl rfl rfl rfl rfl rfl ?_;refine zA (n:=1) (y:=(l.take (k+1)).map idOf) rfl (by rw [List.take_add_one,hx];simp) ?_
  exact Nx (k+1) (by omega) (by omega)
 ·
  obtain rfl:k=l.length:=(by omega)
  refine aw_pub (d:=3) rfl rfl ?_;refine zi (d:=3) (y:=l.map idOf) rfl (by rw [List.take_length]) ?_;refine CE ?_;refine qa1 ?_;refine A0 (oCl (root_ok (l.map idOf) (by simp;omega)) rfl fn_159 ⟨(zd rfl),trivial⟩) ?_;refine qaq ?_
  exact z6 rfl rfl rfl rfl zI (rfl)
set_option maxRecDepth 20000
def rootFrom:List Total→Total→Total
  | [],x=>x
  | y::r,x=>rootFrom r (joinT y x)
def mmrRoot (p:List Total):Total:=match p.reverse with
  | []=>⟨shaSum [4],zWide,0⟩
  | x::r=>rootFrom r x
def pushR:List Total→Total→List Total
  | [],x=>[x]
  | y::r,x=>if y.n=x.n then pushR r (joinT y x) else x::y::r
def mmrAppend (p:List Total) (leaf:Total):List Total:=(pushR p.reverse leaf).reverse
theorem mmrRoot_nil:mmrRoot []=⟨shaSum [4],zWide,0⟩:=rfl
theorem mmrRoot_eq {p:List Total} {x:Total} {n:Nat} (hn:p.length=n+1) (hx:p[n]?=some x):mmrRoot p=rootFrom (p.take n).reverse x:=by
  have e:p=p.take n++[x]:=by
    have:=List.take_add_one (l:=p) (i:=n)
    rw [List.take_of_length_le (by omega),hx] at this
    simpa using this
  unfold mmrRoot
  conv=>lhs;rw [e]
  simp
theorem rootFrom_step {p:List Total} {k:Nat} {x y:Total} (hx:p[k]?=some x):rootFrom (p.take (k+1)).reverse y=rootFrom (p.take k).reverse (joinT x y):=by
  rw [List.take_add_one,hx];simp [rootFrom]
theorem mmrRoot_ok (p:List Total) (hp:p.length≤1000000):Tells P 108 [.val (bsl totalT) p] (.val totalT (mmrRoot p)):=by
 refine zc Tryz.func108 rfl rfl rfl (fun ext w hext=>?_)
 refine ze (d:=0) rfl zk (fun hsl0=>?_)
 refine CQR ?_;refine zw ze_164 rfl rfl rfl rfl ?_;refine qaT ?_;refine A0 (zR rfl rfl isl_62) ?_;refine A0 zbf ?_;refine CN ?_;refine Cf (p:=p.length=0) (fun ht8=>?_) (fun ht8=>?_)
 ·
  obtain rfl:p=[]:=List.length_eq_zero_iff.1 ht8
  refine CQR ?_;refine A0 (zt (T:=u8T) (xs:=[_]) rfl zar zaZ ⟨rfl,rfl,trivial⟩ rfl rfl) ?_;refine A0 (oCl (sum_ok [4] (by decide)) rfl fn_163 ⟨(zd rfl),trivial⟩) ?_;refine A0 (zC rfl ze_164 bd_164 (.cons fd_164_0 zeQ zI rfl .nil) rfl) ?_;refine qbp ?_;refine CN ?_
  exact z6 rfl rfl rfl rfl zcO (mmrRoot_nil.symm)
 ·
  obtain ⟨n,hn⟩:∃n,p.length=n+1:=⟨p.length-1,by omega⟩
  obtain ⟨x0,hx0⟩:∃x,p[n]?=some x:=⟨_,List.getElem?_eq_getElem (by omega)⟩
  have hroot:=mmrRoot_eq hn hx0
  refine CSQR ?_;refine qak ?_;refine A0 (zR rfl rfl isl_62) ?_;refine A0 zaT ?_;refine A0 (zu (i:=n) rfl rfl rfl (by omega) sl_62 (by assumption)) ?_;refine A0 (zg rfl rfl zcO) ?_;refine zw ze_164 rfl rfl rfl rfl ?_;refine qbp ?_;refine CNQQR ?_;refine qak ?_;refine A0 (zR rfl rfl isl_62) ?_;refine A0 zaT ?_;refine A0 (by first|exact zbj rfl rfl rfl (by first|rfl|omega) sl_62|exact zdG rfl rfl rfl sl_62 (by first|assumption|omega|(simp;omega))) ?_;refine zi (d:=22) (y:=p.take n) rfl (by congr 1;omega) ?_
  refine zU rfl rfl rfl rfl Tryz.func164 fn_164 rfl rfl (fun ia1 iok1=>?_)
  refine qaf ?_;refine A0 aL ?_;refine CNQR ?_;refine A0 (g_mkf (caps:=[_]) rfl rfl) ?_;refine A0 aC ?_;refine CN ?_;refine zaK rfl ?_;refine CNB ?_;refine aw_range rfl rfl rfl Tryz.func228 fn_228 rfl rfl (by intro n hn;simp only [List.mem_cons,List.not_mem_nil,or_false] at hn;rcases hn with rfl<;>rfl) (fun fid2 ca2 lN2 DN2 cok2 rc2 hrc2=>?_)
  refine CQR ?_;refine A0 (oLs rfl rfl rfl ty_62) ?_;refine A0 (zR rfl rfl isl_62) ?_;refine A0 zaT ?_;refine A0 aV ?_;refine CNB ?_;refine zi (d:=3) (y:=(n:Int)-1) rfl (by simp;omega) ?_
  refine Lp (ι:=Nat×Total) 5 (fun (i:Nat×Total)=>match i with|(k,y)=>(((Fr.none).set 0 (.lit (.func (.yield lN2) #[] #[]))).set 1 (.ptr 2 0)).set 3 (.val i64T ((k:Int)-1))) (fun (i:Nat×Total)=>match i with|(k,y)=>(((((Hp.none).set 0 (.box 164 totalT zTotal)).set 1 (.box 164 totalT y)).set 2 (.box 62 (bsl totalT) (p.take n))).set 3 (.objAt DN2 (.deferred (some [])))).set 4 (.objAt lN2 (rc2 .ready none))) (fun (i:Nat×Total)=>match i with|(k,y)=>k≤n∧mmrRoot p=rootFrom (p.take k).reverse y) (fun (i:Nat×Total)=>match i with|(k,y)=>k) ((n,x0)) (⟨Nat.le_refl _,hroot⟩) ?_
  intro ⟨k,y⟩ hinv
  dsimp only at hinv
  refine qbb ?_;refine qbK ?_;refine Cf (p:=0<k) (fun ht8=>?_) (fun ht8=>?_)
  ·
   obtain ⟨x,hx⟩:∃x,(p.take n)[k-1]?=some x:=⟨_,List.getElem?_eq_getElem (by simp;omega)⟩
   have hx2:p[k-1]?=some x:=by rw [List.getElem?_take] at hx;split at hx;exact hx;cases hx
   refine CSQBQR ?_;refine A0 mL ?_;refine qaw ?_;refine A0 (oLs rfl rfl rfl ty_62) ?_;refine qaw ?_;refine A0 (zu (i:=k-1) rfl rfl rfl (by omega) sl_62 (by assumption)) ?_;refine A0 (zg rfl rfl zcO) ?_;refine aw_yield (nL:=4) rfl rfl rfl rfl rfl hrc2 rfl rfl rfl (fun ya3 yok3=>?_)
   refine CR ?_;refine zw ze_164 rfl rfl rfl rfl ?_;refine qbp ?_;refine CN ?_;refine aw_begin (nL:=4) hrc2 rfl ?_;refine CB ?_;refine CR ?_;refine A0 (oLs rfl rfl rfl zcO) ?_;refine A0 (oLs rfl rfl rfl zcO) ?_;refine A0 (oCl (join_ok _ _) rfl fn_165 ⟨(zd rfl),(zd rfl),trivial⟩) ?_;refine qbp ?_;refine CN ?_;refine CI ?_;refine zdl (nL:=4) hrc2 rfl ?_;refine qaN ?_;refine Cg ?_;refine CSIR ?_;refine qbA ?_;refine qac ?_;refine zi (d:=3) (y:=((k-1:Nat):Int)-1) rfl (by omega) ?_
   exact Nx ((k-1,joinT x y)) (⟨by omega,by rw [hinv.2,show k=k-1+1 by omega,rootFrom_step hx2];rfl⟩) (by show k-1<k;omega)
  ·
   obtain rfl:k=0:=(by omega)
   refine CE ?_;refine zer (nL:=4) rfl hrc2 rfl (by decide) ?_;refine CI ?_;refine CQR ?_;refine A0 (oLs rfl rfl rfl zcO) ?_;refine qbp ?_;refine CN ?_;refine zao (zbP (nD:=3) rfl rfl rfl ?_)
   exact ar_retc1 rfl rfl rfl rfl zcO (by rw [hinv.2];rfl)
set_option maxRecDepth 20000
theorem mmrAppend_ok (p:List Total) (leaf:Total) (hp:p.length≤1000000):Tells P 109 [.val (bsl totalT) p,.val totalT leaf] (.fresh 164 totalT (mmrAppend p leaf)):=by
 refine zc Tryz.func109 rfl rfl rfl (fun ext w hext=>?_)
 refine ze (d:=0) rfl zk (fun hsl0=>?_)
 refine qaf ?_;refine A0 aL ?_;refine CN ?_;refine aw_scope (ι:=List Total×Total) 2 0 rfl rfl rfl (fun (i:List Total×Total)=>match i with|(r,x)=>((Fr.none).set 3 (.ptr 0 0)).set 5 (.own 1)) (fun (i:List Total×Total)=>match i with|(r,x)=>((Hp.none).set 0 (.box 164 totalT leaf)).set 1 (.row 164 totalT (r.reverse++[x]))) (fun (i:List Total×Total)=>match i with|(r,x)=>r.length≤1000000∧pushR r x=pushR p.reverse leaf) (fun (i:List Total×Total)=>match i with|(r,x)=>r.length) ?_ (fun hreach=>?_)
 ·
  intro ⟨r,x⟩ hinv
  dsimp only at hinv
  refine qb1 ?_;refine A0 (zan rfl rfl rfl isl_62) ?_;refine zi (d:=13) (y:=((r.length+1:Nat):Int)) rfl (by simp) ?_;refine qaL ?_;refine qbc ?_;refine G0 mV ?_;refine G0 zbx ?_;refine zai (d:=15) (p:=r=[]) rfl (by rw [decide_eq_decide];show ((r.length+1:Nat):Int)<2↔_;rw [←List.length_eq_zero_iff];omega) (fun g15=>?_) (fun g15=>?_)
  ·
   refine G0 mV ?_;refine qaa ?_;refine qau ?_;refine G2 ?_;refine G2 ?_;refine qaE ?_;refine Ct ?_;refine qb1 ?_;refine qbk ?_
   exact zb rfl rfl (zf rfl rfl (by unfold mmrAppend;rw [←hinv.2,g15];rfl))
  ·
   obtain ⟨y,s,hr⟩:∃y s,r=y::s:=by cases r with|nil=>exact absurd rfl g15|cons y s=>exact ⟨y,s,rfl⟩
   have hrl:r.length=s.length+1:=by rw [hr];rfl
   have hx1:(r.reverse++[x])[s.length]?=some y:=by rw [hr];simp
   have hx2:(r.reverse++[x])[s.length+1]?=some x:=by rw [List.getElem?_append_right (by simp [hrl])];simp [hrl]
   refine G0 mV ?_;refine G1 mO ?_;refine G1 mV ?_;refine G1 zaT ?_;refine G1 (zde (i:=s.length) rfl rfl rfl rfl (by first|omega|rfl) sl_62 (by first|assumption|omega|(simp;omega))) ?_;refine G1 (g_fa_e rfl rfl zfc rfl) ?_;refine G1 (zbF rfl rfl rfl rfl (by assumption) zeg ty_3) ?_;refine G1 mO ?_;refine G1 mV ?_;refine G1 zaT ?_;refine G1 (zde (i:=s.length+1) rfl rfl rfl rfl (by first|omega|rfl) sl_62 (by first|assumption|omega|(simp;omega))) ?_;refine G1 (g_fa_e rfl rfl zfc rfl) ?_;refine G1 (zbF rfl rfl rfl rfl (by assumption) zeg ty_3) ?_
   refine G1 zdr ?_;refine qaE ?_;refine zr (p:=¬y.n=x.n) rfl (by simp [IntL.toI]) (fun ht30=>?_) (fun ht30=>?_)
   ·
    refine qb1 ?_;refine qbk ?_
    exact zb rfl rfl (zf rfl rfl (by unfold mmrAppend;rw [←hinv.2,hr,pushR,if_neg ht30];simp))
   ·
    refine CS ?_;refine CQ ?_;refine zE [some 1,some 1,some 1,some 1,some 1,some 1,some 1,some 1,some 1,some 1,some 1,some 1,some 1,some 1,some 1,some 1,none,some 1] mixed (by decide +kernel) ?_;refine X0 mO ?_;refine X0 mV ?_;refine X0 zaT ?_;refine X0 (g_os_h (q:=s.length) rfl rfl rfl rfl sl_62 (by first|omega|rfl) (by first|assumption|omega|(simp;omega))) ?_;refine X0 mO ?_;refine X0 mV ?_;refine X0 zaT ?_;refine X0 (zde (i:=s.length) rfl rfl rfl rfl (by first|omega|rfl) sl_62 (by first|assumption|omega|(simp;omega))) ?_
    refine X0 (zbF rfl rfl rfl rfl (by assumption) (Lens.self _) zcO) ?_;refine X0 mO ?_;refine X0 mV ?_;refine X0 zaT ?_;refine X0 (zde (i:=s.length+1) rfl rfl rfl rfl (by first|omega|rfl) sl_62 (by first|assumption|omega|(simp;omega))) ?_;refine X0 (zbF rfl rfl rfl rfl (by assumption) (Lens.self _) zcO) ?_;refine X0 (oCl (join_ok _ _) rfl fn_165 ⟨(zd rfl),(zd rfl),trivial⟩) ?_;refine X0 (zt (T:=totalT) (xs:=[_]) rfl sl_62 row_62 ⟨rfl,rfl,trivial⟩ rfl rfl) ?_
    refine XK.e (fun fr' hfr kk H=>by exact aw_append_inv rfl rfl rfl rfl ((hfr 35 (by decide +kernel)).trans rfl) ((hfr 47 (by decide +kernel)).trans rfl) rfl row_62 (by simp;omega) (zK H)) ?_;refine X0 aS ?_;refine XK.nil' ?_;refine aw_shrink (d:=5) rfl rfl rfl (by simp;omega) ?_;refine zaG 2 1 3 rfl rfl rfl rfl rfl rfl ?_;refine zA (n:=1) (y:=s.reverse++[joinT y x]) rfl (by simp [hr,List.take_append];exact List.take_of_length_le (by simp)) ?_
    exact aw_goto ((s,joinT y x)) rfl (⟨by omega,by rw [←hinv.2,hr,pushR,if_pos (Classical.not_not.1 ht30)]⟩) (by show s.length<r.length;omega) rfl (by (repeat refine Fr.le_set ?_ (by first|rfl|(simp;done)));exact Fr.le_none _) (by (repeat refine Hp.le_set ?_ rfl);exact Hp.le_none _) (by (repeat refine Fr.below_setB ?_ rfl);exact Fr.below_none _) (by (repeat refine Hp.below_set ?_ (by decide));exact Hp.below_none _)
 ·
  refine CQ ?_;refine zE [some 1,none,some 2,some 2,none,some 1] mixed (by decide +kernel) ?_;refine X0 mV ?_;refine XK.e (fun fr' hfr kk H=>by exact zaA (cloneTotal p (by constructor<;>omega)) rfl fn_166 ⟨(zd ((hfr 7 (by decide +kernel)).trans rfl)),trivial⟩ rfl rfl rfl (zK H)) ?_;refine XK.gb (t:=3) rfl rfl (fun _ he=>zq rfl rfl he (Lens.self _) zcO) rfl ⟨rfl,rfl,trivial⟩ rfl rfl rfl ?_;refine XK.g2 (zt (T:=totalT) (xs:=[_]) rfl sl_62 row_62 ⟨rfl,rfl,trivial⟩ rfl rfl) (zt (T:=totalT) (xs:=[_]) rfl sl_62 row_62 ⟨rfl,rfl,trivial⟩ rfl rfl) rfl rfl rfl ?_
  refine XK.e (fun fr' hfr kk H=>by exact zD rfl rfl rfl rfl ((hfr 8 (by decide +kernel)).trans rfl) rfl ((hfr 10 (by decide +kernel)).trans rfl) row_62 (by simp;omega) (zK H)) ?_;refine X0 aO ?_;refine XK.nil' ?_;refine CQR ?_;refine qaL ?_;refine zaG 2 1 3 rfl rfl rfl rfl rfl rfl ?_;refine zA (n:=1) (y:=p.reverse.reverse++[leaf]) rfl (by simp) ?_
  exact aw_reach hreach ((p.reverse,leaf)) rfl (⟨by simp;omega,rfl⟩) rfl (by (repeat refine Fr.le_set ?_ (by first|rfl|(simp;done)));exact Fr.le_none _) (by (repeat refine Hp.le_set ?_ rfl);exact Hp.le_none _) (by (repeat refine Fr.below_setB ?_ rfl);exact Fr.below_none _) (by (repeat refine Hp.below_set ?_ (by decide));exact Hp.below_none _)
set_option maxRecDepth 20000
theorem growNilId (n:Nat) (hn:n≤1000000):Tells P 312 [.lit (.slice none 0 0),.val i64T (n:Int)] (.fresh 46 idT []):=by
 refine zc Tryz.func312 rfl rfl rfl (fun ext w hext=>?_)
 refine ze (d:=1) rfl zn (fun hin1=>?_)
 refine qao ?_;refine qaT ?_;refine qaG ?_;refine zdx rfl (decide_eq_false (by show ¬((n:Int)<0);omega)) ?_;refine qbv ?_;refine A0 mL ?_;refine A0 (zeJ rfl rfl zba) ?_;refine A0 mL ?_;refine A0 (by first|exact zR rfl rfl zba|exact zan rfl rfl rfl zba|exact zaz rfl rfl zba) ?_;refine A0 zaT ?_;refine A0 zaT ?_;refine qad ?_;refine A0 zaI ?_;refine CN ?_;refine zr (p:=0<n) rfl (by rw [decide_eq_decide];simp only [IntL.toI,id_eq];omega) (fun ht16=>?_) (fun ht16=>?_)
 ·
  refine CR ?_;refine A0 mL ?_;refine A0 mL ?_;refine A0 (zeJ rfl rfl zba) ?_;refine A0 (by first|exact zbj rfl rfl rfl (by first|rfl|omega) zcM|exact zdG rfl rfl rfl zcM (by first|assumption|omega|(simp;omega))) ?_;refine qaw ?_;refine aw_appendz (T:=idT) (n:=n) rfl rfl rfl rfl rfl rfl (by first|rfl|omega) zdC ze_46 (ui_3) (⟨by assumption,by omega,by omega⟩) ?_;refine A0 mL ?_;refine A0 (by first|exact zR rfl rfl zba|exact zan rfl rfl rfl zba|exact zaz rfl rfl zba) ?_
  refine A0 (g_os_h (q:=0) rfl rfl rfl rfl zcM (by first|omega|rfl) (by first|assumption|omega|(simp;omega))) ?_;refine A0 aS ?_;refine CNQR ?_;refine A0 mS ?_;refine A0 aS ?_;refine CN ?_
  exact zb rfl rfl (ret_fresh_s rfl rfl (by simp;omega) rfl)
 ·
  refine CSQR ?_;refine A0 mL ?_;refine A0 aL ?_;refine CN ?_
  exact zb rfl rfl (zm rfl)
theorem concatId (ls:List (List Ab.Id)) (hl:ls.flatten.length≤1000000):Tells P 277 [.val (bsl (bsl idT)) ls] (.fresh 46 idT ls.flatten):=by
 refine zc Tryz.func277 rfl rfl rfl (fun ext w hext=>?_)
 refine ze (d:=0) rfl zk (fun hsl0=>?_)
 refine qaX ?_;refine qai ?_;refine A0 (zR rfl rfl isl_332) ?_;refine qa8 ?_;refine Lp (ι:=Nat) 0 (fun (k:Nat)=>(((((Fr.none).set 0 (.val (bsl (bsl idT)) ls)).set 3 (.val i64T ((ls.take k).flatten.length:Int))).set 9 (.val (bsl (bsl idT)) ls)).set 10 (.val i64T (ls.length:Int))).set 11 (.val i64T (k:Int))) (fun (k:Nat)=>Hp.none) (fun (k:Nat)=>k≤ls.length) (fun (k:Nat)=>ls.length-k) (0) (Nat.zero_le _) ?_
 intro k hinv
 refine qaj ?_;refine Cf (p:=k<ls.length) (fun ht12=>?_) (fun ht12=>?_)
 ·
  obtain ⟨x,hx⟩:∃x,ls[k]?=some x:=⟨_,List.getElem?_eq_getElem ht12⟩
  have hle:=zcp ls (k+1)
  rw [zal hx,List.length_append] at hle
  refine CSQBQR ?_;refine A0 (za0 rfl rfl rfl sl_332 (by assumption)) ?_;refine A0 (zg rfl rfl zbI) ?_;refine A0 aX ?_;refine CNQR ?_;refine qaw ?_;refine A0 mX ?_;refine A0 (by first|exact zR rfl rfl zba|exact zan rfl rfl rfl zba|exact zaz rfl rfl zba) ?_;refine A0 zby ?_;refine qad ?_;refine qaG ?_;refine zdx rfl (decide_eq_false (by simp only [IntL.toI,id_eq];omega)) ?_;refine qbh ?_;refine zi (d:=3) (y:=((ls.take (k+1)).flatten.length:Int)) rfl (by rw [zal hx,List.length_append];omega) ?_
  exact Nx (k+1) (by omega) (by omega)
 ·
  refine zi (d:=3) (y:=((ls.flatten.length:Nat):Int)) rfl (by rw [List.take_of_length_le (by omega)]) ?_;refine CE ?_;refine qa1 ?_;refine zaA (growNilId ls.flatten.length hl) rfl fn_312 ⟨(by first|exact zB rfl|exact zZ rfl|exact zG rfl rfl|exact zX rfl|exact zx rfl|exact zag rfl rfl|exact zY rfl),(zd rfl),trivial⟩ rfl rfl rfl ?_;refine A0 aO ?_;refine qaT ?_;refine A0 (zR rfl rfl isl_332) ?_;refine qa8 ?_
  refine Lp (ι:=Nat) 1 (fun (k:Nat)=>((((Fr.none).set 6 (.own 0)).set 25 (.val (bsl (bsl idT)) ls)).set 26 (.val i64T (ls.length:Int))).set 27 (.val i64T (k:Int))) (fun (k:Nat)=>(Hp.none).set 0 (.row 46 idT (ls.take k).flatten)) (fun (k:Nat)=>k≤ls.length) (fun (k:Nat)=>ls.length-k) (0) (Nat.zero_le _) ?_
  intro k hinv
  refine qaj ?_;refine Cf (p:=k<ls.length) (fun ht28=>?_) (fun ht28=>?_)
  ·
   obtain ⟨x,hx⟩:∃x,ls[k]?=some x:=⟨_,List.getElem?_eq_getElem ht28⟩
   have hle:=zcp ls (k+1)
   rw [zal hx,List.length_append] at hle
   refine CSQBQR ?_;refine A0 (za0 rfl rfl rfl sl_332 (by assumption)) ?_;refine A0 (zg rfl rfl zbI) ?_;refine A0 aX ?_;refine CNR ?_;refine A0 mO ?_;refine A0 mX ?_;refine zD rfl rfl rfl rfl rfl rfl rfl zdC (by omega) ?_;refine A0 aO ?_;refine qaW ?_;refine zaG 1 0 2 rfl rfl rfl rfl rfl rfl ?_;refine zA (n:=0) rfl (zal hx).symm ?_
   exact Nx (k+1) (by omega) (by omega)
  ·
   refine qaA ?_
   exact zb rfl rfl (zf rfl rfl (by rw [List.take_of_length_le (by omega)]))
def mulM (x y:UInt64):UInt64:=shr64 x 32*(y&&&4294967295)+shr64 ((x&&&4294967295)*(y&&&4294967295)) 32
def mulHi (x y:UInt64):UInt64:=shr64 x 32*shr64 y 32+shr64 (mulM x y) 32+shr64 ((mulM x y&&&4294967295)+(x&&&4294967295)*shr64 y 32) 32
theorem mul64_ok (x y:UInt64):Tells P 329 [.val u64T x,.val u64T y] (.tup2 (.val u64T (mulHi x y)) (.val u64T (x*y))):=by
 refine zc Tryz.func329 rfl rfl rfl (fun ext w hext=>?_)
 refine CQR ?_;refine qbw ?_;refine A0 (g_and64 rfl rfl rfl) ?_;refine qad ?_;refine A0 (zbg rfl rfl rfl (by first|decide|(simp [IntL.toI];done)|(simp [IntL.toI];omega)) rfl) ?_;refine qad ?_;refine A0 (g_and64 rfl rfl rfl) ?_;refine qad ?_;refine A0 (zbg rfl rfl rfl (by first|decide|(simp [IntL.toI];done)|(simp [IntL.toI];omega)) rfl) ?_;refine qad ?_;refine qaw ?_;refine A0 (g_mul64 rfl rfl rfl) ?_;refine qad ?_;refine qaw ?_;refine A0 (g_mul64 rfl rfl rfl) ?_;refine qaw ?_;refine A0 (zbg rfl rfl rfl (by first|decide|(simp [IntL.toI];done)|(simp [IntL.toI];omega)) rfl) ?_
 refine A0 (g_add64 rfl rfl rfl) ?_;refine qad ?_;refine A0 (g_and64 rfl rfl rfl) ?_;refine qad ?_;refine A0 (zbg rfl rfl rfl (by first|decide|(simp [IntL.toI];done)|(simp [IntL.toI];omega)) rfl) ?_;refine qad ?_;refine qak ?_;refine A0 (g_mul64 rfl rfl rfl) ?_;refine A0 (g_add64 rfl rfl rfl) ?_;refine qad ?_;refine qaw ?_;refine A0 (g_mul64 rfl rfl rfl) ?_;refine qaw ?_;refine A0 (g_add64 rfl rfl rfl) ?_;refine qaw ?_;refine A0 (zbg rfl rfl rfl (by first|decide|(simp [IntL.toI];done)|(simp [IntL.toI];omega)) rfl) ?_;refine A0 (g_add64 rfl rfl rfl) ?_;refine qad ?_;refine qaw ?_
 refine A0 (g_mul64 rfl rfl rfl) ?_;refine qac ?_
 exact zT rfl rfl (za rfl rfl) (za rfl rfl)
theorem mulU_ok (x y:UInt64):Tells P 313 [.val u64T x,.val u64T y] (.tup2 (.val u64T (mulHi x y)) (.val u64T (x*y))):=by
 refine zc Tryz.func313 rfl rfl rfl (fun ext w hext=>?_)
 refine CQR ?_;refine A0 aV ?_;refine qaL ?_;refine Cg ?_;refine CSQR ?_;refine qak ?_;refine A0 (oCl (mul64_ok _ _) rfl fn_329 ⟨(zd rfl),(zd rfl),trivial⟩) ?_;refine A0 mX ?_;refine A0 (by first|exact zN rfl rfl|exact zM rfl rfl) ?_;refine A0 (by first|exact zQ rfl rfl|exact zP rfl rfl) ?_;refine qbw ?_;refine qaw ?_;refine qbo ?_
 exact zT rfl rfl (za rfl rfl) (za rfl rfl)
theorem mulHi_one {n:Nat} (h:n≤1000000):mulHi 1 (u64OfI (IntL.toI i64T (n:Int)))=0:=by
  have e:(u64OfI (IntL.toI i64T (n:Int))).toNat=n:=by
    unfold u64OfI
    show (UInt64.ofNat ((n:Int)%18446744073709551616).toNat).toNat=n
    rw [UInt64.toNat_ofNat_of_lt' (by show _<18446744073709551616;omega)];omega
  obtain ⟨y,hy⟩:∃y,y=u64OfI (IntL.toI i64T (n:Int)):=⟨_,rfl⟩
  rw [←hy] at e ⊢
  have a1:shr64 (1:UInt64) 32=0:=by decide
  have a2:shr64 y 32=0:=by
    apply UInt64.toNat_inj.1
    rw [zaF y (by decide),e]
    show n/4294967296=0
    omega
  have a3:y&&&4294967295=y:=by
    apply UInt64.toNat_inj.1
    rw [UInt64.toNat_and,e]
    show n&&&(2^32-1)=n
    rw [Nat.and_two_pow_sub_one_eq_mod];omega
  have a4:(1:UInt64)&&&4294967295=1:=by decide
  unfold mulHi mulM
  rw [a1,a2,a3,a4,UInt64.one_mul,a2]
  simp
  rfl
theorem mulLo_one {n:Nat} (h:n≤1000000):IntKind.i64.wrap (IntL.toI u64T (1*u64OfI (IntL.toI i64T (n:Int))))=(n:Int):=by
  have e:(u64OfI (IntL.toI i64T (n:Int))).toNat=n:=by
    unfold u64OfI
    show (UInt64.ofNat ((n:Int)%18446744073709551616).toNat).toNat=n
    rw [UInt64.toNat_ofNat_of_lt' (by show _<18446744073709551616;omega)];omega
  rw [UInt64.one_mul]
  show IntKind.i64.wrap (((u64OfI (IntL.toI i64T (n:Int))).toNat:Nat):Int)=n
  rw [e,zaa (by omega)]
theorem u64_small {n:Nat} (h:n≤1000000):(u64OfI (IntL.toI i64T (n:Int))).toNat=n:=by
  unfold u64OfI
  show (UInt64.ofNat ((n:Int)%18446744073709551616).toNat).toNat=n
  rw [UInt64.toNat_ofNat_of_lt' (by show _<18446744073709551616;omega)];omega
theorem rep_step {x:Ab.Id} {l:List Ab.Id} {i m N:Nat} (hl:l.length=N) (hi:i+m≤N) (hm:m≤i) (h:l.take i=List.replicate i x):(l.take i++(l.take i).take m++l.drop (i+m)).take (i+m)=List.replicate (i+m) x:=by
  rw [h,List.take_replicate,Nat.min_eq_left hm,←List.replicate_append_replicate,List.take_append_of_le_length (by simp),List.take_of_length_le (by simp)]
theorem repeatId (x:Ab.Id) (n:Nat) (hn:1≤n∧n≤1000):Tells P 278 [.val (bsl idT) [x],.val i64T (n:Int)] (.fresh 46 idT (List.replicate n x)):=by
 refine zc Tryz.func278 rfl rfl rfl (fun ext w hext=>?_)
 refine ze (d:=0) rfl zk (fun hsl0=>?_)
 refine ze (d:=1) rfl zn (fun hin1=>?_)
 refine qao ?_;refine qaT ?_;refine qaG ?_;refine zdx rfl (decide_eq_false (by simp only [IntL.toI,id_eq];omega)) ?_;refine qbF ?_;refine qbE ?_;refine A0 (zdH rfl (ui_135) (us_3) rfl) ?_;refine qaw ?_;refine A0 (zdH rfl (ui_135) (us_3) rfl) ?_;refine A0 (oCl (mulU_ok 1 (u64OfI (IntL.toI i64T (n:Int)))) rfl fn_313 ⟨(zd rfl),(zd rfl),trivial⟩) ?_;refine A0 mX ?_;refine A0 (by first|exact zN rfl rfl|exact zM rfl rfl) ?_;refine zi (d:=19) (y:=(0:UInt64)) rfl (mulHi_one (by omega)) ?_;refine A0 (by first|exact zQ rfl rfl|exact zP rfl rfl) ?_;refine A0 aV ?_
 refine qai ?_;refine A0 zaI ?_;refine zcr (d:=22) rfl (rfl) ?_;refine qbr ?_;refine A1 zaI ?_;refine zcr (d:=25) rfl (decide_eq_false (by rw [UInt64.one_mul];show ¬((9223372036854775807:Int)<(((u64OfI (IntL.toI i64T (n:Int))).toNat:Nat):Int));rw [u64_small (by omega)];omega)) ?_;refine qat ?_;refine Cg ?_;refine qbF ?_;refine A0 (zev rfl (ui_3) (us_135) rfl (mulLo_one (by omega))) ?_;refine aw_mks (T:=idT) (n:=n) rfl rfl rfl rfl rfl rfl (by first|omega|rfl) (by first|omega|rfl) zdC ze_46 ⟨by omega,by omega,(show (n)*32≤16777216 by omega)⟩ ?_;refine A0 aO ?_;refine CNQR ?_
 refine A0 mO ?_;refine qaw ?_;refine aw_copy_o rfl rfl rfl rfl rfl rfl rfl zdC (m:=1) (by simp;omega) (by simp;omega) ?_;refine A0 aX ?_;refine CNQ ?_;refine CB ?_
 refine Lp (ι:=Nat×List Ab.Id) 1 (fun (i:Nat×List Ab.Id)=>match i with|(i,l)=>((Fr.none).set 7 (.own 0)).set 8 (.val i64T (i:Int))) (fun (i:Nat×List Ab.Id)=>match i with|(i,l)=>(Hp.none).set 0 (.row 46 idT l)) (fun (i:Nat×List Ab.Id)=>match i with|(i,l)=>l.length=n∧1≤i∧i≤n∧l.take i=List.replicate i x) (fun (i:Nat×List Ab.Id)=>match i with|(i,l)=>n-i) ((1,[x]++(List.replicate n zId).drop 1)) (⟨by simp;omega,by omega,by omega,by simp⟩) ?_
 intro ⟨i,l⟩ hinv
 dsimp only at hinv
 refine qbb ?_;refine A0 mO ?_;refine A0 (zan rfl rfl rfl zba) ?_;refine qaG ?_;refine zr (p:=i<n) rfl (by rw [decide_eq_decide];simp only [IntL.toI,id_eq,hinv.1];omega) (fun ht37=>?_) (fun ht37=>?_)
 ·
  refine CS ?_;refine CB ?_;refine zE [some 1000001,some 1,some 1,some 1,some 1,some 1,some 1,none,some 1,some 1] mixed (by decide +kernel) ?_;refine XK.ga (fun _=>g_mv (.inl rfl) rfl) rfl rfl rfl ?_;refine X0 mO ?_;refine X0 mV ?_;refine X0 (g_os_l (p:=i) rfl rfl rfl rfl zcM (by first|omega|rfl) (by first|assumption|omega|(simp;omega))) ?_;refine X0 mO ?_;refine X0 mV ?_;refine X0 (g_os_h (q:=i) rfl rfl rfl rfl zcM (by first|omega|rfl) (by first|assumption|omega|(simp;omega))) ?_
  refine XK.e (fun fr' hfr kk H=>by exact aw_copy_in rfl rfl rfl rfl ((hfr 41 (by decide +kernel)).trans rfl) ((hfr 44 (by decide +kernel)).trans rfl) rfl zdC (m:=min i (n-i)) (by omega) (by omega) (zK H)) ?_;refine X0 zby ?_;refine X0 aV ?_;refine XK.nil' ?_;refine CI ?_
  exact Nx ((i+min i (n-i),l.take i++(l.take i).take (min i (n-i))++l.drop (i+min i (n-i)))) (⟨by simp;omega,by omega,by omega,rep_step hinv.1 (by omega) (by omega) hinv.2.2.2⟩) (by show n-(i+min i (n-i))<n-i;omega)
 ·
  refine qaA ?_
  exact zb rfl rfl (zf rfl rfl (by have h:=hinv.2.2.2;rw [List.take_of_length_le (by omega)] at h;rw [h];congr 1;omega))
set_option maxRecDepth 20000
def linkNext (l:List Ab.Id) (id:Ab.Id) (level:Int):List Ab.Id:=if 32<l.length then [] else if l.length=0 then [id] else if level<1 then l else l.take 1++List.replicate (min level 31).toNat id++l.drop ((min level 31).toNat+1)
theorem linkNext_ok (l:List Ab.Id) (id:Ab.Id) (level:Int):Tells P 232 [.val (bsl idT) l,.val idT id,.val i64T level] (.fresh 46 idT (linkNext l id level)):=by
 refine zc Tryz.func232 rfl rfl rfl (fun ext w hext=>?_)
 refine ze (d:=0) rfl zk (fun hsl0=>?_)
 refine ze (d:=2) rfl zn (fun hin2=>?_)
 refine qaf ?_;refine A0 aL ?_;refine CNQ ?_;refine CB ?_;refine qa1 ?_;refine qbE ?_;refine A0 zaI ?_;refine Sp (d:=12) (p:=32<l.length) (fun g12=>?_) (fun g12=>?_)
 ·
  refine qac ?_;refine Ct ?_;refine qao ?_;refine CN ?_
  exact zb rfl rfl (by unfold linkNext;rw [if_pos g12];exact zm rfl)
 ·
  refine qac ?_;refine Cg ?_;refine qa1 ?_;refine qbE ?_;refine A0 zbf ?_;refine Sp (d:=16) (p:=l.length=0) (fun g16=>?_) (fun g16=>?_)
  ·
   refine qac ?_;refine Ct ?_;refine CQR ?_;refine A0 (oLs rfl rfl rfl zI) ?_;refine zbo (T:=idT) (xs:=[_]) rfl rfl rfl rfl zcM zdC ⟨rfl,rfl,trivial⟩ rfl rfl ?_;refine qbk ?_
   exact zb rfl rfl (zf rfl rfl (by unfold linkNext;rw [if_neg g12,if_pos g16]))
  ·
   refine qac ?_;refine Cg ?_;refine qa1 ?_;refine A0 zbx ?_;refine Sp (d:=21) (p:=level<1) (fun g21=>?_) (fun g21=>?_)
   ·
    refine qac ?_;refine Ct ?_;refine qa1 ?_;refine zaA (cloneId l (by constructor<;>omega)) rfl fn_74 ⟨(zd rfl),trivial⟩ rfl rfl rfl ?_;refine qbk ?_
    exact zb rfl rfl (zf rfl rfl (by unfold linkNext;rw [if_neg g12,if_neg g16,if_pos g21]))
   ·
    refine qac ?_;refine Cg ?_;refine CS ?_;refine CI ?_;refine qa1 ?_;refine A0 (g_min rfl rfl rfl) ?_;refine A0 (g_add rfl rfl rfl (show _=((((min level 31).toNat+1:Nat):Int):Int) from (zaa (by omega)).trans (by omega))) ?_;refine qaL ?_;refine zE [some 1,some 1,some 1,some 1,some 1,some 1,some 1,some 1,none,some 1] mixed (by decide +kernel) ?_;refine X0 mV ?_;refine X0 (by first|exact zbj rfl rfl rfl (by first|rfl|omega) zcM|exact zdG rfl rfl rfl zcM (by first|assumption|omega|(simp;omega))) ?_;refine X0 (oLs rfl rfl rfl zI) ?_
    refine X0 (zt (T:=idT) (xs:=[_]) rfl zcM zdC ⟨rfl,rfl,trivial⟩ rfl rfl) ?_;refine X0 mV ?_;refine X0 (g_sub rfl rfl rfl (show _=(((min level 31).toNat:Int):Int) from (zaa (by omega)).trans (by omega))) ?_;refine X0 (g_lend (T:=sl idT) (S:=bsl idT) (zeo (zp (repeatId id (min level 31).toNat (by omega))) rfl fn_278 ⟨(zd rfl),(zd rfl),trivial⟩ rfl)) ?_;refine X0 (zt (T:=(bsl idT)) (xs:=[_,_]) rfl sl_332 row_332 ⟨rfl,rfl,rfl,rfl,trivial⟩ rfl rfl) ?_
    refine XK.e (fun fr' hfr kk H=>by exact zaA (concatId [l.take 1,List.replicate (min level 31).toNat id] (by simp;omega)) rfl fn_277 ⟨(zd ((hfr 34 (by decide +kernel)).trans rfl)),trivial⟩ rfl rfl rfl (zK H)) ?_;refine X0 aO ?_;refine XK.nil' ?_;refine qbb ?_;refine qbE ?_;refine qaw ?_;refine A0 zaI ?_;refine CN ?_;refine Cf (p:=(min level 31).toNat+1<l.length) (fun ht39=>?_) (fun ht39=>?_)
    ·
     refine CR ?_;refine A0 mO ?_;refine qak ?_;refine A0 (zen rfl rfl rfl zcM (by first|assumption|omega|(simp;omega))) ?_;refine zD rfl rfl rfl rfl rfl rfl rfl zdC (by simp;omega) ?_;refine A0 aO ?_;refine CNQR ?_;refine A0 mO ?_;refine qbk ?_
     exact zb rfl rfl (zf rfl rfl (by unfold linkNext;rw [if_neg g12,if_neg g16,if_neg g21];simp;omega))
    ·
     refine CSQR ?_;refine A0 mO ?_;refine qbk ?_
     exact zb rfl rfl (zf rfl rfl (by unfold linkNext;rw [if_neg g12,if_neg g16,if_neg g21,List.drop_of_length_le (by omega)];simp))
set_option maxRecDepth 20000
def mineFrom:Nat→Head→Option Head
  | 0,_=>none
  | n+1,h=>if headMay h=true then some h else mineFrom n { h with nonce:=h.nonce+1 }
def mineOf (h:Head) (tries:Int):Option Head:=mineFrom (min tries 200).toNat h
theorem mineFrom_step {n:Nat} {h:Head} (hn:0<n) (hm:¬headMay h=true):mineFrom n h=mineFrom (n-1) { h with nonce:=h.nonce+1 }:=by
  obtain ⟨m,rfl⟩:∃m,n=m+1:=⟨n-1,by omega⟩
  rw [mineFrom,if_neg hm];rfl
theorem mineFrom_yes {n:Nat} {h:Head} (hn:0<n) (hm:headMay h=true):mineFrom n h=some h:=by
  obtain ⟨m,rfl⟩:∃m,n=m+1:=⟨n-1,by omega⟩
  rw [mineFrom,if_pos hm]
theorem mine_ok (h:Head) (tries:Int):Tells P 183 [.val headT h,.val i64T tries] (.tup2 (.val headT ((mineOf h tries).getD h)) (.val boolT (mineOf h tries).isSome)):=by
 refine zc Tryz.func183 rfl rfl rfl (fun ext w hext=>?_)
 refine ze (d:=1) rfl zn (fun hin1=>?_)
 refine qaf ?_;refine qbU ?_;refine zw ze_4 rfl rfl rfl rfl ?_;refine CNQQR ?_;refine qb4 ?_;refine qaw ?_;refine zU rfl rfl rfl rfl Tryz.func241 fn_241 rfl rfl (fun ia1 iok1=>?_)
 refine qa6 ?_;refine A0 aL ?_;refine CNQR ?_;refine A0 (g_mkf (caps:=[_,_]) rfl rfl) ?_;refine A0 aC ?_;refine CN ?_;refine zaK rfl ?_;refine CNB ?_;refine aw_range rfl rfl rfl Tryz.func292 fn_292 rfl rfl (by intro n hn;simp only [List.mem_cons,List.not_mem_nil,or_false] at hn;rcases hn with rfl|rfl<;>rfl) (fun fid2 ca2 lN2 DN2 cok2 rc2 hrc2=>?_)
 refine CQR ?_;refine A0 (oLs rfl rfl rfl ty_3) ?_;refine A0 (g_min rfl rfl rfl) ?_;refine qa8 ?_
 refine Lp (ι:=Nat×Head) 7 (fun (i:Nat×Head)=>match i with|(k,g)=>(((((Fr.none).set 0 (.lit (.func (.yield lN2) #[] #[]))).set 1 (.ptr 4 0)).set 2 (.ptr 3 0)).set 5 (.val i64T (min tries 200))).set 6 (.val i64T (k:Int))) (fun (i:Nat×Head)=>match i with|(k,g)=>(((((((Hp.none).set 0 (.box 52 headT h)).set 1 (.box 52 headT zHead)).set 2 (.box 4 boolT false)).set 3 (.box 52 headT g)).set 4 (.box 3 i64T tries)).set 5 (.objAt DN2 (.deferred (some [])))).set 6 (.objAt lN2 (rc2 .ready none))) (fun (i:Nat×Head)=>match i with|(k,g)=>k≤(min tries 200).toNat∧mineOf h tries=mineFrom ((min tries 200).toNat-k) g) (fun (i:Nat×Head)=>match i with|(k,g)=>(min tries 200).toNat-k) ((0,h)) (⟨Nat.zero_le _,rfl⟩) ?_
 intro ⟨k,g⟩ hinv
 dsimp only at hinv
 refine qaj ?_;refine Cf (p:=(k:Int)<min tries 200) (fun ht7=>?_) (fun ht7=>?_)
 ·
  refine CS ?_;refine CQ ?_;refine CB ?_;refine CQQR ?_;refine A0 mL ?_;refine qb4 ?_;refine aw_yield (nL:=6) rfl rfl rfl rfl rfl hrc2 rfl rfl rfl (fun ya3 yok3=>?_)
  refine CR ?_;refine qbU ?_;refine qaO ?_;refine CN ?_;refine aw_begin (nL:=6) hrc2 rfl ?_;refine CB ?_;refine CQR ?_;refine qb4 ?_;refine A0 (oCl (headMay_ok _) rfl fn_125 ⟨(zd rfl),trivial⟩) ?_;refine CN ?_;refine zr (p:=headMay g=true) rfl (by simp) (fun ht12=>?_) (fun ht12=>?_)
  ·
   refine CQR ?_;refine qb4 ?_;refine qaO ?_;refine zh rfl rfl rfl rfl rfl (Lens.self _) ty_4 rfl ?_;refine CN ?_;refine aw_round_ret (nL:=6) hrc2 rfl ?_;refine qaN ?_;refine Ct ?_;refine aw_iter_ret (nL:=6) rfl hrc2 rfl (by decide) ?_;refine zao (zbP (nD:=5) rfl rfl rfl ?_)
   exact ar_retr2 rfl rfl (zF rfl rfl zav (by rw [hinv.2,mineFrom_yes (by omega) ht12];rfl)) (zF rfl rfl ty_4 (by rw [hinv.2,mineFrom_yes (by omega) ht12];rfl))
  ·
   refine CS ?_;refine CI ?_;refine zdl (nL:=6) hrc2 rfl ?_;refine qaN ?_;refine Cg ?_;refine CS ?_;refine CR ?_;refine A0 (oFp zcW) ?_;refine A0 (oLb zbQ zbi) ?_;refine A0 (g_add64 rfl rfl rfl) ?_;refine A0 (oFp zcW) ?_;refine zh rfl rfl rfl rfl rfl zbQ zbi rfl ?_;refine qaW ?_
   exact Nx ((k+1,{ g with nonce:=g.nonce+1 })) (⟨by omega,by rw [hinv.2,mineFrom_step (by omega) ht12];rfl⟩) (by show (min tries 200).toNat-(k+1)<(min tries 200).toNat-k;omega)
 ·
  refine CE ?_;refine zer (nL:=6) rfl hrc2 rfl (by decide) ?_;refine CI ?_;refine CQR ?_;refine qb4 ?_;refine qaO ?_;refine zh rfl rfl rfl rfl rfl (Lens.self _) ty_4 rfl ?_;refine CN ?_;refine zao (zbP (nD:=5) rfl rfl rfl ?_)
  exact ar_retr2 rfl rfl (zF rfl rfl zav (by rw [hinv.2,show (min tries 200).toNat-k=0 by omega];rfl)) (zF rfl rfl ty_4 (by rw [hinv.2,show (min tries 200).toNat-k=0 by omega];rfl))
set_option maxRecDepth 20000
def leafH (h:Head):Total:=leafT (headId h) (headWork h)
def linksT (t:Tip):List Ab.Id:=linkNext t.b.l (headId t.b.h) (headLevel t.b.h)
def nextH (t:Tip) (l:List Tx) (nonce:UInt64):Head:=⟨IntKind.i64.wrap (t.b.h.height+1),headId t.b.h,linkRoot (linksT t),txRoot l,(mmrRoot t.p).h,(mmrRoot t.p).w,t.b.h.bits,nonce⟩
def firstH (bits:UInt32):Head:=⟨0,zId,linkRoot [],txRoot [],(mmrRoot []).h,zWide,bits,0⟩
def firstTip (bits:UInt32):Tip:=if tgtOk bits=true then ⟨⟨firstH bits,[],[]⟩,mmrAppend [] (leafH (firstH bits)),[]⟩ else zTip
def behindH (h:Head):Head:={ zHead with height:=h.height,prev:=h.prev,bits:=h.bits }
theorem linkNext_len {l:List Ab.Id} {id:Ab.Id} {level:Int}:(linkNext l id level).length≤64:=by
  unfold linkNext
  split
  · simp
  · split
    · simp
    · split
      · omega
      · simp;omega
def smallTx (t:Tx):Prop:=t.ins.length*40≤140737488351232∧t.outs.length*16≤140737488351232
def smallL (l:List Tx):Prop:=l.length*48≤140737488351232∧∀t∈l,smallTx t
def smallB (b:Block):Prop:=b.l.length*32≤140737488351232∧smallL b.t
def smallTip (t:Tip):Prop:=smallB t.b∧t.p.length≤1000∧t.c.length≤1000
theorem set_same {α:Type} {l:List α} {k:Nat} {x:α} (h:l[k]?=some x):l.set k x=l:=by
  obtain ⟨hk,rfl⟩:=List.getElem?_eq_some_iff.1 h
  exact List.set_getElem_self hk
theorem leafH_ok (h:Head):Tells P 110 [.val headT h] (.val totalT (leafH h)):=by
 refine zc Tryz.func110 rfl rfl rfl (fun ext w hext=>?_)
 refine qaf ?_;refine zw ze_164 rfl rfl rfl rfl ?_;refine CNQ ?_;refine zE [some 1,some 1,some 1,some 1,some 1,none] mixed (by decide +kernel) ?_;refine X0 (oLs rfl rfl rfl zav) ?_;refine X0 (oCl (headId_ok _) rfl fn_67 ⟨(zd rfl),trivial⟩) ?_;refine X0 (oLs rfl rfl rfl zav) ?_;refine X0 (oCl (headWork_ok _) rfl fn_168 ⟨(zd rfl),trivial⟩) ?_;refine X0 (oCl (mleaf_ok _ _) rfl fn_167 ⟨(zd rfl),(zd rfl),trivial⟩) ?_
 refine XK.e (x:=.idk) (fun fr' hfr kk H=>by exact zh rfl rfl rfl ((hfr 2 (by decide +kernel)).trans rfl) rfl (Lens.self _) zcO ((hfr 7 (by decide +kernel)).trans rfl) (zK H)) ?_;refine XK.nil' ?_
 exact z6 rfl rfl rfl rfl zcO (rfl)
theorem linksT_ok (t:Tip):Tells P 171 [.val tipT t] (.fresh 46 idT (linksT t)):=by
 refine zc Tryz.func171 rfl rfl rfl (fun ext w hext=>?_)
 refine qaf ?_;refine A0 aL ?_;refine CNQ ?_;refine zE [some 1,some 1,some 1,some 1,some 1,some 1,some 1,some 1,some 1,some 1,some 1,none,some 1] mixed (by decide +kernel) ?_;refine X0 (oFp zdu) ?_;refine X0 (oFp zbt) ?_;refine X0 (oLb (zdy.comp zbc) zbI) ?_;refine X0 (oFp zdu) ?_;refine X0 (oFp zaw) ?_;refine X0 (oLb (zdy.comp zah) zav) ?_;refine X0 (oCl (headId_ok _) rfl fn_67 ⟨(zd rfl),trivial⟩) ?_;refine X0 (oFp zdu) ?_;refine X0 (oFp zaw) ?_;refine X0 (oLb (zdy.comp zah) zav) ?_
 refine X0 (oCl (headLevel_ok _) rfl fn_104 ⟨(zd rfl),trivial⟩) ?_;refine XK.e (fun fr' hfr kk H=>by exact zaA (linkNext_ok t.b.l (headId t.b.h) (headLevel t.b.h)) rfl fn_232 ⟨(zd ((hfr 5 (by decide +kernel)).trans rfl)),(zd ((hfr 9 (by decide +kernel)).trans rfl)),(zd ((hfr 13 (by decide +kernel)).trans rfl)),trivial⟩ rfl rfl rfl (zK H)) ?_;refine X0 aO ?_;refine XK.nil' ?_
 exact zb rfl rfl (zf rfl rfl rfl)
theorem nextH_ok (t:Tip) (l:List Tx) (nonce:UInt64) (hl:l.length≤4000000000000) (hp:t.p.length≤1000000):Tells P 113 [.val tipT t,.val (bsl txT) l,.val u64T nonce] (.val headT (nextH t l nonce)):=by
 have hlk:(linksT t).length≤64:=linkNext_len
 refine zc Tryz.func113 rfl rfl rfl (fun ext w hext=>?_)
 refine ze (d:=1) rfl zk (fun hsl1=>?_)
 refine qaf ?_;refine qbU ?_;refine CNQR ?_;refine A0 (oFp fd_65_1) ?_;refine A0 (oLb L_Tip_p ty_62) ?_;refine A0 (oCl (mmrRoot_ok t.p hp) rfl fn_108 ⟨(zd rfl),trivial⟩) ?_;refine zw ze_164 rfl rfl rfl rfl ?_;refine qbp ?_;refine CNQ ?_;refine zE [some 1,some 1,some 1,some 1,some 1,some 1,some 1,some 1,some 1,some 1,some 1,some 1,some 1,some 1,some 1,some 1,some 1,some 1,some 1,some 1,some 1,some 1,some 1,some 1,none] mixed (by decide +kernel) ?_;refine X0 (oFp zdu) ?_;refine X0 (oFp zaw) ?_;refine X0 (oFp zbh) ?_
 refine X0 (oLb ((zdy.comp zah).comp zae) ty_3) ?_;refine X0 zby ?_;refine X0 (oFp zdu) ?_;refine X0 (oFp zaw) ?_;refine X0 (oLb (zdy.comp zah) zav) ?_;refine X0 (oCl (headId_ok _) rfl fn_67 ⟨(zd rfl),trivial⟩) ?_;refine X0 (oLs rfl rfl rfl zcT) ?_;refine X0 (oCl (zp (linksT_ok t)) rfl fn_171 ⟨(zd rfl),trivial⟩) ?_;refine X0 (oCl (linkRoot_ok (linksT t) (by omega)) rfl fn_106 ⟨(zd rfl),trivial⟩) ?_;refine X0 mV ?_;refine X0 (oCl (txRoot_ok l hl) rfl fn_107 ⟨(zd rfl),trivial⟩) ?_;refine X0 (oFp fd_164_0) ?_
 refine X0 (oLb zeQ zI) ?_;refine X0 (oFp fd_164_1) ?_;refine X0 (oLb zeP zam) ?_;refine X0 (oFp zdu) ?_;refine X0 (oFp zaw) ?_;refine X0 (oFp zbM) ?_;refine X0 (oLb ((zdy.comp zah).comp za2) zbe) ?_;refine X0 mV ?_
 refine X0 (zC rfl ze_52 bd_52 (.cons zbh zae ty_3 rfl (.cons zdv zc2 zI rfl (.cons zcX zbR zI rfl (.cons zd9 zeT zI rfl (.cons zd8 zeh zI rfl (.cons zex zfi zam rfl (.cons zbM za2 zbe rfl (.cons zcW zbQ zbi rfl .nil)))))))) rfl) ?_;refine XK.e (x:=.idk) (fun fr' hfr kk H=>by exact zh rfl rfl rfl ((hfr 6 (by decide +kernel)).trans rfl) rfl (Lens.self _) zav ((hfr 34 (by decide +kernel)).trans rfl) (zK H)) ?_;refine XK.nil' ?_
 exact z6 rfl rfl rfl rfl zav (rfl)
theorem firstTip_ok (bits:UInt32):Tells P 62 [.val u32T bits] (.tup2 (.val tipT (firstTip bits)) (.val boolT (tgtOk bits))):=by
 refine zc Tryz.func62 rfl rfl rfl (fun ext w hext=>?_)
 refine CQR ?_;refine qbx ?_;refine qai ?_;refine A0 (oCl (target_ok _) rfl fn_105 ⟨(zd rfl),trivial⟩) ?_;refine A0 mX ?_;refine A0 (by first|exact zN rfl rfl|exact zM rfl rfl) ?_;refine A0 (by first|exact zQ rfl rfl|exact zP rfl rfl) ?_;refine qaB ?_;refine qal ?_;refine qad ?_;refine qaN ?_;refine zr (p:=¬tgtOk bits=true) rfl (by cases tgtOk bits<;>rfl) (fun ht13=>?_) (fun ht13=>?_)
 ·
  refine CQR ?_;refine A0 (zC rfl ze_65 bd_65 .nil rfl) ?_;refine qa4 ?_;refine qac ?_
  exact zz rfl rfl (zF rfl rfl zcT (by unfold firstTip;rw [if_neg ht13])) (zaf (za rfl (by simpa using ht13)))
 ·
  refine CSQR ?_;refine A0 (oCl (linkRoot_ok [] (by decide)) rfl fn_106 ⟨(by first|exact zB rfl|exact zZ rfl|exact zG rfl rfl|exact zX rfl|exact zx rfl|exact zag rfl rfl|exact zY rfl),trivial⟩) ?_;refine A0 (oCl (txRoot_ok [] (by decide)) rfl fn_107 ⟨(by first|exact zB rfl|exact zZ rfl|exact zG rfl rfl|exact zX rfl|exact zx rfl|exact zag rfl rfl|exact zY rfl),trivial⟩) ?_
  refine A0 (oCl (mmrRoot_ok [] (by decide)) rfl fn_108 ⟨(by first|exact zB rfl|exact zZ rfl|exact zG rfl rfl|exact zX rfl|exact zx rfl|exact zag rfl rfl|exact zY rfl),trivial⟩) ?_;refine A0 (g_field rfl rfl fd_164_0 zeQ zI) ?_;refine qaw ?_;refine A0 (zC rfl ze_52 bd_52 (.cons zcX zbR zI rfl (.cons zd9 zeT zI rfl (.cons zd8 zeh zI rfl (.cons zbM za2 zbe rfl .nil)))) rfl) ?_;refine qbU ?_;refine qaO ?_;refine CNQ ?_
  refine zE [some 1,some 1,some 1,some 1,some 1,some 1,none,some 1] mixed (by decide +kernel) ?_;refine X0 (oLs rfl rfl rfl zav) ?_;refine X0 (zC rfl ze_58 bd_58 (.cons zaw zah zav rfl .nil) rfl) ?_;refine X0 (oLs rfl rfl rfl zav) ?_;refine X0 (oCl (leafH_ok (firstH bits)) rfl fn_110 ⟨(zd rfl),trivial⟩) ?_;refine X0 (oCl (zp (mmrAppend_ok [] (leafH (firstH bits)) (by decide))) rfl fn_109 ⟨(by first|exact zB rfl|exact zZ rfl|exact zG rfl rfl|exact zX rfl|exact zx rfl|exact zag rfl rfl|exact zY rfl),(zd rfl),trivial⟩) ?_
  refine X0 (zC rfl ze_65 bd_65 (.cons zdu zdy zb5 rfl (.cons fd_65_1 L_Tip_p ty_62 rfl .nil)) rfl) ?_;refine XK.e (x:=.idk) (fun fr' hfr kk H=>by exact zh rfl rfl rfl ((hfr 2 (by decide +kernel)).trans rfl) rfl (Lens.self _) zcT ((hfr 26 (by decide +kernel)).trans rfl) (zK H)) ?_;refine X0 aV ?_;refine XK.nil' ?_
  exact zz rfl rfl (zF rfl rfl zcT (by unfold firstTip;rw [if_pos (Classical.not_not.1 ht13)];rfl)) (zaf (za rfl ((Classical.not_not.1 ht13).symm)))
theorem behindH_ok (h:Head):Tells P 172 [.val headT h] (.val headT (behindH h)):=by
 refine zc Tryz.func172 rfl rfl rfl (fun ext w hext=>?_)
 refine qaf ?_;refine qbU ?_;refine CNQR ?_;refine qb3 ?_;refine A0 (oFp zdv) ?_;refine A0 (oLb zc2 zI) ?_;refine A0 (oFp zbM) ?_;refine A0 (oLb za2 zbe) ?_;refine A0 (zC rfl ze_52 bd_52 (.cons zbh zae ty_3 rfl (.cons zdv zc2 zI rfl (.cons zbM za2 zbe rfl .nil))) rfl) ?_;refine qaO ?_;refine CN ?_
 exact z6 rfl rfl rfl rfl zav (rfl)
theorem txs_ok (l:List Tx) (hl:smallL l):Tells P 175 [.val (bsl txT) l] (.fresh 133 txT l):=by
 obtain ⟨hl1,hl2⟩:=hl
 refine zc Tryz.func175 rfl rfl rfl (fun ext w hext=>?_)
 refine ze (d:=0) rfl zk (fun hsl0=>?_)
 refine qaX ?_;refine qaw ?_;refine zaA (cloneTx l (by constructor<;>omega)) rfl fn_239 ⟨(zd rfl),trivial⟩ rfl rfl rfl ?_;refine A0 aO ?_;refine CNQQR ?_;refine A0 mO ?_;refine A0 (zan rfl rfl rfl isl_56) ?_;refine qa8 ?_;refine Lp (ι:=Nat) 1 (fun (k:Nat)=>((((Fr.none).set 3 (.own 0)).set 8 (.own 0)).set 9 (.val i64T (l.length:Int))).set 10 (.val i64T (k:Int))) (fun (k:Nat)=>(Hp.none).set 0 (.row 133 txT l)) (fun (k:Nat)=>k≤l.length) (fun (k:Nat)=>l.length-k) (0) (Nat.zero_le _) ?_
 intro k hinv
 refine qaj ?_;refine Cf (p:=k<l.length) (fun ht11=>?_) (fun ht11=>?_)
 ·
  obtain ⟨x,hx⟩:∃x,l[k]?=some x:=⟨_,List.getElem?_eq_getElem ht11⟩
  have hxm:=List.mem_of_getElem? hx
  refine qaP ?_;refine A0 (zde (i:=k) rfl rfl rfl rfl (by first|omega|rfl) sl_56 (by first|assumption|omega|(simp;omega))) ?_;refine A0 (zbF rfl rfl rfl rfl (by assumption) (Lens.self _) zc7) ?_;refine zw ze_133 rfl rfl rfl rfl ?_;refine A0 aV ?_;refine qbz ?_;refine CN ?_;refine zE [some 1,some 1,some 1,some 1,some 1,some 1,some 1,some 1,some 1,some 1,none] mixed (by decide +kernel) ?_;refine X0 mO ?_;refine X0 mV ?_;refine X0 (oFp zbv) ?_;refine X0 (oLb zc4 zdZ) ?_
  refine X0 (oCl (zp (cloneIn x.ins (by have:=hl2 x hxm;unfold smallTx at this;constructor<;>omega))) rfl fn_181 ⟨(zd rfl),trivial⟩) ?_;refine X0 (oFp zbG) ?_;refine X0 (oLb zcJ zek) ?_;refine X0 (oCl (zp (cloneOut x.outs (by have:=hl2 x hxm;unfold smallTx at this;constructor<;>omega))) rfl fn_182 ⟨(zd rfl),trivial⟩) ?_;refine X0 (zC rfl ze_133 bd_133 (.cons zbv zc4 zdZ rfl (.cons zbG zcJ zek rfl .nil)) rfl) ?_;refine X0 (zde (i:=k) rfl rfl rfl rfl (by first|omega|rfl) sl_56 (by first|assumption|omega|(simp;omega))) ?_
  refine XK.e (x:=.idk) (fun fr' hfr kk H=>by exact zdV rfl rfl rfl ((hfr 24 (by decide +kernel)).trans rfl) rfl rfl (by assumption) (Lens.self _) zc7 ((hfr 23 (by decide +kernel)).trans rfl) (zK H)) ?_;refine qaJ ?_;refine zA (n:=0) (y:=l) rfl (by rw [show (⟨x.ins,x.outs⟩:Tx)=x from rfl];exact set_same hx) ?_
  exact Nx (k+1) (by omega) (by omega)
 ·
  refine qaA ?_
  exact zb rfl rfl (zf rfl rfl rfl)
theorem copied_ok (b:Block) (hb:smallB b):Tells P 122 [.val blockT b] (.val blockT b):=by
 obtain ⟨hb1,hb2⟩:=hb
 refine zc Tryz.func122 rfl rfl rfl (fun ext w hext=>?_)
 refine qaf ?_;refine zw ze_58 rfl rfl rfl rfl ?_;refine CNQR ?_;refine A0 (oFp zbt) ?_;refine A0 (oLb zbc zbI) ?_;refine A0 (oCl (zp (cloneId b.l (by constructor<;>omega))) rfl fn_74 ⟨(zd rfl),trivial⟩) ?_;refine A0 (oFp zbt) ?_;refine zh rfl rfl rfl rfl rfl zbc zbI rfl ?_;refine CNQR ?_;refine A0 (oFp zb4) ?_;refine A0 (oLb zbS ty_56) ?_;refine A0 (oCl (zp (txs_ok b.t hb2)) rfl fn_175 ⟨(zd rfl),trivial⟩) ?_;refine A0 (oFp zb4) ?_;refine zh rfl rfl rfl rfl rfl zbS ty_56 rfl ?_;refine CNQR ?_
 refine A0 (oLs rfl rfl rfl zb5) ?_;refine qbf ?_;refine CN ?_
 exact z6 rfl rfl rfl rfl zb5 (rfl)
theorem own_ok (t:Tip) (ht:smallTip t):Tells P 121 [.val tipT t] (.val tipT t):=by
 obtain ⟨ht1,ht2,ht3⟩:=ht
 refine zc Tryz.func121 rfl rfl rfl (fun ext w hext=>?_)
 refine qaf ?_;refine qbx ?_;refine CNQ ?_;refine zE [some 1,some 1,some 1,some 1,some 1,some 1,some 1,some 1,some 1,some 1,none,some 1,none,some 1,none] mixed (by decide +kernel) ?_;refine X0 (oFp zdu) ?_;refine X0 (oLb zdy zb5) ?_;refine X0 (oCl (copied_ok t.b ht1) rfl fn_122 ⟨(zd rfl),trivial⟩) ?_;refine X0 (oFp fd_65_1) ?_;refine X0 (oLb L_Tip_p ty_62) ?_;refine X0 (oCl (zp (cloneTotal t.p (by constructor<;>omega))) rfl fn_166 ⟨(zd rfl),trivial⟩) ?_;refine X0 (oFp fd_65_2) ?_;refine X0 (oLb L_Tip_c ty_63) ?_
 refine X0 (oCl (zp (cloneCoin t.c (by constructor<;>omega))) rfl fn_174 ⟨(zd rfl),trivial⟩) ?_;refine X0 (oFp zdu) ?_;refine XK.e (x:=.idk) (fun fr' hfr kk H=>by exact zh rfl rfl rfl ((hfr 12 (by decide +kernel)).trans rfl) rfl zdy zb5 ((hfr 5 (by decide +kernel)).trans rfl) (zK H)) ?_;refine X0 (oFp fd_65_1) ?_;refine XK.e (x:=.idk) (fun fr' hfr kk H=>by exact zh rfl rfl rfl ((hfr 13 (by decide +kernel)).trans rfl) rfl L_Tip_p ty_62 ((hfr 8 (by decide +kernel)).trans rfl) (zK H)) ?_;refine X0 (oFp fd_65_2) ?_
 refine XK.e (x:=.idk) (fun fr' hfr kk H=>by exact zh rfl rfl rfl ((hfr 14 (by decide +kernel)).trans rfl) rfl L_Tip_c ty_63 ((hfr 11 (by decide +kernel)).trans rfl) (zK H)) ?_;refine XK.nil' ?_;refine CQR ?_;refine A0 (oLs rfl rfl rfl zcT) ?_;refine qa4 ?_;refine CN ?_
 exact z6 rfl rfl rfl rfl zcT (rfl)
theorem sameB_ok (a b:Block):Tells P 63 [.val blockT a,.val blockT b] (.val boolT (decide (a=b))):=by
 refine zc Tryz.func63 rfl rfl rfl (fun ext w hext=>?_)
 refine qa6 ?_;refine qar ?_;refine A0 (oFp zaw) ?_;refine A0 (oLb zah zav) ?_;refine A0 (oFp zaw) ?_;refine A0 (oLb zah zav) ?_;refine A0 (g_eqlS rfl rfl rfl (eqt_52)) ?_;refine Sp (d:=9) (p:=a.h=b.h) (fun g9=>?_) (fun g9=>?_)
 ·
  refine qaw ?_;refine A1 (oFp zbt) ?_;refine A1 (oLb zbc zbI) ?_;refine A1 (oFp zbt) ?_;refine A1 (oLb zbc zbI) ?_;refine A1 (oCl (equalId _ _) rfl fn_53 ⟨(zd rfl),(zd rfl),trivial⟩) ?_;refine Sp (d:=15) (p:=a.l=b.l) (fun g15=>?_) (fun g15=>?_)
  ·
   refine qae ?_;refine A1 (oFp zb4) ?_;refine A1 (oLb zbS ty_56) ?_;refine A1 (oFp zb4) ?_;refine A1 (oLb zbS ty_56) ?_;refine A1 (oCl (equalFTx _ _) rfl fn_111 ⟨(zd rfl),(zd rfl),(by first|exact zcH (Cs:=[]) rfl fn_112 (by intro n hn;cases hn) trivial rfl (fun x=>coinSame_ok x y)|exact zcG (Cs:=[]) rfl fn_112 (by intro n hn;cases hn) trivial rfl (fun x y=>coinSame_ok x y)|exact zcI rfl),trivial⟩) ?_;refine qa3 ?_
   exact zb rfl rfl (za rfl (by rw [decide_eq_decide];exact ⟨fun h=>by cases a;cases b;simp_all,fun h=>by rw [h]⟩))
  ·
   refine qaM ?_;refine qaC ?_;refine qa3 ?_
   exact zb rfl rfl (za rfl (by symm;apply decide_eq_false;intro h;exact g15 (by rw [h])))
 ·
  refine qbJ ?_;refine A2 ?_;refine qay ?_;refine A2 ?_;refine qa3 ?_
  exact zb rfl rfl (za rfl (by symm;apply decide_eq_false;intro h;exact g9 (by rw [h])))
set_option maxRecDepth 20000
def nW (a:Wide):Nat:=(a.getD 0 0).toNat+18446744073709551616*(a.getD 1 0).toNat+340282366920938463463374607431768211456*(a.getD 2 0).toNat+6277101735386680763835789423207666416102355444464034512896*(a.getD 3 0).toNat
abbrev W256:Nat:=115792089237316195423570985008687907853269984665640564039457584007913129639936
theorem addS_n (a b c:UInt64):(addS a b c).toNat=(a.toNat+b.toNat+c.toNat)%18446744073709551616:=by unfold addS;rw [UInt64.toNat_ofNat']
theorem addC_n (a b:UInt64) {c:UInt64} (h:c.toNat≤1):(addC a b c).toNat=(a.toNat+b.toNat+c.toNat)/18446744073709551616:=by
  have ha:a.toNat<18446744073709551616:=a.toNat_lt
  have hb:b.toNat<18446744073709551616:=b.toNat_lt
  unfold addC
  rw [UInt64.toNat_ofNat_of_lt' (by show _<18446744073709551616;omega)]
theorem carry_add (a0 a1 a2 a3 b0 b1 b2 b3:UInt64):carryN addS addC [a0,a1,a2,a3] [b0,b1,b2,b3] 4=([addS a0 b0 0,addS a1 b1 (addC a0 b0 0),addS a2 b2 (addC a1 b1 (addC a0 b0 0)),addS a3 b3 (addC a2 b2 (addC a1 b1 (addC a0 b0 0)))],addC a3 b3 (addC a2 b2 (addC a1 b1 (addC a0 b0 0)))):=rfl
theorem nW_lt {a:Wide} (_h:a.length=4):nW a<W256:=by
  have h0:(a.getD 0 0).toNat<18446744073709551616:=UInt64.toNat_lt _
  have h1:(a.getD 1 0).toNat<18446744073709551616:=UInt64.toNat_lt _
  have h2:(a.getD 2 0).toNat<18446744073709551616:=UInt64.toNat_lt _
  have h3:(a.getD 3 0).toNat<18446744073709551616:=UInt64.toNat_lt _
  unfold nW W256;omega
theorem nW_inj {a b:Wide} (ha:a.length=4) (hb:b.length=4) (h:nW a=nW b):a=b:=by
  match a,ha with
  | [a0,a1,a2,a3],_=>match b,hb with
    | [b0,b1,b2,b3],_ =>
      have h0:a0.toNat<18446744073709551616:=a0.toNat_lt
      have h1:a1.toNat<18446744073709551616:=a1.toNat_lt
      have h2:a2.toNat<18446744073709551616:=a2.toNat_lt
      have h3:a3.toNat<18446744073709551616:=a3.toNat_lt
      have k0:b0.toNat<18446744073709551616:=b0.toNat_lt
      have k1:b1.toNat<18446744073709551616:=b1.toNat_lt
      have k2:b2.toNat<18446744073709551616:=b2.toNat_lt
      have k3:b3.toNat<18446744073709551616:=b3.toNat_lt
      have h:a0.toNat+18446744073709551616*a1.toNat+340282366920938463463374607431768211456*a2.toNat+6277101735386680763835789423207666416102355444464034512896*a3.toNat=b0.toNat+18446744073709551616*b1.toNat+340282366920938463463374607431768211456*b2.toNat+6277101735386680763835789423207666416102355444464034512896*b3.toNat:=h
      rw [UInt64.toNat_inj.1 (show a0.toNat=b0.toNat by omega),UInt64.toNat_inj.1 (show a1.toNat=b1.toNat by omega),UInt64.toNat_inj.1 (show a2.toNat=b2.toNat by omega),UInt64.toNat_inj.1 (show a3.toNat=b3.toNat by omega)]
theorem addW_len {a b:Wide} (ha:a.length=4) (hb:b.length=4):(addW a b).length=4:=by
  match a,ha with
  | [a0,a1,a2,a3],_=>match b,hb with
    | [b0,b1,b2,b3],_=>unfold addW;rw [carry_add];rfl
theorem nW_add2 {a b:Wide} (ha:a.length=4) (hb:b.length=4):nW (addW a b)=(nW a+nW b)%W256∧(addOk a b=true↔nW a+nW b<W256):=by
  match a,ha with
  | [a0,a1,a2,a3],_=>match b,hb with
    | [b0,b1,b2,b3],_ =>
      have h0:a0.toNat<18446744073709551616:=a0.toNat_lt
      have h1:a1.toNat<18446744073709551616:=a1.toNat_lt
      have h2:a2.toNat<18446744073709551616:=a2.toNat_lt
      have h3:a3.toNat<18446744073709551616:=a3.toNat_lt
      have k0:b0.toNat<18446744073709551616:=b0.toNat_lt
      have k1:b1.toNat<18446744073709551616:=b1.toNat_lt
      have k2:b2.toNat<18446744073709551616:=b2.toNat_lt
      have k3:b3.toNat<18446744073709551616:=b3.toNat_lt
      have z:(0:UInt64).toNat≤1:=by decide
      have z0:(0:UInt64).toNat=0:=rfl
      have c1:=addC_n a0 b0 z
      have l1:=addC_le a0 b0 z
      have c2:=addC_n a1 b1 l1
      have l2:=addC_le a1 b1 l1
      have c3:=addC_n a2 b2 l2
      have l3:=addC_le a2 b2 l2
      have c4:=addC_n a3 b3 l3
      have s0:=addS_n a0 b0 0
      have s1:=addS_n a1 b1 (addC a0 b0 0)
      have s2:=addS_n a2 b2 (addC a1 b1 (addC a0 b0 0))
      have s3:=addS_n a3 b3 (addC a2 b2 (addC a1 b1 (addC a0 b0 0)))
      unfold addW addOk
      rw [carry_add]
      unfold nW W256
      simp only [List.getD_cons_zero,List.getD_cons_succ,decide_eq_true_eq]
      rw [z0] at c1 s0
      generalize addC a3 b3 (addC a2 b2 (addC a1 b1 (addC a0 b0 0)))=x4 at *
      generalize addS a3 b3 (addC a2 b2 (addC a1 b1 (addC a0 b0 0)))=y3 at *
      generalize addS a2 b2 (addC a1 b1 (addC a0 b0 0))=y2 at *
      generalize addC a2 b2 (addC a1 b1 (addC a0 b0 0))=x3 at *
      generalize addS a1 b1 (addC a0 b0 0)=y1 at *
      generalize addC a1 b1 (addC a0 b0 0)=x2 at *
      generalize addS a0 b0 0=y0 at *
      generalize addC a0 b0 0=x1 at *
      constructor
      · omega
      · constructor<;>intro h<;>omega
theorem nW_add {a b:Wide} (ha:a.length=4) (hb:b.length=4):nW (addW a b)=(nW a+nW b)%W256:=(nW_add2 ha hb).1
set_option maxRecDepth 20000
theorem of32_len {b:Ab.Id}:(of32W b).length=4:=by
  have h:∀k,(of32N b k).length=4:=fun k=>by
    induction k with
    | zero=>rfl
    | succ k ih=>unfold of32N;rw [zdf];unfold of32S;rw [List.length_set];exact ih
  exact h 32
set_option maxRecDepth 20000
def smallTrial (x:Trial):Prop:=smallTip x.t∧x.b.t.length≤4000000000000
def sizeE (x:Trial):Int:=if 48≤x.b.h.height then 3 else 0
def prevE (x:Trial):Int:=if ¬behindH x.b.h=behindH x.want then 5 else 0
def linkE (x:Trial):Int:=if ¬x.b.h.links=x.want.links∨¬x.b.l=linksT x.t then 6 else 0
def rootE (x:Trial):Int:=if ¬x.b.h=x.want then 7 else 0
def workE (x:Trial):Int:=if ¬headMay x.b.h=true then 4 else 0
def coinsE (x:Trial):Int:=(applyOf x.t.c x.b.t).2
def coinsX (x:Trial):Trial:={ x with c:=(applyOf x.t.c x.b.t).1 }
def askOf (f:Option Nat) (x:Trial):Int:=if f=some 114 then sizeE x else if f=some 115 then prevE x else if f=some 116 then linkE x else if f=some 117 then rootE x else if f=some 118 then workE x else coinsE x
def askX (f:Option Nat) (x:Trial):Trial:=if f=some 119 then coinsX x else x
def firstE:List (Option Nat)→Trial→Int
  | [],_=>0
  | f::l,x=>if askOf f x=0 then firstE l (askX f x) else askOf f x
def firstX:List (Option Nat)→Trial→Trial
  | [],x=>x
  | f::l,x=>if askOf f x=0 then firstX l (askX f x) else askX f x
def Asks (f:Option Nat):Prop:=f=some 114∨f=some 115∨f=some 116∨f=some 117∨f=some 118∨f=some 119
theorem za8 {l:List (Option Nat)} {k:Nat} {f:Option Nat} {x:Trial} (h:l[k]?=some f) (h0:askOf f x=0):firstE (l.drop k) x=firstE (l.drop (k+1)) (askX f x)∧firstX (l.drop k) x=firstX (l.drop (k+1)) (askX f x):=by
  obtain ⟨hk,rfl⟩:=List.getElem?_eq_some_iff.1 h
  rw [List.drop_eq_getElem_cons hk,firstE,firstX,if_pos h0,if_pos h0]
  exact ⟨rfl,rfl⟩
theorem zap {l:List (Option Nat)} {k:Nat} {f:Option Nat} {x:Trial} (h:l[k]?=some f) (h0:¬askOf f x=0):firstE (l.drop k) x=askOf f x∧firstX (l.drop k) x=askX f x:=by
  obtain ⟨hk,rfl⟩:=List.getElem?_eq_some_iff.1 h
  rw [List.drop_eq_getElem_cons hk,firstE,firstX,if_neg h0,if_neg h0]
  exact ⟨rfl,rfl⟩
theorem first_end {l:List (Option Nat)} {k:Nat} {x:Trial} (h:l.length≤k):firstE (l.drop k) x=0∧firstX (l.drop k) x=x:=by
  rw [List.drop_of_length_le h];exact ⟨rfl,rfl⟩
theorem zbA {f:Option Nat} {x:Trial} (h:smallTrial x):smallTrial (askX f x):=by unfold askX;split<;>exact h
theorem ask_size (x:Trial):Tells P 114 [.rptr trialT x] (.val i64T (sizeE x)):=by
 refine zc Tryz.func114 rfl rfl rfl (fun ext w hext=>?_)
 refine CQR ?_;refine A0 aV ?_;refine CNQQR ?_;refine A0 mR ?_;refine A0 (zcB rfl rfl) ?_;refine A0 (oFr zdK zcK) ?_;refine A0 (oFr zaw zah) ?_;refine A0 (oFr zbh zae) ?_;refine qbM ?_;refine qbK ?_;refine Cf (p:=48≤x.b.h.height) (fun ht9=>?_) (fun ht9=>?_)
 ·
  refine qa5 ?_
  exact zb rfl rfl (za rfl (by unfold sizeE;rw [if_pos (ht9)]))
 ·
  refine CSQR ?_;refine qac ?_
  exact zb rfl rfl (za rfl (by unfold sizeE;rw [if_neg (ht9)]))
theorem ask_prev (x:Trial):Tells P 115 [.rptr trialT x] (.val i64T (prevE x)):=by
 refine zc Tryz.func115 rfl rfl rfl (fun ext w hext=>?_)
 refine CQR ?_;refine qaL ?_;refine qbc ?_;refine G0 mR ?_;refine G0 (zcB rfl rfl) ?_;refine G0 (oFr zdK zcK) ?_;refine G0 (oFr zaw zah) ?_;refine G0 (zg rfl rfl zav) ?_;refine G0 (oCl (behindH_ok _) rfl fn_172 ⟨(by first|exact zB rfl|exact zZ rfl|exact zG rfl rfl|exact zX rfl|exact zx rfl|exact zag rfl rfl|exact zY rfl),trivial⟩) ?_;refine G0 mR ?_;refine G0 (zcB rfl rfl) ?_;refine G0 (oFr fd_173_2 zdq) ?_;refine G0 (zg rfl rfl zav) ?_
 refine G0 (oCl (behindH_ok _) rfl fn_172 ⟨(by first|exact zB rfl|exact zZ rfl|exact zG rfl rfl|exact zX rfl|exact zx rfl|exact zag rfl rfl|exact zY rfl),trivial⟩) ?_;refine G0 (g_neqS rfl rfl rfl (eqt_52)) ?_;refine GK.nil ?_;refine zr (p:=¬behindH x.b.h=behindH x.want) rfl (by simp) (fun ht14=>?_) (fun ht14=>?_)
 ·
  refine qa5 ?_
  exact zb rfl rfl (za rfl (by unfold prevE;rw [if_pos (ht14)]))
 ·
  refine CSQR ?_;refine qac ?_
  exact zb rfl rfl (za rfl (by unfold prevE;rw [if_neg (ht14)]))
theorem ask_link (x:Trial) (hx:smallTrial x):Tells P 116 [.rptr trialT x] (.val i64T (linkE x)):=by
 refine zc Tryz.func116 rfl rfl rfl (fun ext w hext=>?_)
 refine CQR ?_;refine qaL ?_;refine qbc ?_;refine G0 mR ?_;refine G0 (zcB rfl rfl) ?_;refine G0 (oFr zdK zcK) ?_;refine G0 (oFr zaw zah) ?_;refine G0 (oFr zcX zbR) ?_;refine G0 (zg rfl rfl zI) ?_;refine G0 mR ?_;refine G0 (zcB rfl rfl) ?_;refine G0 (oFr fd_173_2 zdq) ?_;refine G0 (oFr zcX zbR) ?_;refine G0 (zg rfl rfl zI) ?_;refine G0 (g_neqS rfl rfl rfl (eqt_46)) ?_;refine zai (d:=14) (p:=¬x.b.h.links=x.want.links) rfl (by simp) (fun g14=>?_) (fun g14=>?_)
 ·
  refine G0 mV ?_;refine qaa ?_;refine qau ?_;refine G2 ?_;refine qaE ?_;refine Ct ?_;refine qa5 ?_
  exact zb rfl rfl (za rfl (by unfold linkE;rw [if_pos (.inl g14)]))
 ·
  refine G0 mV ?_;refine G1 mR ?_;refine G1 (zcB rfl rfl) ?_;refine G1 (oFr zdK zcK) ?_;refine G1 (oFr zbt zbc) ?_;refine G1 (zg rfl rfl zbI) ?_;refine G1 mR ?_;refine G1 (zcB rfl rfl) ?_;refine G1 (oFr fd_173_0 L_Trial_t) ?_;refine G1 (zg rfl rfl zcT) ?_;refine G1 (oCl (zp (linksT_ok x.t)) rfl fn_171 ⟨(by first|exact zB rfl|exact zZ rfl|exact zG rfl rfl|exact zX rfl|exact zx rfl|exact zag rfl rfl|exact zY rfl),trivial⟩) ?_
  refine G1 (oCl (equalId _ _) rfl fn_53 ⟨(by first|exact zB rfl|exact zZ rfl|exact zG rfl rfl|exact zX rfl|exact zx rfl|exact zag rfl rfl|exact zY rfl),(zd rfl),trivial⟩) ?_;refine G1 oN ?_;refine qaE ?_;refine zr (p:=¬x.b.l=linksT x.t) rfl (by simp) (fun ht28=>?_) (fun ht28=>?_)
  ·
   refine qa5 ?_
   exact zb rfl rfl (za rfl (by unfold linkE;rw [if_pos (.inr ht28)]))
  ·
   refine CSQR ?_;refine qac ?_
   exact zb rfl rfl (za rfl (by unfold linkE;rw [if_neg (fun h=>h.elim g14 ht28)]))
theorem ask_root (x:Trial):Tells P 117 [.rptr trialT x] (.val i64T (rootE x)):=by
 refine zc Tryz.func117 rfl rfl rfl (fun ext w hext=>?_)
 refine CQR ?_;refine qaL ?_;refine qbc ?_;refine G0 mR ?_;refine G0 (zcB rfl rfl) ?_;refine G0 (oFr zdK zcK) ?_;refine G0 (oFr zaw zah) ?_;refine G0 (zg rfl rfl zav) ?_;refine G0 mR ?_;refine G0 (zcB rfl rfl) ?_;refine G0 (oFr fd_173_2 zdq) ?_;refine G0 (zg rfl rfl zav) ?_;refine G0 (g_neqS rfl rfl rfl (eqt_52)) ?_;refine GK.nil ?_;refine zr (p:=¬x.b.h=x.want) rfl (by simp) (fun ht12=>?_) (fun ht12=>?_)
 ·
  refine qa5 ?_
  exact zb rfl rfl (za rfl (by unfold rootE;rw [if_pos (ht12)]))
 ·
  refine CSQR ?_;refine qac ?_
  exact zb rfl rfl (za rfl (by unfold rootE;rw [if_neg (ht12)]))
theorem ask_work (x:Trial):Tells P 118 [.rptr trialT x] (.val i64T (workE x)):=by
 refine zc Tryz.func118 rfl rfl rfl (fun ext w hext=>?_)
 refine CQR ?_;refine A0 aV ?_;refine CNQQR ?_;refine A0 mR ?_;refine A0 (zcB rfl rfl) ?_;refine A0 (oFr zdK zcK) ?_;refine A0 (oFr zaw zah) ?_;refine A0 (zg rfl rfl zav) ?_;refine A0 (oCl (headMay_ok _) rfl fn_125 ⟨(by first|exact zB rfl|exact zZ rfl|exact zG rfl rfl|exact zX rfl|exact zx rfl|exact zag rfl rfl|exact zY rfl),trivial⟩) ?_;refine qaN ?_;refine zr (p:=¬headMay x.b.h=true) rfl (by simp) (fun ht9=>?_) (fun ht9=>?_)
 ·
  refine qa5 ?_
  exact zb rfl rfl (za rfl (by unfold workE;rw [if_pos (ht9)]))
 ·
  refine CSQR ?_;refine qac ?_
  exact zb rfl rfl (za rfl (by unfold workE;rw [if_neg (ht9)]))
theorem ask_coins (x:Trial) (hx:smallTrial x):TellsM P 119 (.box 173 trialT x) [.ptr 0 0] (.val i64T (coinsE x)) (.box 173 trialT (coinsX x)):=by
 refine zd6 trivial Tryz.func119 rfl rfl ⟨Nat.one_pos,trivial⟩ (fun ext pg w hext hgr=>?_)
 refine CQR ?_;refine qbN ?_;refine G0 mP ?_;refine G0 (g_nc rfl rfl) ?_;refine G0 (oFp fd_173_0) ?_;refine G0 (oFp fd_65_2) ?_;refine G0 (oLb (L_Trial_t.comp L_Tip_c) ty_63) ?_;refine G0 mP ?_;refine G0 (g_nc rfl rfl) ?_;refine G0 (oFp zdK) ?_;refine G0 (oFp zb4) ?_;refine G0 (oLb (zcK.comp zbS) ty_56) ?_;refine G0 (oCl (zbT (apply_ok x.t.c x.b.t (by have:=hx.1.2.2;omega))) rfl fn_173 ⟨(zd rfl),(zd rfl),trivial⟩) ?_;refine G0 mX ?_;refine G0 (by first|exact zN rfl rfl|exact zM rfl rfl) ?_;refine G0 (by first|exact zQ rfl rfl|exact zP rfl rfl) ?_
 refine G0 aV ?_;refine qbn ?_;refine CQR ?_;refine A0 mP ?_;refine qaw ?_;refine A0 (g_nc rfl rfl) ?_;refine A0 (oFp fd_173_3) ?_;refine zh rfl rfl rfl rfl rfl L_Trial_c ty_63 rfl ?_;refine CNQR ?_;refine qaw ?_;refine qac ?_
 exact zch rfl rfl rfl rfl rfl (zbb rfl rfl) (zet (zbb (x:=coinsX x) rfl rfl) rfl rfl)
theorem first_ok (x0:Trial) (l:List (Option Nat)) (hx0:smallTrial x0) (hl:∀f∈l,Asks f):TellsM P 120 (.box 173 trialT x0) [.ptr 0 0,.val (bsl fnoT) l] (.val i64T (firstE l x0)) (.box 173 trialT (firstX l x0)):=by
 refine zd6 trivial Tryz.func120 rfl rfl ⟨Nat.one_pos,⟨trivial,trivial⟩⟩ (fun ext pg w hext hgr=>?_)
 refine ze (d:=1) rfl zk (fun hsl1=>?_)
 refine CQR ?_;refine qai ?_;refine A0 (zR rfl rfl isl_177) ?_;refine qa8 ?_;refine Lp (ι:=Nat×Trial) 1 (fun (i:Nat×Trial)=>match i with|(k,x)=>((((Fr.none).set 0 (.ptr 0 0)).set 8 (.val (bsl fnoT) l)).set 9 (.val i64T (l.length:Int))).set 10 (.val i64T (k:Int))) (fun (i:Nat×Trial)=>match i with|(k,x)=>(Hp.none).set 0 (.box 173 trialT x)) (fun (i:Nat×Trial)=>match i with|(k,x)=>k≤l.length∧smallTrial x∧firstE l x0=firstE (l.drop k) x∧firstX l x0=firstX (l.drop k) x) (fun (i:Nat×Trial)=>match i with|(k,x)=>l.length-k) ((0,x0)) (⟨Nat.zero_le _,hx0,rfl,rfl⟩) ?_
 intro ⟨k,x⟩ hinv
 dsimp only at hinv
 refine qaj ?_;refine Cf (p:=k<l.length) (fun ht11=>?_) (fun ht11=>?_)
 ·
  obtain ⟨f,hf⟩:∃f,l[k]?=some f:=⟨_,List.getElem?_eq_getElem ht11⟩
  have hask:=hl f (List.mem_of_getElem? hf)
  rcases hask with he|he|he|he|he|he
  ·
   refine qa7 ?_;refine zi (d:=14) rfl he ?_;refine aw_fnclo (d:=14) (f:=114) rfl ?_;refine A0 mP ?_;refine A0 (g_callc (As:=[_]) (Cs:=[]) (ask_size x) rfl rfl fn_114 ⟨(by first|exact zez rfl rfl (Lens.self _)|exact zdN rfl rfl),trivial⟩ (by intro n hn;cases hn) trivial rfl) ?_;refine qbe ?_;refine qaS ?_;refine zr (p:=¬askOf f x=0) rfl (by simp [askOf,he,IntL.toI]) (fun ht18=>?_) (fun ht18=>?_)
   ·
    refine CQR ?_;refine A0 mX ?_;refine qaK ?_;refine zS (n:=0) (y:=askX f x) rfl (by rw [he];rfl) ?_
    exact zch rfl rfl rfl rfl rfl (zbb rfl (hinv.2.2.2.trans (zap hf ht18).2).symm) (zet (zbb rfl (hinv.2.2.2.trans (zap hf ht18).2).symm) rfl (by rw [hinv.2.2.1,(zap hf ht18).1,he];rfl))
   ·
    refine qbh ?_;refine zS (n:=0) (y:=askX f x) rfl (by rw [he];rfl) ?_
    exact Nx ((k+1,askX f x)) (⟨by omega,zbA hinv.2.1,hinv.2.2.1.trans (za8 hf (Classical.not_not.1 ht18)).1,hinv.2.2.2.trans (za8 hf (Classical.not_not.1 ht18)).2⟩) (by show l.length-(k+1)<l.length-k;omega)
  ·
   refine qa7 ?_;refine zi (d:=14) rfl he ?_;refine aw_fnclo (d:=14) (f:=115) rfl ?_;refine A0 mP ?_;refine A0 (g_callc (As:=[_]) (Cs:=[]) (ask_prev x) rfl rfl fn_115 ⟨(by first|exact zez rfl rfl (Lens.self _)|exact zdN rfl rfl),trivial⟩ (by intro n hn;cases hn) trivial rfl) ?_;refine qbe ?_;refine qaS ?_;refine zr (p:=¬askOf f x=0) rfl (by simp [askOf,he,IntL.toI]) (fun ht18=>?_) (fun ht18=>?_)
   ·
    refine CQR ?_;refine A0 mX ?_;refine qaK ?_;refine zS (n:=0) (y:=askX f x) rfl (by rw [he];rfl) ?_
    exact zch rfl rfl rfl rfl rfl (zbb rfl (hinv.2.2.2.trans (zap hf ht18).2).symm) (zet (zbb rfl (hinv.2.2.2.trans (zap hf ht18).2).symm) rfl (by rw [hinv.2.2.1,(zap hf ht18).1,he];rfl))
   ·
    refine qbh ?_;refine zS (n:=0) (y:=askX f x) rfl (by rw [he];rfl) ?_
    exact Nx ((k+1,askX f x)) (⟨by omega,zbA hinv.2.1,hinv.2.2.1.trans (za8 hf (Classical.not_not.1 ht18)).1,hinv.2.2.2.trans (za8 hf (Classical.not_not.1 ht18)).2⟩) (by show l.length-(k+1)<l.length-k;omega)
  ·
   refine qa7 ?_;refine zi (d:=14) rfl he ?_;refine aw_fnclo (d:=14) (f:=116) rfl ?_;refine A0 mP ?_;refine A0 (g_callc (As:=[_]) (Cs:=[]) (ask_link x hinv.2.1) rfl rfl fn_116 ⟨(by first|exact zez rfl rfl (Lens.self _)|exact zdN rfl rfl),trivial⟩ (by intro n hn;cases hn) trivial rfl) ?_;refine qbe ?_;refine qaS ?_;refine zr (p:=¬askOf f x=0) rfl (by simp [askOf,he,IntL.toI]) (fun ht18=>?_) (fun ht18=>?_)
   ·
    refine CQR ?_;refine A0 mX ?_;refine qaK ?_;refine zS (n:=0) (y:=askX f x) rfl (by rw [he];rfl) ?_
    exact zch rfl rfl rfl rfl rfl (zbb rfl (hinv.2.2.2.trans (zap hf ht18).2).symm) (zet (zbb rfl (hinv.2.2.2.trans (zap hf ht18).2).symm) rfl (by rw [hinv.2.2.1,(zap hf ht18).1,he];rfl))
   ·
    refine qbh ?_;refine zS (n:=0) (y:=askX f x) rfl (by rw [he];rfl) ?_
    exact Nx ((k+1,askX f x)) (⟨by omega,zbA hinv.2.1,hinv.2.2.1.trans (za8 hf (Classical.not_not.1 ht18)).1,hinv.2.2.2.trans (za8 hf (Classical.not_not.1 ht18)).2⟩) (by show l.length-(k+1)<l.length-k;omega)
  ·
   refine qa7 ?_;refine zi (d:=14) rfl he ?_;refine aw_fnclo (d:=14) (f:=117) rfl ?_;refine A0 mP ?_;refine A0 (g_callc (As:=[_]) (Cs:=[]) (ask_root x) rfl rfl fn_117 ⟨(by first|exact zez rfl rfl (Lens.self _)|exact zdN rfl rfl),trivial⟩ (by intro n hn;cases hn) trivial rfl) ?_;refine qbe ?_;refine qaS ?_;refine zr (p:=¬askOf f x=0) rfl (by simp [askOf,he,IntL.toI]) (fun ht18=>?_) (fun ht18=>?_)
   ·
    refine CQR ?_;refine A0 mX ?_;refine qaK ?_;refine zS (n:=0) (y:=askX f x) rfl (by rw [he];rfl) ?_
    exact zch rfl rfl rfl rfl rfl (zbb rfl (hinv.2.2.2.trans (zap hf ht18).2).symm) (zet (zbb rfl (hinv.2.2.2.trans (zap hf ht18).2).symm) rfl (by rw [hinv.2.2.1,(zap hf ht18).1,he];rfl))
   ·
    refine qbh ?_;refine zS (n:=0) (y:=askX f x) rfl (by rw [he];rfl) ?_
    exact Nx ((k+1,askX f x)) (⟨by omega,zbA hinv.2.1,hinv.2.2.1.trans (za8 hf (Classical.not_not.1 ht18)).1,hinv.2.2.2.trans (za8 hf (Classical.not_not.1 ht18)).2⟩) (by show l.length-(k+1)<l.length-k;omega)
  ·
   refine qa7 ?_;refine zi (d:=14) rfl he ?_;refine aw_fnclo (d:=14) (f:=118) rfl ?_;refine A0 mP ?_;refine A0 (g_callc (As:=[_]) (Cs:=[]) (ask_work x) rfl rfl fn_118 ⟨(by first|exact zez rfl rfl (Lens.self _)|exact zdN rfl rfl),trivial⟩ (by intro n hn;cases hn) trivial rfl) ?_;refine qbe ?_;refine qaS ?_;refine zr (p:=¬askOf f x=0) rfl (by simp [askOf,he,IntL.toI]) (fun ht18=>?_) (fun ht18=>?_)
   ·
    refine CQR ?_;refine A0 mX ?_;refine qaK ?_;refine zS (n:=0) (y:=askX f x) rfl (by rw [he];rfl) ?_
    exact zch rfl rfl rfl rfl rfl (zbb rfl (hinv.2.2.2.trans (zap hf ht18).2).symm) (zet (zbb rfl (hinv.2.2.2.trans (zap hf ht18).2).symm) rfl (by rw [hinv.2.2.1,(zap hf ht18).1,he];rfl))
   ·
    refine qbh ?_;refine zS (n:=0) (y:=askX f x) rfl (by rw [he];rfl) ?_
    exact Nx ((k+1,askX f x)) (⟨by omega,zbA hinv.2.1,hinv.2.2.1.trans (za8 hf (Classical.not_not.1 ht18)).1,hinv.2.2.2.trans (za8 hf (Classical.not_not.1 ht18)).2⟩) (by show l.length-(k+1)<l.length-k;omega)
  ·
   refine qa7 ?_;refine zi (d:=14) rfl he ?_;refine aw_fnclo (d:=14) (f:=119) rfl ?_;refine A0 mP ?_;refine aw_calluv (ask_coins x hinv.2.1) rfl rfl fn_119 rfl trivial trivial rfl ⟨(by first|exact zaN rfl|exact zaM rfl|exact zat rfl|exact zaQ rfl|exact zaO rfl|exact zaP rfl|exact zaL rfl rfl (by decide)),trivial⟩ rfl rfl rfl ?_;refine qbe ?_;refine qaS ?_;refine zr (p:=¬askOf f x=0) rfl (by simp [askOf,he,IntL.toI]) (fun ht18=>?_) (fun ht18=>?_)
   ·
    refine CQR ?_;refine A0 mX ?_;refine qaK ?_;refine zS (n:=0) (y:=askX f x) rfl (by rw [he];rfl) ?_
    exact zch rfl rfl rfl rfl rfl (zbb rfl (hinv.2.2.2.trans (zap hf ht18).2).symm) (zet (zbb rfl (hinv.2.2.2.trans (zap hf ht18).2).symm) rfl (by rw [hinv.2.2.1,(zap hf ht18).1,he];rfl))
   ·
    refine qbh ?_;refine zS (n:=0) (y:=askX f x) rfl (by rw [he];rfl) ?_
    exact Nx ((k+1,askX f x)) (⟨by omega,zbA hinv.2.1,hinv.2.2.1.trans (za8 hf (Classical.not_not.1 ht18)).1,hinv.2.2.2.trans (za8 hf (Classical.not_not.1 ht18)).2⟩) (by show l.length-(k+1)<l.length-k;omega)
 ·
  refine CE ?_;refine qa5 ?_
  exact zch rfl rfl rfl rfl rfl (zbb rfl (hinv.2.2.2.trans (first_end (by omega)).2).symm) (zet (zbb rfl (hinv.2.2.2.trans (first_end (by omega)).2).symm) rfl (hinv.2.2.1.trans (first_end (by omega)).1).symm)
set_option maxRecDepth 20000
def pushE (t:Tip) (b:Block):Int :=
  if 48≤b.h.height then 3 else if ¬behindH b.h=behindH (nextH t b.t b.h.nonce) then 5 else
  if ¬b.h.links=(nextH t b.t b.h.nonce).links∨¬b.l=linksT t then 6 else if ¬b.h=nextH t b.t b.h.nonce then 7 else
  if ¬headMay b.h=true then 4 else (applyOf t.c b.t).2
def pushT (t:Tip) (b:Block):Tip:=if pushE t b=0 then ⟨b,mmrAppend t.p (leafH b.h),(applyOf t.c b.t).1⟩ else t
def mineBE (t:Tip) (l:List Tx) (nonce:UInt64) (tries:Int):Int :=
  if 48≤(nextH t l nonce).height then 3 else if ¬(applyOf t.c l).2=0 then (applyOf t.c l).2 else if (mineOf (nextH t l nonce) tries).isSome=true then 0 else 4
def mineB (t:Tip) (l:List Tx) (nonce:UInt64) (tries:Int):Block :=
  if mineBE t l nonce tries=0 then ⟨(mineOf (nextH t l nonce) tries).getD (nextH t l nonce),linksT t,l⟩ else zBlock
theorem ask_two {x:Trial}:firstE [some 114,some 119] x=if 48≤x.b.h.height then 3 else (applyOf x.t.c x.b.t).2:=by
  show (if sizeE x=0 then (if coinsE x=0 then 0 else coinsE x) else sizeE x)=_
  unfold sizeE coinsE
  by_cases h:48≤x.b.h.height
  · rw [if_pos h,if_pos h,if_neg (by decide)]
  · rw [if_neg h,if_neg h,if_pos rfl];split<;>simp_all
theorem ite_stop {p:Prop} [Decidable p] {e r:Int} (he:e≠0):(if (if p then e else 0)=0 then r else (if p then e else 0))=if p then e else r:=by
  by_cases h:p
  · rw [if_pos h,if_pos h,if_neg he]
  · rw [if_neg h,if_neg h,if_pos rfl]
theorem ask_all {t:Tip} {b:Block} {c:List Coin}:firstE [some 114,some 115,some 116,some 117,some 118,some 119] ⟨t,b,nextH t b.t b.h.nonce,c⟩=pushE t b:=by
  obtain ⟨x,hx⟩:∃x:Trial,x=⟨t,b,nextH t b.t b.h.nonce,c⟩:=⟨_,rfl⟩
  have e:pushE t b=pushE x.t x.b:=by rw [hx]
  have hw:x.want=nextH x.t x.b.t x.b.h.nonce:=by rw [hx]
  rw [e,←hx]
  show (if sizeE x=0 then (if prevE x=0 then (if linkE x=0 then (if rootE x=0 then (if workE x=0 then (if coinsE x=0 then 0 else coinsE x) else workE x) else rootE x) else linkE x) else prevE x) else sizeE x)=_
  have hc:(if coinsE x=0 then 0 else coinsE x)=coinsE x:=by split<;>simp_all
  rw [hc]
  unfold sizeE prevE linkE rootE workE coinsE pushE
  rw [ite_stop (by decide),ite_stop (by decide),ite_stop (by decide),ite_stop (by decide),ite_stop (by decide),hw]
theorem ask_allX {t:Tip} {b:Block} {c:List Coin} (h:pushE t b=0):(firstX [some 114,some 115,some 116,some 117,some 118,some 119] ⟨t,b,nextH t b.t b.h.nonce,c⟩).c=(applyOf t.c b.t).1:=by
  obtain ⟨x,hx⟩:∃x:Trial,x=⟨t,b,nextH t b.t b.h.nonce,c⟩:=⟨_,rfl⟩
  have hw:x.want=nextH x.t x.b.t x.b.h.nonce:=by rw [hx]
  have h:pushE x.t x.b=0:=by rw [hx];exact h
  have e:(applyOf t.c b.t).1=(applyOf x.t.c x.b.t).1:=by rw [hx]
  rw [e,←hx]
  show (if sizeE x=0 then (if prevE x=0 then (if linkE x=0 then (if rootE x=0 then (if workE x=0 then (if coinsE x=0 then coinsX x else coinsX x) else x) else x) else x) else x) else x).c=_
  unfold pushE at h
  rw [←hw] at h
  by_cases h1:48≤x.b.h.height
  · rw [if_pos h1] at h;exact absurd h (by decide)
  rw [if_neg h1] at h
  by_cases h2:¬behindH x.b.h=behindH x.want
  · rw [if_pos h2] at h;exact absurd h (by decide)
  rw [if_neg h2] at h
  by_cases h3:¬x.b.h.links=x.want.links∨¬x.b.l=linksT x.t
  · rw [if_pos h3] at h;exact absurd h (by decide)
  rw [if_neg h3] at h
  by_cases h4:¬x.b.h=x.want
  · rw [if_pos h4] at h;exact absurd h (by decide)
  rw [if_neg h4] at h
  by_cases h5:¬headMay x.b.h=true
  · rw [if_pos h5] at h;exact absurd h (by decide)
  rw [if_neg h5] at h
  unfold sizeE prevE linkE rootE workE coinsE
  rw [if_neg h1,if_neg h2,if_neg h3,if_neg h4,if_neg h5,if_pos rfl,if_pos rfl,if_pos rfl,if_pos rfl,if_pos rfl,if_pos h]
  rfl
theorem asks_all:∀f∈([some 114,some 115,some 116,some 117,some 118,some 119]:List (Option Nat)),Asks f:=by intro f hf;simp at hf;unfold Asks;exact hf
theorem asks_two:∀f∈([some 114,some 119]:List (Option Nat)),Asks f:=by intro f hf;simp at hf;unfold Asks;rcases hf with h|h<;>simp [h]
theorem mineBE_err {t:Tip} {l:List Tx} {nonce:UInt64} {tries:Int} (h:¬(if 48≤(nextH t l nonce).height then 3 else (applyOf t.c l).2)=0):mineBE t l nonce tries=(if 48≤(nextH t l nonce).height then 3 else (applyOf t.c l).2):=by
  unfold mineBE
  split
  · rfl
  · rename_i h1;rw [if_neg h1] at h;rw [if_pos h]
theorem mineBE_work {t:Tip} {l:List Tx} {nonce:UInt64} {tries:Int} (h:(if 48≤(nextH t l nonce).height then 3 else (applyOf t.c l).2)=0) (h2:¬(mineOf (nextH t l nonce) tries).isSome=true):mineBE t l nonce tries=4:=by
  unfold mineBE
  split
  · rename_i h1;rw [if_pos h1] at h;exact absurd h (by decide)
  · rename_i h1;rw [if_neg h1] at h;simp only [h,h2,not_true_eq_false,if_false]
theorem mineBE_ok {t:Tip} {l:List Tx} {nonce:UInt64} {tries:Int} (h:(if 48≤(nextH t l nonce).height then 3 else (applyOf t.c l).2)=0) (h2:(mineOf (nextH t l nonce) tries).isSome=true):mineBE t l nonce tries=0:=by
  unfold mineBE
  split
  · rename_i h1;rw [if_pos h1] at h;exact absurd h (by decide)
  · rename_i h1;rw [if_neg h1] at h;simp only [h,h2,not_true_eq_false,if_false]
theorem push_ok (t:Tip) (b:Block) (ht:smallTip t) (hb:smallB b):Tells P 64 [.val tipT t,.val blockT b] (.tup2 (.val tipT (pushT t b)) (.val i64T (pushE t b))):=by
 have hbt:=hb.2.1
 have htp:=ht.2.1
 refine zc Tryz.func64 rfl rfl rfl (fun ext w hext=>?_)
 refine qa6 ?_;refine qbx ?_;refine qaL ?_;refine zE [some 1,some 1,some 1,some 1,some 1,some 1,some 1,some 1,some 1,some 1,none,some 1] mixed (by decide +kernel) ?_;refine X0 (oLs rfl rfl rfl zcT) ?_;refine X0 (oLs rfl rfl rfl zb5) ?_;refine X0 (oLs rfl rfl rfl zcT) ?_;refine X0 (oFp zb4) ?_;refine X0 (oLb zbS ty_56) ?_;refine X0 (oFp zaw) ?_;refine X0 (oFp zcW) ?_;refine X0 (oLb (zah.comp zbQ) zbi) ?_;refine X0 (oCl (nextH_ok t b.t b.h.nonce (by omega) (by omega)) rfl fn_113 ⟨(zd rfl),(zd rfl),(zd rfl),trivial⟩) ?_
 refine X0 (zC rfl ze_173 bd_173 (.cons fd_173_0 L_Trial_t zcT rfl (.cons zdK zcK zb5 rfl (.cons fd_173_2 zdq zav rfl .nil))) rfl) ?_;refine XK.e (fun fr' hfr kk H=>by exact aw_box rfl rfl rfl rfl ((hfr 18 (by decide +kernel)).trans rfl) (zK H)) ?_;refine X0 aP ?_;refine XK.nil' ?_;refine CQR ?_;refine A0 (g_buildF (xs:=[_,_,_,_,_,_]) rfl ar_175 ze_175 ⟨rfl,⟨_,rfl,rfl⟩,rfl,⟨_,rfl,rfl⟩,rfl,⟨_,rfl,rfl⟩,rfl,⟨_,rfl,rfl⟩,rfl,⟨_,rfl,rfl⟩,rfl,⟨_,rfl,rfl⟩,trivial⟩ rfl) ?_;refine zw ze_175 rfl rfl rfl rfl ?_
 refine zh rfl rfl rfl rfl rfl (Lens.self _) ty_175 rfl ?_;refine CNQ ?_;refine CQ ?_;refine zdm (d:=7) rfl rfl (Lens.self _) ?_;refine CR ?_;refine A0 mP ?_;refine A0 (zbz rfl rfl ar_175 rfl rfl) ?_
 refine zfh (first_ok ⟨t,b,nextH t b.t b.h.nonce,[]⟩ [some 114,some 115,some 116,some 117,some 118,some 119] ⟨ht,by show b.t.length≤4000000000000;omega⟩ asks_all) rfl fn_120 rfl trivial trivial rfl ⟨(by first|exact zaN rfl|exact zaM rfl|exact zat rfl|exact zaQ rfl|exact zaO rfl|exact zaP rfl|exact zaL rfl rfl (by decide)),(by first|exact zaN rfl|exact zaM rfl|exact zat rfl|exact zaQ rfl|exact zaO rfl|exact zaP rfl|exact zaL rfl rfl (by decide)),trivial⟩ rfl rfl rfl ?_;refine zi (d:=23) rfl ask_all ?_;refine qad ?_
 refine qaS ?_;refine zr (p:=¬pushE t b=0) rfl (by simp [IntL.toI]) (fun ht25=>?_) (fun ht25=>?_)
 ·
  refine CQR ?_;refine A0 (oLs rfl rfl rfl zcT) ?_;refine A0 (oCl (own_ok t ht) rfl fn_121 ⟨(zd rfl),trivial⟩) ?_;refine qaw ?_;refine qa4 ?_;refine qac ?_
  exact zz rfl rfl (zF rfl rfl zcT (by unfold pushT;rw [if_neg ht25])) (zaf (za rfl (rfl)))
 ·
  refine CS ?_;refine CQ ?_;refine zE [some 1,some 1,some 1,some 1,some 1,some 1,some 1,some 1,some 1,some 1,some 1,some 1,some 1,none,some 1] mixed (by decide +kernel) ?_;refine X0 (oLs rfl rfl rfl zb5) ?_;refine X0 (oCl (copied_ok b hb) rfl fn_122 ⟨(zd rfl),trivial⟩) ?_;refine X0 (oFp fd_65_1) ?_;refine X0 (oLb L_Tip_p ty_62) ?_;refine X0 (oFp zaw) ?_;refine X0 (oLb zah zav) ?_;refine X0 (oCl (leafH_ok _) rfl fn_110 ⟨(zd rfl),trivial⟩) ?_;refine X0 (oCl (zp (mmrAppend_ok t.p (leafH b.h) (by omega))) rfl fn_109 ⟨(zd rfl),(zd rfl),trivial⟩) ?_
  refine X0 mP ?_;refine X0 (g_nc rfl rfl) ?_;refine X0 (oFp fd_173_3) ?_;refine X0 (oLb L_Trial_c ty_63) ?_;refine X0 (zC rfl ze_65 bd_65 (.cons zdu zdy zb5 rfl (.cons fd_65_1 L_Tip_p ty_62 rfl (.cons fd_65_2 L_Tip_c ty_63 rfl .nil))) rfl) ?_;refine XK.e (x:=.idk) (fun fr' hfr kk H=>by exact zh rfl rfl rfl ((hfr 4 (by decide +kernel)).trans rfl) rfl (Lens.self _) zcT ((hfr 41 (by decide +kernel)).trans rfl) (zK H)) ?_;refine X0 aV ?_;refine XK.nil' ?_
  exact zz rfl rfl (zF rfl rfl zcT (by unfold pushT;rw [if_pos (Classical.not_not.1 ht25),ask_allX (Classical.not_not.1 ht25)])) (zaf (za rfl ((Classical.not_not.1 ht25).symm)))
theorem mineB_ok (t:Tip) (l:List Tx) (nonce:UInt64) (tries:Int) (ht:smallTip t) (hl:smallL l):Tells P 127 [.val tipT t,.val (sl txT) l,.val u64T nonce,.val i64T tries] (.tup2 (.val blockT (mineB t l nonce tries)) (.val i64T (mineBE t l nonce tries))):=by
 have hbt:=hl.1
 have htp:=ht.2.1
 refine zc Tryz.func127 rfl rfl rfl (fun ext w hext=>?_)
 refine ze (d:=1) rfl zk (fun hsl1=>?_)
 refine ze (d:=3) rfl zn (fun hin3=>?_)
 refine qaf ?_;refine zw ze_58 rfl rfl rfl rfl ?_;refine qar ?_;refine A0 (oLs rfl rfl rfl zcT) ?_;refine qak ?_;refine A0 (oCl (nextH_ok t l nonce (by omega) (by omega)) rfl fn_113 ⟨(zd rfl),(zd rfl),(zd rfl),trivial⟩) ?_;refine qbU ?_;refine qaO ?_;refine CNQR ?_;refine A0 (oLs rfl rfl rfl zcT) ?_;refine qb4 ?_;refine qaw ?_;refine A0 (zC rfl ze_58 bd_58 (.cons zaw zah zav rfl (.cons zb4 zbS ty_56 rfl .nil)) rfl) ?_;refine qb4 ?_
 refine A0 (zC rfl ze_173 bd_173 (.cons fd_173_0 L_Trial_t zcT rfl (.cons zdK zcK zb5 rfl (.cons fd_173_2 zdq zav rfl .nil))) rfl) ?_;refine aw_box rfl rfl rfl rfl rfl ?_;refine A0 aP ?_;refine CNQQR ?_;refine A0 mP ?_;refine A0 (g_bslF (xs:=[_,_]) rfl sl_177 row_177 ⟨rfl,⟨_,rfl,rfl⟩,rfl,⟨_,rfl,rfl⟩,trivial⟩ rfl rfl) ?_
 refine zfh (first_ok ⟨t,⟨nextH t l nonce,[],l⟩,nextH t l nonce,[]⟩ [some 114,some 119] ⟨ht,by show l.length≤4000000000000;omega⟩ asks_two) rfl fn_120 rfl trivial trivial rfl ⟨(by first|exact zaN rfl|exact zaM rfl|exact zat rfl|exact zaQ rfl|exact zaO rfl|exact zaP rfl|exact zaL rfl rfl (by decide)),(by first|exact zaN rfl|exact zaM rfl|exact zat rfl|exact zaQ rfl|exact zaO rfl|exact zaP rfl|exact zaL rfl rfl (by decide)),trivial⟩ rfl rfl rfl ?_;refine zi (d:=27) rfl ask_two ?_;refine qad ?_;refine qaS ?_
 refine zr (p:=¬(if 48≤(nextH t l nonce).height then 3 else (applyOf t.c l).2)=0) rfl (by simp [IntL.toI]) (fun ht29=>?_) (fun ht29=>?_)
 ·
  have hE:mineBE t l nonce tries=(if 48≤(nextH t l nonce).height then 3 else (applyOf t.c l).2):=mineBE_err ht29
  refine CQR ?_;refine A0 (zC rfl ze_58 bd_58 .nil rfl) ?_;refine qaw ?_;refine qbf ?_;refine qac ?_
  exact zz rfl rfl (zF rfl rfl zb5 (by unfold mineB;rw [hE,if_neg ht29])) (zaf (za rfl (hE.symm)))
 ·
  refine CSQR ?_;refine qb4 ?_;refine qaw ?_;refine A0 (oCl (mine_ok (nextH t l nonce) tries) rfl fn_183 ⟨(zd rfl),(zd rfl),trivial⟩) ?_;refine A0 mX ?_;refine A0 (by first|exact zN rfl rfl|exact zM rfl rfl) ?_;refine A0 (by first|exact zQ rfl rfl|exact zP rfl rfl) ?_;refine qaO ?_;refine qai ?_;refine qaN ?_;refine zr (p:=¬(mineOf (nextH t l nonce) tries).isSome=true) rfl (by cases (mineOf (nextH t l nonce) tries).isSome<;>rfl) (fun ht39=>?_) (fun ht39=>?_)
  ·
   have hE:mineBE t l nonce tries=4:=mineBE_work (Classical.not_not.1 ht29) ht39
   refine CQR ?_;refine A0 (zC rfl ze_58 bd_58 .nil rfl) ?_;refine qbf ?_;refine qac ?_
   exact zz rfl rfl (zF rfl rfl zb5 (by unfold mineB;rw [hE];rfl)) (zaf (za rfl (hE.symm)))
  ·
   have hE:mineBE t l nonce tries=0:=mineBE_ok (Classical.not_not.1 ht29) (Classical.not_not.1 ht39)
   refine CS ?_;refine CQ ?_;refine zE [some 1,some 1,some 1,some 1,some 1,some 1,none,some 1] mixed (by decide +kernel) ?_;refine X0 (oLs rfl rfl rfl zav) ?_;refine X0 (oLs rfl rfl rfl zcT) ?_;refine X0 (oCl (zp (linksT_ok t)) rfl fn_171 ⟨(zd rfl),trivial⟩) ?_;refine X0 mV ?_;refine X0 (oCl (zp (txs_ok l hl)) rfl fn_175 ⟨(zd rfl),trivial⟩) ?_;refine X0 (zC rfl ze_58 bd_58 (.cons zaw zah zav rfl (.cons zbt zbc zbI rfl (.cons zb4 zbS ty_56 rfl .nil))) rfl) ?_
   refine XK.e (x:=.idk) (fun fr' hfr kk H=>by exact zh rfl rfl rfl ((hfr 8 (by decide +kernel)).trans rfl) rfl (Lens.self _) zb5 ((hfr 46 (by decide +kernel)).trans rfl) (zK H)) ?_;refine X0 aV ?_;refine XK.nil' ?_
   exact zz rfl rfl (zF rfl rfl zb5 (by unfold mineB;rw [hE,if_pos rfl])) (zaf (za rfl (hE.symm)))
set_option maxRecDepth 20000
def s2:Ab.Id:=[219,193,180,201,0,255,228,141,87,91,93,165,198,56,4,1,37,246,93,176,254,62,36,73,75,118,234,152,100,87,217,134]
def s4:Ab.Id:=[229,45,156,80,140,80,35,71,52,77,140,7,173,145,203,214,6,138,252,117,255,98,146,240,98,160,156,163,129,200,158,113]
def id0:Ab.Id:=[204,117,100,156,217,35,11,173,35,93,199,149,159,68,227,45,148,39,20,174,85,27,122,223,187,132,2,33,173,199,16,195]
def lk0:Ab.Id:=[191,122,202,251,39,175,213,3,220,82,240,192,217,1,99,0,242,60,209,156,152,127,176,94,46,148,67,11,109,16,112,47]
def easyH:Head:=⟨0,zId,s2,s2,s4,zWide,545259519,0⟩
def easyN (n:UInt64):Head:=⟨1,id0,lk0,s2,id0,[2,0,0,0],545259519,n⟩
theorem sum_s2:shaSum [2]=s2:=by kernel_rfl
theorem sum_s4:shaSum [4]=s4:=by kernel_rfl
theorem root_nil:rootOf []=s2:=by rw [rootOf,if_pos (show ([]:List Ab.Id).length=0 from rfl),sum_s2]
theorem root_one (x:Ab.Id):rootOf [x]=x:=by rw [rootOf,if_neg (show ¬[x].length=0 by simp),dif_pos (show [x].length≤1 by simp)];rfl
theorem easy_first:firstH 545259519=easyH:=by
  have e1:linkRoot []=s2:=root_nil
  have e2:txRoot []=s2:=root_nil
  have e3:(mmrRoot []).h=s4:=sum_s4
  unfold firstH;rw [e1,e2,e3];rfl
theorem easy_id:headId easyH=id0:=by kernel_rfl
theorem easy_work:headWork easyH=[2,0,0,0]:=by kernel_rfl
theorem easy_level:headLevel easyH=31:=by kernel_rfl
theorem easy_ok:tgtOk 545259519=true:=by kernel_rfl
theorem easy_lk:leafOf id0=lk0:=by kernel_rfl
theorem easy_may0:headMay (easyN 0)=false:=by kernel_rfl
theorem easy_may1:headMay (easyN 1)=true:=by kernel_rfl
set_option maxRecDepth 20000
def few (t:Tx):Bool:=decide (t.ins.length≤6∧t.outs.length≤6)
theorem few_ok (t:Tx):Tells P 73 [.val txT t] (.val boolT (few t)):=by
 refine zc Tryz.func73 rfl rfl rfl (fun ext w hext=>?_)
 refine qaf ?_;refine qar ?_;refine qaU ?_;refine A0 zcN ?_;refine Sp (d:=6) (p:=t.ins.length≤6) (fun g6=>?_) (fun g6=>?_)
 ·
  refine qaw ?_;refine qb6 ?_;refine A1 (zR rfl rfl zds) ?_;refine A1 zcN ?_;refine qa3 ?_
  exact zb rfl rfl (za rfl (by unfold few;symm;first|(rw [decide_eq_decide];simp only [IntL.toI,id_eq];omega)|(apply decide_eq_false;omega)|(simp [g6];done)|(simp [g6];omega)))
 ·
  refine qbJ ?_;refine A2 ?_;refine qa3 ?_
  exact zb rfl rfl (za rfl (by unfold few;symm;first|(rw [decide_eq_decide];simp only [IntL.toI,id_eq];omega)|(apply decide_eq_false;omega)|(simp [g6];done)|(simp [g6];omega)))
theorem fewAll_ok (l:List Tx) (m:Int):Tells P 30 [.val (bsl txT) l,.val i64T m] (.val boolT (l.all few&&decide ((l.length:Int)≤m))):=by
 refine zc Tryz.func30 rfl rfl rfl (fun ext w hext=>?_)
 refine ze (d:=0) rfl zk (fun hsl0=>?_)
 refine ze (d:=1) rfl zn (fun hin1=>?_)
 refine CQR ?_;refine qbu ?_;refine Lp (ι:=Nat) 0 (fun (k:Nat)=>(((Fr.none).set 0 (.val (bsl txT) l)).set 1 (.val i64T m)).set 5 (.val i64T (k:Int))) (fun (k:Nat)=>Hp.none) (fun (k:Nat)=>k≤l.length∧(l.take k).all few=true) (fun (k:Nat)=>l.length-k) (0) (⟨Nat.zero_le _,rfl⟩) ?_
 intro k hinv
 refine CQQR ?_;refine qak ?_;refine qbS ?_;refine qaG ?_;refine Cf (p:=k<l.length) (fun ht10=>?_) (fun ht10=>?_)
 ·
  obtain ⟨t,ht⟩:∃t,l[k]?=some t:=⟨_,List.getElem?_eq_getElem ht10⟩
  refine CSQBQR ?_;refine qak ?_;refine A0 (za0 rfl rfl rfl sl_56 (by assumption)) ?_;refine A0 (zg rfl rfl zc7) ?_;refine A0 (oCl (few_ok _) rfl fn_73 ⟨(by first|exact zB rfl|exact zZ rfl|exact zG rfl rfl|exact zX rfl|exact zx rfl|exact zag rfl rfl|exact zY rfl),trivial⟩) ?_;refine qad ?_;refine qaN ?_;refine zr (p:=¬few t=true) rfl (by simp) (fun ht19=>?_) (fun ht19=>?_)
  ·
   refine qa5 ?_
   exact zb rfl rfl (za rfl (by symm;rw [Bool.and_eq_false_iff];left;rw [List.all_eq_false];exact ⟨t,List.mem_of_getElem? ht,ht19⟩))
  ·
   refine qas ?_
   exact Nx (k+1) (⟨by omega,by rw [List.take_add_one,ht,List.all_append,hinv.2];simp [Classical.not_not.1 ht19]⟩) (by omega)
 ·
  refine CE ?_;refine qa1 ?_;refine qbS ?_;refine qaw ?_;refine A0 zcN ?_;refine qac ?_
  exact zb rfl rfl (za rfl (by rw [List.take_of_length_le (by omega)] at hinv;rw [hinv.2,Bool.true_and];rfl))
set_option maxRecDepth 20000
def leaf0:Total:=leafT id0 [2,0,0,0]
def easyTip:Tip:=⟨⟨easyH,[],[]⟩,[leaf0],[]⟩
def easyB:Block:=⟨easyN 1,[id0],[]⟩
def leaf1:Total:=leafH (easyN 1)
def easyTip2:Tip:=⟨easyB,mmrAppend [leaf0] leaf1,[]⟩
theorem easy_leaf:leafH easyH=leaf0:=by unfold leafH leaf0;rw [easy_id,easy_work]
theorem easy_tip:firstTip 545259519=easyTip:=by unfold firstTip;rw [if_pos easy_ok,easy_first,easy_leaf];rfl
theorem easy_links:linksT easyTip=[id0]:=by
  show linkNext [] (headId easyH) (headLevel easyH)=_
  rw [easy_id];unfold linkNext;rw [if_neg (show ¬32<([]:List Ab.Id).length by decide),if_pos (show ([]:List Ab.Id).length=0 from rfl)]
theorem easy_next (n:UInt64):nextH easyTip [] n=easyN n:=by
  have e1:linkRoot [id0]=lk0:=(root_one _).trans easy_lk
  have e2:txRoot []=s2:=root_nil
  unfold nextH
  rw [easy_links,e1,e2]
  show (⟨_,headId easyH,_,_,_,_,_,_⟩:Head)=_
  rw [easy_id];rfl
theorem easy_mine:mineOf (easyN 0) 200=some (easyN 1):=by
  unfold mineOf
  rw [mineFrom_step (by decide) (by rw [easy_may0];decide)]
  exact mineFrom_yes (by decide) easy_may1
theorem apply_nil:applyOf [] []=([],0):=by kernel_rfl
theorem easy_mineE:mineBE easyTip [] 0 200=0:=by
  unfold mineBE
  rw [easy_next,if_neg (by decide),show (applyOf easyTip.c []).2=0 from congrArg (·.2) apply_nil,if_neg (by decide),easy_mine];rfl
theorem easy_mineB:mineB easyTip [] 0 200=easyB:=by
  unfold mineB
  rw [easy_mineE,if_pos rfl,easy_next,easy_mine,easy_links];rfl
theorem easy_pushE:pushE easyTip easyB=0:=by
  unfold pushE
  have e:nextH easyTip easyB.t easyB.h.nonce=easyB.h:=easy_next 1
  rw [e,if_neg (by decide),if_neg (by simp),if_neg (by rw [easy_links];simp [easyB]),if_neg (by simp),if_neg (by rw [show headMay easyB.h=true from easy_may1];simp)]
  exact congrArg (·.2) apply_nil
theorem easy_pushT:pushT easyTip easyB=easyTip2:=by
  unfold pushT
  rw [easy_pushE,if_pos rfl,show (applyOf easyTip.c easyB.t).1=[] from congrArg (·.1) apply_nil];rfl
theorem small_easyB:smallB easyB:=by refine ⟨by decide,by decide,fun t ht=>by cases ht⟩
def fewB (b:Block):Bool:=(b.t.all few&&decide ((b.t.length:Int)≤6))&&decide (b.l.length≤40)
set_option maxRecDepth 20000
theorem eq_u32 {x y:UInt32}:decide (IntL.toI u32T x=IntL.toI u32T y)=decide (x=y):=by rw [decide_eq_decide];show ((x.toNat:Nat):Int)=((y.toNat:Nat):Int)↔_;rw [Int.ofNat_inj,UInt32.toNat_inj]
theorem pushR_len:∀(r:List Total) (x:Total),(pushR r x).length≤r.length+1
  | [],_=>Nat.le_refl _
  | y::r,x=>by
    rw [pushR]
    split
    · have:=pushR_len r (joinT y x);rw [List.length_cons];omega
    · rw [List.length_cons];omega
theorem mmrAppend_len {p:List Total} {x:Total}:(mmrAppend p x).length≤p.length+1:=by
  unfold mmrAppend
  have:=pushR_len p.reverse x
  rw [List.length_reverse] at this ⊢;exact this
theorem apply_may {p:List Coin} {l:List Tx} (h:(applyOf p l).2=0):mayCoins p=true:=by
  refine Classical.byContradiction fun hn=>?_
  unfold applyOf at h
  rw [if_pos hn] at h
  exact absurd h (show ¬(1:Int)=0 by decide)
theorem push_iff {t:Tip} {b:Block}:pushE t b=0↔b.h.height<48∧b.h=nextH t b.t b.h.nonce∧b.l=linksT t∧headMay b.h=true∧(applyOf t.c b.t).2=0:=by
  constructor
  · intro h
    unfold pushE at h
    by_cases h1:48≤b.h.height
    · rw [if_pos h1] at h;exact absurd h (by decide)
    rw [if_neg h1] at h
    by_cases h2:¬behindH b.h=behindH (nextH t b.t b.h.nonce)
    · rw [if_pos h2] at h;exact absurd h (by decide)
    rw [if_neg h2] at h
    by_cases h3:¬b.h.links=(nextH t b.t b.h.nonce).links∨¬b.l=linksT t
    · rw [if_pos h3] at h;exact absurd h (by decide)
    rw [if_neg h3] at h
    by_cases h4:¬b.h=nextH t b.t b.h.nonce
    · rw [if_pos h4] at h;exact absurd h (by decide)
    rw [if_neg h4] at h
    by_cases h5:¬headMay b.h=true
    · rw [if_pos h5] at h;exact absurd h (by decide)
    rw [if_neg h5] at h
    exact ⟨by omega,Classical.not_not.1 h4,Classical.not_not.1 fun hc=>h3 (.inr hc),Classical.not_not.1 h5,h⟩
  · rintro ⟨h1,h2,h3,h4,h5⟩
    unfold pushE
    rw [if_neg (by omega),if_neg (Classical.not_not.2 (congrArg behindH h2)),if_neg (fun h=>h.elim (fun h=>h (congrArg (·.links) h2)) fun h=>h h3),if_neg (Classical.not_not.2 h2),if_neg (Classical.not_not.2 h4)]
    exact h5
theorem zd7 {a:UInt32} (h:tgtOk a=true):firstTip a=⟨⟨firstH a,[],[]⟩,[leafH (firstH a)],[]⟩:=by unfold firstTip;rw [if_pos h];rfl
set_option maxRecDepth 20000
theorem pushT_eq {t:Tip} {b:Block} (h:pushE t b=0):pushT t b=⟨b,mmrAppend t.p (leafH b.h),(applyOf t.c b.t).1⟩:=by unfold pushT;rw [if_pos h]
def GoodT (x:Total):Prop:=x.w.length=4∧-9223372036854775808≤x.n∧x.n≤9223372036854775807
theorem wrap_q (n:Int):∃q,IntKind.i64.wrap n=n+18446744073709551616*q∧-9223372036854775808≤IntKind.i64.wrap n∧IntKind.i64.wrap n≤9223372036854775807:=by
  have h:=zb3.1 (wrap_in n)
  refine ⟨(IntKind.i64.wrap n-n)/18446744073709551616,?_,h⟩
  simp only [IntKind.wrap,IntKind.signed,IntKind.bits]
  simp
  split<;>omega
def nS (l:List Total):Nat:=(l.map fun x=>nW x.w).sum
def iS (l:List Total):Int:=(l.map (·.n)).sum
theorem join_good {y x:Total} (hy:GoodT y) (hx:GoodT x):GoodT (joinT y x):=⟨addW_len hy.1 hx.1,(wrap_q _).choose_spec.2⟩
theorem join_sum {y x:Total} (hy:GoodT y) (hx:GoodT x):nW (joinT y x).w=(nW y.w+nW x.w)%W256∧∃q,(joinT y x).n=y.n+x.n+18446744073709551616*q:=⟨nW_add hy.1 hx.1,let ⟨q,h,_⟩:=wrap_q (y.n+x.n);⟨q,h⟩⟩
theorem rootFrom_sum:∀{r:List Total} {x:Total},(∀y∈r,GoodT y)→GoodT x→GoodT (rootFrom r x)∧nW (rootFrom r x).w=(nS r+nW x.w)%W256∧∃q,(rootFrom r x).n=iS r+x.n+18446744073709551616*q
  | [],x,_,hx=>⟨hx,by have:=nW_lt hx.1;show nW x.w=(0+nW x.w)%W256;unfold W256 at *;omega,0,by show x.n=0+x.n+_;omega⟩
  | y::r,x,hr,hx=>by
    have hy:=hr y (by simp)
    obtain ⟨h1,h2,q,h3⟩:=rootFrom_sum (r:=r) (fun z hz=>hr z (by simp [hz])) (join_good hy hx)
    obtain ⟨h4,q',h5⟩:=join_sum hy hx
    refine ⟨h1,?_,q+q',?_⟩
    · show nW (rootFrom r (joinT y x)).w=(nS (y::r)+nW x.w)%W256
      have e:nS (y::r)=nW y.w+nS r:=by unfold nS;simp
      rw [h2,h4,e];unfold W256;omega
    · show (rootFrom r (joinT y x)).n=iS (y::r)+x.n+_
      have e:iS (y::r)=y.n+iS r:=by unfold iS;simp
      rw [h3,h5,e];omega
theorem pushR_sum:∀{r:List Total} {x:Total},(∀y∈r,GoodT y)→GoodT x→(∀y∈pushR r x,GoodT y)∧nS (pushR r x)%W256=(nS r+nW x.w)%W256∧∃q,iS (pushR r x)=iS r+x.n+18446744073709551616*q
  | [],x,_,hx=>⟨fun y hy=>by simp [pushR] at hy;rw [hy];exact hx,by simp [pushR,nS],0,by simp [pushR,iS]⟩
  | y::r,x,hr,hx=>by
    have hy:=hr y (by simp)
    have e:nS (y::r)=nW y.w+nS r:=by unfold nS;simp
    have e':iS (y::r)=y.n+iS r:=by unfold iS;simp
    rw [pushR]
    split
    · obtain ⟨h1,h2,q,h3⟩:=pushR_sum (r:=r) (fun z hz=>hr z (by simp [hz])) (join_good hy hx)
      obtain ⟨h4,q',h5⟩:=join_sum hy hx
      refine ⟨h1,?_,q+q',?_⟩
      · rw [h2,h4,e];unfold W256;omega
      · rw [h3,h5,e'];omega
    · refine ⟨fun z hz=>?_,?_,0,?_⟩
      · rcases List.mem_cons.1 hz with h|h
        · rw [h];exact hx
        · exact hr z h
      · have:nS (x::y::r)=nW x.w+(nW y.w+nS r):=by unfold nS;simp
        rw [this,e];congr 1;omega
      · have:iS (x::y::r)=x.n+(y.n+iS r):=by unfold iS;simp
        rw [this,e'];omega
theorem rootR_sum {r:List Total} (hr:∀y∈r,GoodT y):GoodT (mmrRoot r.reverse)∧nW (mmrRoot r.reverse).w=nS r%W256∧∃q,(mmrRoot r.reverse).n=iS r+18446744073709551616*q:=by
  unfold mmrRoot
  rw [List.reverse_reverse]
  cases r with
  | nil=>exact ⟨⟨rfl,by decide,by decide⟩,rfl,0,rfl⟩
  | cons x r =>
    obtain ⟨h1,h2,q,h3⟩:=rootFrom_sum (r:=r) (fun z hz=>hr z (by simp [hz])) (hr x (by simp))
    refine ⟨h1,?_,q,?_⟩
    · show nW (rootFrom r x).w=_
      rw [h2];unfold nS;simp;congr 1;omega
    · show (rootFrom r x).n=_
      rw [h3];unfold iS;simp;omega
theorem zdb (h:Head):(headWork h).length=4:=by
  unfold headWork
  split
  · unfold workW
    split
    · refine addW_len ?_ rfl
      unfold divW divP
      split
      · rfl
      · simp only []
        have:∀(b:Wide) (n:Nat) (x:Wide×Wide),x.2.length=4→(divN b n x).2.length=4:=fun b n=>by
          induction n with
          | zero=>intro x hx;exact hx
          | succ n ih =>
            intro x hx
            rw [divN]
            refine ih _ ?_
            unfold divStep
            split
            · simp only [orBit,List.length_set];exact hx
            · exact hx
        exact this _ _ _ rfl
    · rfl
  · rfl
theorem append_sum {p:List Total} {h:Head} (hp:∀x∈p,GoodT x):(mmrRoot (mmrAppend p (leafH h))).w=addW (mmrRoot p).w (headWork h)∧(mmrRoot (mmrAppend p (leafH h))).n=IntKind.i64.wrap ((mmrRoot p).n+1):=by
  have hr:∀x∈p.reverse,GoodT x:=fun x hx=>hp x (by simpa using hx)
  have hx:GoodT (leafH h):=⟨zdb h,by show (-9223372036854775808:Int)≤1;decide,by show (1:Int)≤9223372036854775807;decide⟩
  obtain ⟨a1,a2,q1,a3⟩:=pushR_sum hr hx
  obtain ⟨b1,b2,q2,b3⟩:=rootR_sum a1
  obtain ⟨c1,c2,q3,c3⟩:=rootR_sum hr
  rw [List.reverse_reverse] at c1 c2 c3
  constructor
  · refine nW_inj b1.1 (addW_len c1.1 (zdb h)) ?_
    rw [nW_add c1.1 (zdb h),c2]
    show nW (mmrRoot (pushR p.reverse (leafH h)).reverse).w=_
    rw [b2,a2]
    show (nS p.reverse+nW (headWork h))%W256=_
    unfold W256;omega
  · show (mmrRoot (pushR p.reverse (leafH h)).reverse).n=_
    obtain ⟨q4,d1,d2⟩:=wrap_q ((mmrRoot p).n+1)
    have e:(leafH h).n=1:=rfl
    have:=b1.2
    omega
set_option maxRecDepth 20000
def checkFrom:Tip→List Block→Tip×Int
  | t,[]=>(t,0)
  | t,b::l=>if pushE t b=0 then checkFrom (pushT t b) l else (zTip,pushE t b)
def checkOf (l:List Block):Tip×Int :=
  match l with
  | []=>(zTip,9)
  | g::r=>if tgtOk g.h.bits=true∧(firstTip g.h.bits).b=g then checkFrom (firstTip g.h.bits) r else (zTip,12)
def growE (l:List Block) (t:List Tx) (nonce:UInt64):Int:=if (checkOf l).2=0 then mineBE (checkOf l).1 t nonce 200 else (checkOf l).2
def growOf (l:List Block) (t:List Tx) (nonce:UInt64):List Block:=if growE l t nonce=0 then l++[mineB (checkOf l).1 t nonce 200] else l
def levelsOf (l:List Block):List Int:=l.map fun b=>headLevel b.h
def leavesOf (l:List Block):List Total:=l.map fun b=>leafH b.h
def smallC (l:List Block):Prop:=l.length*232≤140737488351232∧∀b∈l,smallB b
def Chain (l:List Block) (t:Tip):Prop:=checkOf l=(t,0)
theorem checkFrom_app:∀{l m:List Block} {t:Tip},checkFrom t (l++m)=if (checkFrom t l).2=0 then checkFrom (checkFrom t l).1 m else checkFrom t l
  | [],m,t=>by simp [checkFrom]
  | b::l,m,t=>by
    rw [List.cons_append,checkFrom,checkFrom]
    by_cases h:pushE t b=0
    · rw [if_pos h,if_pos h];exact checkFrom_app
    · rw [if_neg h,if_neg h,if_neg h]
theorem checkOf_app {l m:List Block} (h:¬l=[]):checkOf (l++m)=if (checkOf l).2=0 then checkFrom (checkOf l).1 m else checkOf l:=by
  cases l with
  | nil=>exact absurd rfl h
  | cons g r =>
    rw [List.cons_append]
    unfold checkOf
    simp only []
    by_cases h:tgtOk g.h.bits=true∧(firstTip g.h.bits).b=g
    · rw [if_pos h,if_pos h];exact checkFrom_app
    · rw [if_neg h,if_neg h];rfl
theorem chain_ne {l:List Block} (h:(checkOf l).2=0):¬l=[]:=fun e=>by rw [e] at h;exact absurd h (by decide)
theorem checkOf_snoc {l:List Block} {b:Block} (h:(checkOf l).2=0):checkOf (l++[b])=if pushE (checkOf l).1 b=0 then (pushT (checkOf l).1 b,0) else (zTip,pushE (checkOf l).1 b):=by
  rw [checkOf_app (chain_ne h),if_pos h];rfl
theorem zfe {l:List Block} (h:(checkOf l).2=0):Chain l (checkOf l).1:=by unfold Chain;rw [←h]
theorem chain_one {b:Block} {t:Tip} (h:Chain [b] t):tgtOk b.h.bits=true∧b=⟨firstH b.h.bits,[],[]⟩∧t=firstTip b.h.bits:=by
  unfold Chain checkOf at h
  simp only [] at h
  by_cases c:tgtOk b.h.bits=true∧(firstTip b.h.bits).b=b
  · rw [if_pos c] at h
    refine ⟨c.1,?_,(congrArg (·.1) h).symm⟩
    have:=c.2
    rw [zd7 c.1] at this
    exact this.symm
  · rw [if_neg c] at h;exact absurd (congrArg (·.2) h) (by show ¬(12:Int)=0;decide)
theorem chain_snoc {l:List Block} {b:Block} {t:Tip} (hl:¬l=[]) (h:Chain (l++[b]) t):∃t',Chain l t'∧pushE t' b=0∧t=pushT t' b:=by
  unfold Chain at h
  rw [checkOf_app hl] at h
  by_cases c:(checkOf l).2=0
  · rw [if_pos c] at h
    rw [checkFrom] at h
    by_cases d:pushE (checkOf l).1 b=0
    · rw [if_pos d,checkFrom] at h
      exact ⟨_,zfe c,d,(congrArg (·.1) h).symm⟩
    · rw [if_neg d] at h;exact absurd (congrArg (·.2) h) d
  · rw [if_neg c] at h;exact absurd (congrArg (·.2) h) c
theorem chain_ind {P:List Block→Tip→Prop} (h1:∀bits,tgtOk bits=true→P [⟨firstH bits,[],[]⟩] (firstTip bits)) (h2:∀l t b,Chain l t→P l t→pushE t b=0→P (l++[b]) (pushT t b)):∀(n:Nat) (l:List Block) (t:Tip),l.length=n→Chain l t→P l t
  | 0,l,t,hn,h=>absurd (List.eq_nil_of_length_eq_zero hn) (chain_ne (congrArg (·.2) h))
  | n+1,l,t,hn,h=>by
    have hl:¬l=[]:=fun e=>by rw [e] at hn;cases hn
    obtain ⟨r,b,rfl⟩:∃r b,l=r++[b]:=⟨l.dropLast,l.getLast hl,(List.dropLast_concat_getLast hl).symm⟩
    by_cases hr:r=[]
    · subst hr
      obtain ⟨e1,e2,e3⟩:=chain_one h
      rw [e3,List.nil_append]
      have:=h1 b.h.bits e1
      rw [←e2] at this;exact this
    · obtain ⟨t',e1,e2,e3⟩:=chain_snoc hr h
      rw [e3]
      exact h2 _ _ _ e1 (chain_ind h1 h2 n r t' (by simp at hn;omega) e1) e2
theorem chain_tip {l:List Block} {t:Tip} (h:Chain l t):l.getLast?=some t.b∧t.b.h.height=(l.length:Int)-1∧l.length≤48∧t.p=(leavesOf l).foldl mmrAppend []∧(∃g,l[0]?=some g∧t.b.h.bits=g.h.bits):=by
  refine chain_ind (P:=fun l t=>l.getLast?=some t.b∧t.b.h.height=(l.length:Int)-1∧l.length≤48∧t.p=(leavesOf l).foldl mmrAppend []∧(∃g,l[0]?=some g∧t.b.h.bits=g.h.bits)) (fun bits hb=>?_) (fun l t b hc hi hp=>?_) l.length l t rfl h
  · rw [zd7 hb]
    exact ⟨rfl,rfl,Nat.le_of_ble_eq_true rfl,rfl,_,rfl,rfl⟩
  · obtain ⟨i1,i2,i3,i4,g,i5,i6⟩:=hi
    obtain ⟨p1,p2,_⟩:=push_iff.1 hp
    have hne:0<l.length:=List.length_pos_iff.2 (chain_ne (congrArg (·.2) hc))
    have e:b.h.height=IntKind.i64.wrap (t.b.h.height+1):=congrArg (·.height) p2
    rw [i2,zaa (by omega)] at e
    rw [pushT_eq hp]
    refine ⟨by simp,?_,?_,?_,g,?_,?_⟩
    · show b.h.height=_
      rw [e,List.length_append,List.length_singleton];omega
    · rw [List.length_append,List.length_singleton];omega
    · show mmrAppend t.p (leafH b.h)=_
      rw [i4];unfold leavesOf;rw [List.map_append,List.foldl_append];rfl
    · rw [List.getElem?_append_left hne];exact i5
    · show b.h.bits=_
      rw [show b.h.bits=t.b.h.bits from congrArg (·.bits) p2,i6]
theorem chain_take {l:List Block} {t:Tip} {i:Nat} (h:Chain l t) (hi:1≤i) (hl:i≤l.length):∃t',Chain (l.take i) t'∧checkFrom t' (l.drop i)=(t,0):=by
  have hne:¬l.take i=[]:=fun e=>by have:=congrArg List.length e;rw [List.length_take] at this;change min i l.length=0 at this;omega
  have h0:checkOf (l.take i++l.drop i)=(t,0):=by rw [List.take_append_drop];exact h
  rw [checkOf_app hne] at h0
  by_cases c:(checkOf (l.take i)).2=0
  · rw [if_pos c] at h0;exact ⟨_,zfe c,h0⟩
  · rw [if_neg c] at h0;exact absurd (congrArg (·.2) h0) c
theorem chain_at {l:List Block} {t:Tip} {i:Nat} {b:Block} (h:Chain l t) (hi:1≤i) (hb:l[i]?=some b):∃t',Chain (l.take i) t'∧pushE t' b=0∧l[i-1]?=some t'.b:=by
  obtain ⟨hl,e⟩:=List.getElem?_eq_some_iff.1 hb
  obtain ⟨t',h1,h2⟩:=chain_take h hi (Nat.le_of_lt hl)
  rw [List.drop_eq_getElem_cons hl,e,checkFrom] at h2
  refine ⟨t',h1,?_,?_⟩
  · by_cases c:pushE t' b=0
    · exact c
    · rw [if_neg c] at h2;exact absurd (congrArg (·.2) h2) c
  · have:=(chain_tip h1).1
    have h5:(l.take i)[i-1]?=l[i-1]?:=by rw [List.getElem?_take];split<;>first|rfl|omega
    rw [List.getLast?_eq_getElem?,List.length_take,Nat.min_eq_left (Nat.le_of_lt hl),h5] at this
    exact this
theorem small_nil {t:Tip} (h1:t.b.l=[]) (h2:t.b.t=[]) (h3:Nat.ble t.p.length 1=true) (h4:t.c=[]):smallTip t:=by
  have:=Nat.le_of_ble_eq_true h3
  refine ⟨⟨by rw [h1];decide,by rw [h2];decide,fun x hx=>by rw [h2] at hx;cases hx⟩,by omega,by rw [h4];decide⟩
def smallN (t:Tip) (n:Nat):Prop:=smallTip t∧t.p.length≤n+1∧t.b.h.height=n
theorem push_smallN {t:Tip} {b:Block} {n:Nat} (ht:smallN t n) (hn:n≤1000000000000) (hb:smallB b) (h:pushE t b=0):smallN (pushT t b) (n+1):=by
  obtain ⟨h6,h7,_,_,h5⟩:=push_iff.1 h
  rw [pushT_eq h]
  have h1:=mmrAppend_len (p:=t.p) (x:=leafH b.h)
  have h2:=zda (applyOf_tot (l:=b.t) (apply_may h5)).1
  obtain ⟨_,h3,h4⟩:=ht
  have e:b.h.height=IntKind.i64.wrap (t.b.h.height+1):=congrArg (·.height) h7
  rw [h4,zaa (by omega)] at e
  refine ⟨⟨hb,?_,?_⟩,?_,?_⟩
  · show (mmrAppend t.p (leafH b.h)).length≤1000
    omega
  · show (applyOf t.c b.t).1.length≤1000
    omega
  · show (mmrAppend t.p (leafH b.h)).length≤n+1+1
    omega
  · show b.h.height=_
    rw [e];omega
theorem first_small {bits:UInt32}:smallN (firstTip bits) 0:=by
  by_cases h:tgtOk bits=true
  · rw [zd7 h];exact ⟨small_nil rfl rfl rfl rfl,Nat.le_of_ble_eq_true rfl,rfl⟩
  · have:firstTip bits=zTip:=by unfold firstTip;rw [if_neg h]
    rw [this];exact ⟨small_nil rfl rfl rfl rfl,Nat.le_of_ble_eq_true rfl,rfl⟩
theorem checkFrom_small:∀{l:List Block} {t:Tip} {n:Nat},smallN t n→n+l.length≤1000000000000→(∀b∈l,smallB b)→smallTip (checkFrom t l).1
  | [],t,n,ht,_,_=>ht.1
  | b::l,t,n,ht,hn,hl=>by
    rw [checkFrom]
    rw [List.length_cons] at hn
    split
    · rename_i h
      exact checkFrom_small (push_smallN ht (by omega) (hl b (by simp)) h) (by omega) fun x hx=>hl x (by simp [hx])
    · exact small_nil rfl rfl rfl rfl
theorem check_small {l:List Block} (h:smallC l):smallTip (checkOf l).1:=by
  cases l with
  | nil=>exact small_nil rfl rfl rfl rfl
  | cons g r =>
    unfold checkOf
    simp only []
    split
    · refine checkFrom_small first_small ?_ fun x hx=>h.2 x (by simp [hx])
      have:=h.1
      rw [List.length_cons] at this
      omega
    · exact small_nil rfl rfl rfl rfl
set_option maxRecDepth 20000
def lastAt (v:Nat→Int) (n:Int):Nat→Nat
  | 0=>0
  | i+1=>if 1≤i∧n≤v i∧0<n then i else lastAt v n i
theorem lastAt_congr {v u:Nat→Int} {n:Int}:∀{i:Nat},(∀k,k<i→v k=u k)→lastAt v n i=lastAt u n i
  | 0,_=>rfl
  | i+1,h=>by
    rw [lastAt,lastAt,h i (by omega),lastAt_congr (i:=i) fun k hk=>h k (by omega)]
theorem lastAt_lt {v:Nat→Int} {n:Int}:∀{i:Nat},lastAt v n i<i∨lastAt v n i=0
  | 0=>.inr rfl
  | i+1=>by
    rw [lastAt]
    split
    · left;omega
    · have:=lastAt_lt (v:=v) (n:=n) (i:=i);omega
def levelAt (l:List Block) (k:Nat):Int:=(l[k]?.map fun b=>headLevel b.h).getD 0
def idAt (l:List Block) (k:Nat):Ab.Id:=(l[k]?.map fun b=>headId b.h).getD []
def Linked (l:List Block) (L:List Ab.Id):Prop:=1≤L.length∧L.length≤32∧L[0]?=some (idAt l 0)∧∀n:Nat,1≤n→n≤31→(n<L.length→0<lastAt (levelAt l) n l.length∧L[n]?=some (idAt l (lastAt (levelAt l) n l.length)))∧(L.length≤n→lastAt (levelAt l) n l.length=0)
theorem at_snoc {l:List Block} {b:Block} {k:Nat} (h:k<l.length):levelAt (l++[b]) k=levelAt l k∧idAt (l++[b]) k=idAt l k:=by
  unfold levelAt idAt;rw [List.getElem?_append_left h];exact ⟨rfl,rfl⟩
theorem at_last {l:List Block} {b:Block}:levelAt (l++[b]) l.length=headLevel b.h∧idAt (l++[b]) l.length=headId b.h:=by
  unfold levelAt idAt;rw [List.getElem?_append_right (Nat.le_refl _),Nat.sub_self];exact ⟨rfl,rfl⟩
theorem linked_step {l:List Block} {L:List Ab.Id} {b:Block} (hl:1≤l.length) (h:Linked l L):Linked (l++[b]) (linkNext L (headId b.h) (headLevel b.h)):=by
  obtain ⟨h1,h2,h3,h4⟩:=h
  have e0:idAt (l++[b]) 0=idAt l 0:=(at_snoc (by omega)).2
  have la:∀n:Nat,lastAt (levelAt (l++[b])) n (l++[b]).length=if n≤headLevel b.h∧(0:Int)<n then l.length else lastAt (levelAt l) n l.length:=fun n=>by
    rw [List.length_append,List.length_singleton,lastAt,(at_last (l:=l) (b:=b)).1,lastAt_congr fun k hk=>(at_snoc hk).1]
    by_cases c:(n:Int)≤headLevel b.h∧(0:Int)<n
    · rw [if_pos c,if_pos ⟨hl,c.1,c.2⟩]
    · rw [if_neg c,if_neg fun x=>c ⟨x.2.1,x.2.2⟩]
  have ll:∀n:Nat,lastAt (levelAt l) n l.length<l.length:=fun n=>by
    have:=lastAt_lt (v:=levelAt l) (n:=n) (i:=l.length);omega
  unfold linkNext
  rw [if_neg (by omega),if_neg (by omega)]
  by_cases c:headLevel b.h<1
  · rw [if_pos c]
    refine ⟨h1,h2,by rw [e0];exact h3,fun n hn hn'=>?_⟩
    rw [la n,if_neg (by omega)]
    rw [(at_snoc (ll n)).2]
    exact h4 n hn hn'
  · rw [if_neg c]
    obtain ⟨m,hm⟩:∃m,m=(min (headLevel b.h) 31).toNat:=⟨_,rfl⟩
    rw [←hm]
    have hm1:1≤m∧m≤31:=by omega
    have hlen:(L.take 1++List.replicate m (headId b.h)++L.drop (m+1)).length=max (m+1) L.length:=by
      simp only [List.length_append,List.length_take,List.length_replicate,List.length_drop];omega
    have ht1:(L.take 1).length=1:=by rw [List.length_take];omega
    have get_lo:∀n:Nat,1≤n→n≤m→(L.take 1++List.replicate m (headId b.h)++L.drop (m+1))[n]?=some (headId b.h):=fun n hn hn'=>by
      rw [List.append_assoc,List.getElem?_append_right (by omega),List.getElem?_append_left (by rw [List.length_replicate];omega),List.getElem?_replicate,if_pos (by omega)]
    have get_hi:∀n:Nat,m<n→(L.take 1++List.replicate m (headId b.h)++L.drop (m+1))[n]?=L[n]?:=fun n hn=>by
      rw [List.getElem?_append_right (by simp only [List.length_append,ht1,List.length_replicate];omega),List.getElem?_drop]
      congr 1;simp only [List.length_append,ht1,List.length_replicate];omega
    refine ⟨by rw [hlen];omega,by rw [hlen];omega,?_,fun n hn hn'=>?_⟩
    · rw [List.append_assoc,List.getElem?_append_left (by omega),List.getElem?_take,e0];simpa using h3
    · rw [hlen,la n]
      by_cases d:n≤m
      · rw [if_pos (by omega),get_lo n hn d,(at_last (l:=l) (b:=b)).2]
        exact ⟨fun _=>⟨by omega,rfl⟩,fun h=>by omega⟩
      · rw [if_neg (by omega),get_hi n (by omega),(at_snoc (ll n)).2]
        obtain ⟨a1,a2⟩:=h4 n hn hn'
        exact ⟨fun h=>a1 (by omega),fun h=>a2 (by omega)⟩
theorem chain_links {l:List Block} {t:Tip} (h:Chain l t):Linked l (linksT t):=by
  refine chain_ind (P:=fun l t=>Linked l (linksT t)) (fun bits hb=>?_) (fun l t b hc hi hp=>?_) l.length l t rfl h
  · rw [zd7 hb]
    show Linked _ (linkNext [] (headId (firstH bits)) _)
    unfold linkNext
    rw [if_neg (by decide),if_pos (show ([]:List Ab.Id).length=0 from rfl)]
    refine ⟨Nat.le_of_ble_eq_true rfl,Nat.le_of_ble_eq_true rfl,rfl,fun n hn hn'=>⟨fun h=>?_,fun _=>rfl⟩⟩
    rw [List.length_singleton] at h;omega
  · have e : linksT (pushT t b) = linkNext (linksT t) (headId b.h) (headLevel b.h) := by
      rw [pushT_eq hp]
      show linkNext b.l _ _=_
      rw [(push_iff.1 hp).2.2.1]
    rw [e]
    exact linked_step (List.length_pos_iff.2 (chain_ne (congrArg (·.2) hc))) hi
theorem chain_total {l:List Block} {t:Tip} (h:Chain l t):(∀x∈t.p,GoodT x)∧(mmrRoot t.p).n=l.length:=by
  refine chain_ind (P:=fun l t=>(∀x∈t.p,GoodT x)∧(mmrRoot t.p).n=l.length) (fun bits hb=>?_) (fun l t b hc hi hp=>?_) l.length l t rfl h
  · rw [zd7 hb]
    refine ⟨fun x hx=>?_,rfl⟩
    rw [List.mem_singleton.1 hx]
    exact ⟨zdb _,by show (-9223372036854775808:Int)≤1;decide,by show (1:Int)≤9223372036854775807;decide⟩
  · have hlen:=(chain_tip hc).2.2.1
    rw [pushT_eq hp]
    obtain ⟨i1,i2⟩:=hi
    refine ⟨fun x hx=>?_,?_⟩
    · have hr:∀y∈t.p.reverse,GoodT y:=fun y hy=>i1 y (by simpa using hy)
      have hg:GoodT (leafH b.h):=⟨zdb _,by show (-9223372036854775808:Int)≤1;decide,by show (1:Int)≤9223372036854775807;decide⟩
      refine (pushR_sum hr hg).1 x ?_
      have hx:x∈mmrAppend t.p (leafH b.h):=hx
      unfold mmrAppend at hx
      simpa using hx
    · show (mmrRoot (mmrAppend t.p (leafH b.h))).n=_
      rw [(append_sum i1).2,i2,zaa (by omega),List.length_append,List.length_singleton];omega
theorem leaves_take {l:List Block} {i:Nat}:leavesOf (l.take i)=(leavesOf l).take i:=by unfold leavesOf;rw [List.map_take]
theorem chain_stands {l:List Block} {t:Tip} {i:Nat} {b a g:Block} (h:Chain l t) (hi:1≤i) (hb:l[i]?=some b) (ha:l[i-1]?=some a) (hg:l[0]?=some g):b.h.height=i∧b.h.prev=headId a.h∧b.h.past=(mmrRoot (((leavesOf l).take i).foldl mmrAppend [])).h∧b.h.work=(mmrRoot (((leavesOf l).take i).foldl mmrAppend [])).w∧(mmrRoot (((leavesOf l).take i).foldl mmrAppend [])).n=i∧b.h.bits=g.h.bits∧b.h.links=linkRoot b.l∧headMay b.h=true:=by
  obtain ⟨t',h1,h2,h3⟩:=chain_at h hi hb
  obtain ⟨hl,_⟩:=List.getElem?_eq_some_iff.1 hb
  obtain ⟨c1,c2,c3,c4,g',c5,c6⟩:=chain_tip h1
  obtain ⟨_,p2,p3,p4,_⟩:=push_iff.1 h2
  have hlt:(l.take i).length=i:=by rw [List.length_take];omega
  rw [leaves_take] at c4
  rw [ha] at h3;injection h3 with h3
  rw [List.getElem?_take,if_pos (by omega),hg] at c5;injection c5 with c5
  rw [←c4]
  refine ⟨?_,?_,congrArg (·.past) p2,congrArg (·.work) p2,?_,?_,?_,p4⟩
  · rw [show b.h.height=IntKind.i64.wrap (t'.b.h.height+1) from congrArg (·.height) p2,c2,hlt,zaa (by omega)];omega
  · rw [h3];exact congrArg (·.prev) p2
  · rw [(chain_total h1).2,hlt]
  · rw [c5,←c6];exact congrArg (·.bits) p2
  · rw [p3];exact congrArg (·.links) p2
set_option maxRecDepth 20000
def easyB0:Block:=⟨easyH,[],[]⟩
theorem zfd:checkOf [easyB0]=(easyTip,0):=by
  unfold checkOf
  simp only []
  have e:firstTip easyB0.h.bits=easyTip:=easy_tip
  rw [e,if_pos ⟨easy_ok,rfl⟩];rfl
theorem easy_growE:growE [easyB0] [] 0=0:=by
  unfold growE;rw [zfd,if_pos rfl];exact easy_mineE
theorem easy_grown:growOf [easyB0] [] 0=[easyB0,easyB]:=by
  unfold growOf;rw [easy_growE,if_pos rfl,zfd,easy_mineB];rfl
theorem easy_chain1:checkOf [easyB0,easyB]=(easyTip2,0):=by
  rw [show [easyB0,easyB]=[easyB0]++[easyB] from rfl,checkOf_snoc (by rw [zfd]),zfd,easy_pushE,if_pos rfl,easy_pushT]
theorem easy_level1:decide (0≤headLevel easyB.h)=true:=by kernel_rfl
theorem small_easyB0:smallB easyB0:=by refine ⟨by decide,by decide,fun t ht=>by cases ht⟩
theorem small_easyC0:smallC [easyB0]:=⟨by decide,fun b hb=>by rw [List.mem_singleton.1 hb];exact small_easyB0⟩
theorem small_easyC:smallC [easyB0,easyB]:=⟨by decide,fun b hb=>by
  rcases List.mem_cons.1 hb with h|h
  · rw [h];exact small_easyB0
  · rw [List.mem_singleton.1 h];exact small_easyB⟩
def fewC (l:List Block):Bool:=l.all fewB&&decide ((l.length:Int)≤50)
theorem fewC_len {l:List Block} (h:fewC l=true):l.length≤50:=by
  unfold fewC at h
  rw [Bool.and_eq_true,decide_eq_true_eq] at h
  omega
set_option maxRecDepth 20000
theorem checkOf_start {l:List Block} {g:Block} (h:l[0]?=some g) (h1:tgtOk g.h.bits=true) (h2:(firstTip g.h.bits).b=g):checkOf l=checkFrom (firstTip g.h.bits) (l.drop 1):=by
  cases l with
  | nil=>cases h
  | cons x r =>
    injection h with h;subst h
    unfold checkOf;simp only [];rw [if_pos ⟨h1,h2⟩];rfl
theorem zdL {l:List Block} {g:Block} (h:l[0]?=some g) (h1:¬(tgtOk g.h.bits=true∧(firstTip g.h.bits).b=g)):checkOf l=(zTip,12):=by
  cases l with
  | nil=>cases h
  | cons x r =>
    injection h with h;subst h
    unfold checkOf;simp only [];rw [if_neg h1]
theorem check_step {r:List Block} {k:Nat} {b:Block} {t:Tip} (hb:r[k]?=some b) (h:pushE t b=0):checkFrom t (r.drop k)=checkFrom (pushT t b) (r.drop (k+1)):=by
  obtain ⟨hk,rfl⟩:=List.getElem?_eq_some_iff.1 hb
  rw [List.drop_eq_getElem_cons hk,checkFrom,if_pos h]
theorem check_stop {r:List Block} {k:Nat} {b:Block} {t:Tip} (hb:r[k]?=some b) (h:¬pushE t b=0):checkFrom t (r.drop k)=(zTip,pushE t b):=by
  obtain ⟨hk,rfl⟩:=List.getElem?_eq_some_iff.1 hb
  rw [List.drop_eq_getElem_cons hk,checkFrom,if_neg h]
theorem check_end {r:List Block} {k:Nat} {t:Tip} (h:r.length≤k):checkFrom t (r.drop k)=(t,0):=by
  rw [List.drop_of_length_le h];rfl
theorem checkOf_nil {l:List Block} (h:l.length=0):checkOf l=(zTip,9):=by rw [List.eq_nil_of_length_eq_zero h];rfl
def newOf (bits:UInt32):List Block:=if tgtOk bits=true then [(firstTip bits).b] else []
theorem own11_ok (t:Tx) (ht:smallTx t):Tells P 180 [.val txT t] (.val txT t):=by
 refine zc Tryz.func180 rfl rfl rfl (fun ext w hext=>?_)
 refine qaf ?_;refine zw ze_133 rfl rfl rfl rfl ?_;refine CNQ ?_;refine zE [some 1,some 1,some 1,some 1,some 1,some 1,some 1,none] mixed (by decide +kernel) ?_;refine X0 (oFp zbv) ?_;refine X0 (oLb zc4 zdZ) ?_;refine X0 (oCl (zp (cloneIn t.ins (by unfold smallTx at ht;constructor<;>omega))) rfl fn_181 ⟨(zd rfl),trivial⟩) ?_;refine X0 (oFp zbG) ?_;refine X0 (oLb zcJ zek) ?_;refine X0 (oCl (zp (cloneOut t.outs (by unfold smallTx at ht;constructor<;>omega))) rfl fn_182 ⟨(zd rfl),trivial⟩) ?_
 refine X0 (zC rfl ze_133 bd_133 (.cons zbv zc4 zdZ rfl (.cons zbG zcJ zek rfl .nil)) rfl) ?_;refine XK.e (x:=.idk) (fun fr' hfr kk H=>by exact zh rfl rfl rfl ((hfr 2 (by decide +kernel)).trans rfl) rfl (Lens.self _) zc7 ((hfr 9 (by decide +kernel)).trans rfl) (zK H)) ?_;refine XK.nil' ?_
 exact z6 rfl rfl rfl rfl zc7 (rfl)
theorem toldTx_ok (l:List Tx) (hl:smallL l):Tells P 179 [.val (bsl txT) l,.clo 180 []] (.fresh 133 txT l):=by
 have hll:=hl.1
 refine zc Tryz.func179 rfl rfl rfl (fun ext w hext=>?_)
 refine ze (d:=0) rfl zk (fun hsl0=>?_)
 refine qaX ?_;refine A0 aL ?_;refine qaT ?_;refine qbS ?_;refine qa8 ?_;refine zed (T:=txT) (d:=5) 133 rfl ?_;refine Lp (ι:=Nat) 1 (fun (k:Nat)=>((((((Fr.none).set 0 (.val (bsl txT) l)).set 1 (.clo 180 [])).set 5 (.own 0)).set 8 (.val (bsl txT) l)).set 9 (.val i64T (l.length:Int))).set 10 (.val i64T (k:Int))) (fun (k:Nat)=>(Hp.none).set 0 (.row 133 txT (l.take k))) (fun (k:Nat)=>k≤l.length) (fun (k:Nat)=>l.length-k) (0) (Nat.zero_le _) ?_
 intro k hinv
 refine qaj ?_;refine Cf (p:=k<l.length) (fun ht11=>?_) (fun ht11=>?_)
 ·
  obtain ⟨x,hx⟩:∃x,l[k]?=some x:=⟨_,List.getElem?_eq_getElem ht11⟩
  have hxm:=List.mem_of_getElem? hx
  refine CSQBQR ?_;refine qaQ ?_;refine qbz ?_;refine CNR ?_;refine A0 mO ?_;refine A0 mC ?_;refine qbH ?_;refine A0 (g_callc (As:=[_]) (Cs:=[]) (own11_ok x (hl.2 x hxm)) rfl rfl fn_180 ⟨(zd rfl),trivial⟩ (by intro n hn;cases hn) trivial rfl) ?_;refine A0 (zt (T:=txT) (xs:=[_]) rfl sl_56 row_56 ⟨rfl,rfl,trivial⟩ rfl rfl) ?_;refine zD rfl rfl rfl rfl rfl rfl rfl row_56 (by simp;omega) ?_;refine A0 aO ?_;refine qaW ?_;refine zaG 2 0 3 rfl rfl rfl rfl rfl rfl ?_;refine zA (n:=0) (y:=l.take (k+1)) rfl (by rw [List.take_add_one,hx];rfl) ?_
  exact Nx (k+1) (by omega) (by omega)
 ·
  refine qaA ?_
  exact zb rfl rfl (zf rfl rfl (by rw [List.take_of_length_le (by omega)]))
theorem own1_ok (b:Block) (hb:smallB b):Tells P 178 [.val blockT b] (.val blockT b):=by
 have hb1:=hb.1
 refine zc Tryz.func178 rfl rfl rfl (fun ext w hext=>?_)
 refine qaf ?_;refine zw ze_58 rfl rfl rfl rfl ?_;refine CNQR ?_;refine A0 (oFp zbt) ?_;refine A0 (oLb zbc zbI) ?_;refine A0 (oCl (zp (cloneId b.l (by constructor<;>omega))) rfl fn_74 ⟨(zd rfl),trivial⟩) ?_;refine A0 (oFp zbt) ?_;refine zh rfl rfl rfl rfl rfl zbc zbI rfl ?_;refine CNQR ?_;refine A0 (oFp zb4) ?_;refine A0 (oLb zbS ty_56) ?_
 refine A0 (oCl (zp (toldTx_ok b.t hb.2)) rfl fn_179 ⟨(zd rfl),(by first|exact zcH (Cs:=[]) rfl fn_180 (by intro n hn;cases hn) trivial rfl (fun x=>own11_ok _ (by assumption))|exact zcG (Cs:=[]) rfl fn_180 (by intro n hn;cases hn) trivial rfl (fun x y=>own11_ok _ (by assumption))|exact zcI rfl),trivial⟩) ?_;refine A0 (oFp zb4) ?_;refine zh rfl rfl rfl rfl rfl zbS ty_56 rfl ?_;refine CNQR ?_;refine A0 (oLs rfl rfl rfl zb5) ?_;refine qbf ?_;refine CN ?_
 exact z6 rfl rfl rfl rfl zb5 (rfl)
theorem toldBlock_ok (l:List Block) (hl:smallC l):Tells P 177 [.val (bsl blockT) l,.clo 178 []] (.fresh 58 blockT l):=by
 have hll:=hl.1
 refine zc Tryz.func177 rfl rfl rfl (fun ext w hext=>?_)
 refine ze (d:=0) rfl zk (fun hsl0=>?_)
 refine qaX ?_;refine A0 aL ?_;refine qaT ?_;refine A0 (zR rfl rfl zcQ) ?_;refine qa8 ?_;refine zed (T:=blockT) (d:=5) 58 rfl ?_;refine Lp (ι:=Nat) 1 (fun (k:Nat)=>((((((Fr.none).set 0 (.val (bsl blockT) l)).set 1 (.clo 178 [])).set 5 (.own 0)).set 8 (.val (bsl blockT) l)).set 9 (.val i64T (l.length:Int))).set 10 (.val i64T (k:Int))) (fun (k:Nat)=>(Hp.none).set 0 (.row 58 blockT (l.take k))) (fun (k:Nat)=>k≤l.length) (fun (k:Nat)=>l.length-k) (0) (Nat.zero_le _) ?_
 intro k hinv
 refine qaj ?_;refine Cf (p:=k<l.length) (fun ht11=>?_) (fun ht11=>?_)
 ·
  obtain ⟨x,hx⟩:∃x,l[k]?=some x:=⟨_,List.getElem?_eq_getElem ht11⟩
  have hxm:=List.mem_of_getElem? hx
  refine CSQBQR ?_;refine A0 (za0 rfl rfl rfl zc8 (by assumption)) ?_;refine A0 (zg rfl rfl zb5) ?_;refine zw ze_58 rfl rfl rfl rfl ?_;refine qbf ?_;refine CNR ?_;refine A0 mO ?_;refine A0 mC ?_;refine A0 (oLs rfl rfl rfl zb5) ?_;refine A0 (g_callc (As:=[_]) (Cs:=[]) (own1_ok x (hl.2 x hxm)) rfl rfl fn_178 ⟨(zd rfl),trivial⟩ (by intro n hn;cases hn) trivial rfl) ?_;refine A0 (zt (T:=blockT) (xs:=[_]) rfl zc8 row_22 ⟨rfl,rfl,trivial⟩ rfl rfl) ?_;refine zD rfl rfl rfl rfl rfl rfl rfl row_22 (by simp;omega) ?_;refine A0 aO ?_;refine qaW ?_
  refine zaG 2 0 3 rfl rfl rfl rfl rfl rfl ?_;refine zA (n:=0) (y:=l.take (k+1)) rfl (by rw [List.take_add_one,hx];rfl) ?_
  exact Nx (k+1) (by omega) (by omega)
 ·
  refine qaA ?_
  exact zb rfl rfl (zf rfl rfl (by rw [List.take_of_length_le (by omega)]))
theorem ownC_ok (l:List Block) (hl:smallC l):Tells P 126 [.val (bsl blockT) l] (.fresh 58 blockT l):=by
 refine zc Tryz.func126 rfl rfl rfl (fun ext w hext=>?_)
 refine ze (d:=0) rfl zk (fun hsl0=>?_)
 refine qaX ?_;refine qaw ?_;refine zaA (toldBlock_ok l hl) rfl fn_177 ⟨(zd rfl),(by first|exact zcH (Cs:=[]) rfl fn_178 (by intro n hn;cases hn) trivial rfl (fun x=>own1_ok _ (by assumption))|exact zcG (Cs:=[]) rfl fn_178 (by intro n hn;cases hn) trivial rfl (fun x y=>own1_ok _ (by assumption))|exact zcI rfl),trivial⟩ rfl rfl rfl ?_;refine qbk ?_
 exact zb rfl rfl (zf rfl rfl rfl)
theorem levelC_ok (b:Block):Tells P 61 [.val blockT b] (.val i64T (headLevel b.h)):=by
 refine zc Tryz.func61 rfl rfl rfl (fun ext w hext=>?_)
 refine qaf ?_;refine qar ?_;refine A0 (oFp zaw) ?_;refine A0 (oLb zah zav) ?_;refine A0 (oCl (headLevel_ok _) rfl fn_104 ⟨(zd rfl),trivial⟩) ?_;refine qac ?_
 exact zb rfl rfl (by first|exact zbJ rfl|exact ret_own rfl rfl|exact ze1 rfl|exact zcx rfl rfl|exact zm rfl|exact ret_lit rfl)
theorem toldInt_ok (l:List Block) (f:Block→Int) (hl:l.length≤1000000000000):Tells P 60 [.val (bsl blockT) l,.fn1 P blockT i64T f] (.fresh 3 i64T (l.map f)):=by
 refine zc Tryz.func60 rfl rfl rfl (fun ext w hext=>?_)
 refine ze (d:=0) rfl zk (fun hsl0=>?_)
 refine qaX ?_;refine A0 aL ?_;refine qaT ?_;refine A0 (zR rfl rfl zcQ) ?_;refine qa8 ?_;refine zed (T:=i64T) (d:=5) 3 rfl ?_;refine Lp (ι:=Nat) 1 (fun (k:Nat)=>((((((Fr.none).set 0 (.val (bsl blockT) l)).set 1 (.fn1 P blockT i64T f)).set 5 (.own 0)).set 8 (.val (bsl blockT) l)).set 9 (.val i64T (l.length:Int))).set 10 (.val i64T (k:Int))) (fun (k:Nat)=>(Hp.none).set 0 (.row 3 i64T ((l.take k).map f))) (fun (k:Nat)=>k≤l.length) (fun (k:Nat)=>l.length-k) (0) (Nat.zero_le _) ?_
 intro k hinv
 refine qaj ?_;refine Cf (p:=k<l.length) (fun ht11=>?_) (fun ht11=>?_)
 ·
  obtain ⟨x,hx⟩:∃x,l[k]?=some x:=⟨_,List.getElem?_eq_getElem ht11⟩
  have hxm:=List.mem_of_getElem? hx
  refine CSQBQR ?_;refine A0 (za0 rfl rfl rfl zc8 (by assumption)) ?_;refine A0 (zg rfl rfl zb5) ?_;refine zw ze_58 rfl rfl rfl rfl ?_;refine qbf ?_;refine CNR ?_;refine A0 mO ?_;refine A0 mF ?_;refine A0 (oLs rfl rfl rfl zb5) ?_;refine A0 (ze8 rfl rfl (zd rfl)) ?_;refine A0 (zt (T:=i64T) (xs:=[_]) rfl zbm zcP ⟨rfl,rfl,trivial⟩ rfl rfl) ?_;refine zD rfl rfl rfl rfl rfl rfl rfl zcP (by simp;omega) ?_;refine A0 aO ?_;refine qaW ?_;refine zaG 2 0 3 rfl rfl rfl rfl rfl rfl ?_
  refine zA (n:=0) (y:=(l.take (k+1)).map f) rfl (by rw [List.take_add_one,hx];simp) ?_
  exact Nx (k+1) (by omega) (by omega)
 ·
  refine qaA ?_
  exact zb rfl rfl (zf rfl rfl (by rw [List.take_of_length_le (by omega)]))
theorem levels_ok (l:List Block) (hl:l.length≤1000000000000):Tells P 25 [.val (bsl blockT) l] (.fresh 3 i64T (levelsOf l)):=by
 refine zc Tryz.func25 rfl rfl rfl (fun ext w hext=>?_)
 refine ze (d:=0) rfl zk (fun hsl0=>?_)
 refine qaX ?_;refine qaw ?_;refine zaA (toldInt_ok l (fun b=>headLevel b.h) hl) rfl fn_60 ⟨(zd rfl),(by first|exact zcH (Cs:=[]) rfl fn_61 (by intro n hn;cases hn) trivial rfl (fun x=>levelC_ok x)|exact zcG (Cs:=[]) rfl fn_61 (by intro n hn;cases hn) trivial rfl (fun x y=>levelC_ok x)|exact zcI rfl),trivial⟩ rfl rfl rfl ?_;refine qbk ?_
 exact zb rfl rfl (zf rfl rfl rfl)
theorem check_ok (l:List Block) (hl:smallC l):Tells P 26 [.val (bsl blockT) l] (.tup2 (.val tipT (checkOf l).1) (.val i64T (checkOf l).2)):=by
 have hll:=hl.1
 refine zc Tryz.func26 rfl rfl rfl (fun ext w hext=>?_)
 refine ze (d:=0) rfl zk (fun hsl0=>?_)
 refine CQR ?_;refine qbx ?_;refine qac ?_;refine aw_scope (ι:=Block) 2 0 rfl rfl rfl (fun (g:Block)=>((((Fr.none).set 0 (.val (bsl blockT) l)).set 2 (.ptr 0 0)).set 4 (.ptr 1 0)).set 6 (.val i64T 0)) (fun (g:Block)=>((Hp.none).set 0 (.box 65 tipT zTip)).set 1 (.box 65 tipT (firstTip g.h.bits))) (fun (g:Block)=>l[0]?=some g∧tgtOk g.h.bits=true∧(firstTip g.h.bits).b=g) (fun (g:Block)=>0) ?_ (fun hreach=>?_)
 ·
  intro g hinv
  have hl1:=(List.getElem?_eq_some_iff.1 hinv.1).1
  refine qbb ?_;refine A0 (zen rfl rfl rfl zc8 (by first|assumption|omega|(simp;omega))) ?_;refine A0 (zR rfl rfl zcQ) ?_;refine qa8 ?_
  refine Lp (ι:=Nat×Tip) 2 (fun (i:Nat×Tip)=>match i with|(k,t)=>(((((((Fr.none).set 0 (.val (bsl blockT) l)).set 2 (.ptr 0 0)).set 4 (.ptr 1 0)).set 6 (.val i64T 0)).set 35 (.val (bsl blockT) (l.drop 1))).set 36 (.val i64T ((l.drop 1).length:Int))).set 37 (.val i64T (k:Int))) (fun (i:Nat×Tip)=>match i with|(k,t)=>((Hp.none).set 0 (.box 65 tipT zTip)).set 1 (.box 65 tipT t)) (fun (i:Nat×Tip)=>match i with|(k,t)=>k≤(l.drop 1).length∧smallN t k∧checkOf l=checkFrom t ((l.drop 1).drop k)) (fun (i:Nat×Tip)=>match i with|(k,t)=>(l.drop 1).length-k) ((0,firstTip g.h.bits)) (⟨Nat.zero_le _,first_small,checkOf_start hinv.1 hinv.2.1 hinv.2.2⟩) ?_
  intro ⟨k,t⟩ hin
  dsimp only at hin
  refine qaj ?_;refine Cf (p:=k<(l.drop 1).length) (fun ht38=>?_) (fun ht38=>?_)
  ·
   have hk38:k<l.length:=by rw [List.length_drop] at ht38;omega
   obtain ⟨b,hb⟩:∃b,(l.drop 1)[k]?=some b:=⟨_,List.getElem?_eq_getElem ht38⟩
   have hbm:=hl.2 b (List.mem_of_mem_drop (List.mem_of_getElem? hb))
   refine CSQBQR ?_;refine A0 (zu (i:=k) rfl rfl rfl (by omega) zc8 (by assumption)) ?_;refine A0 (zg rfl rfl zb5) ?_;refine zw ze_58 rfl rfl rfl rfl ?_;refine qbf ?_;refine CNQR ?_;refine A0 (oLs rfl rfl rfl zcT) ?_;refine A0 (oLs rfl rfl rfl zb5) ?_;refine A0 (oCl (push_ok t b hin.2.1.1 hbm) rfl fn_64 ⟨(zd rfl),(zd rfl),trivial⟩) ?_;refine A0 mX ?_;refine A0 (by first|exact zN rfl rfl|exact zM rfl rfl) ?_;refine A0 (by first|exact zQ rfl rfl|exact zP rfl rfl) ?_;refine qa4 ?_;refine qad ?_;refine qaS ?_
   refine zr (p:=¬pushE t b=0) rfl (by simp [IntL.toI]) (fun ht48=>?_) (fun ht48=>?_)
   ·
    refine CE ?_;refine qbb ?_;refine qaS ?_;refine aw_if_t rfl (by simpa [IntL.toI] using ht48) ?_;refine CQR ?_;refine A0 (zC rfl ze_65 bd_65 .nil rfl) ?_;refine qaw ?_;refine qa4 ?_;refine qac ?_
    exact zz rfl rfl (zF rfl rfl zcT (by rw [hin.2.2,check_stop hb ht48])) (zaf (za rfl (by rw [hin.2.2,check_stop hb ht48])))
   ·
    refine qbh ?_;refine zi (d:=6) (y:=(0:Int)) rfl (Classical.not_not.1 ht48) ?_
    exact Nx ((k+1,pushT t b)) (⟨by omega,push_smallN hin.2.1 (by rw [List.length_drop] at ht38;omega) hbm (Classical.not_not.1 ht48),hin.2.2.trans (check_step hb (Classical.not_not.1 ht48))⟩) (by show (l.drop 1).length-(k+1)<(l.drop 1).length-k;omega)
  ·
   refine CE ?_;refine qbb ?_;refine qaS ?_;refine Cg ?_;refine CSQR ?_;refine A0 (oLs rfl rfl rfl zcT) ?_;refine qa4 ?_;refine qac ?_
   exact zz rfl rfl (zF rfl rfl zcT (by rw [hin.2.2,check_end (by omega)])) (zaf (za rfl (by rw [hin.2.2,check_end (by omega)])))
 ·
  refine qbb ?_;refine A0 (zR rfl rfl zcQ) ?_;refine A0 zbf ?_;refine CN ?_;refine Cf (p:=l.length=0) (fun ht11=>?_) (fun ht11=>?_)
  ·
   refine CQR ?_;refine A0 (zC rfl ze_65 bd_65 .nil rfl) ?_;refine qa4 ?_;refine qac ?_
   exact zz rfl rfl (zF rfl rfl zcT (by rw [checkOf_nil ht11])) (zaf (za rfl (by rw [checkOf_nil ht11])))
  ·
   obtain ⟨g,hg⟩:∃g,l[0]?=some g:=⟨_,List.getElem?_eq_getElem (by omega)⟩
   refine qbF ?_;refine A0 (zu (i:=0) rfl rfl rfl (by omega) zc8 (by assumption)) ?_;refine A0 (oFr zaw zah) ?_;refine A0 (oFr zbM za2) ?_;refine A0 (zg rfl rfl zbe) ?_;refine A0 (oCl (firstTip_ok g.h.bits) rfl fn_62 ⟨(by first|exact zB rfl|exact zZ rfl|exact zG rfl rfl|exact zX rfl|exact zx rfl|exact zag rfl rfl|exact zY rfl),trivial⟩) ?_;refine A0 mX ?_;refine A0 (by first|exact zN rfl rfl|exact zM rfl rfl) ?_;refine A0 (by first|exact zQ rfl rfl|exact zP rfl rfl) ?_;refine qbx ?_;refine qa4 ?_;refine qaL ?_
   refine qbc ?_;refine G0 mV ?_;refine G0 oN ?_;refine G0 mV ?_;refine zai (d:=24) (p:=¬tgtOk g.h.bits=true) rfl (by cases tgtOk g.h.bits<;>rfl) (fun g24=>?_) (fun g24=>?_)
   ·
    refine qau ?_;refine qau ?_;refine G2 ?_;refine qaE ?_;refine Ct ?_;refine CQR ?_;refine A0 (zC rfl ze_65 bd_65 .nil rfl) ?_;refine qa4 ?_;refine qac ?_
    exact zz rfl rfl (zF rfl rfl zcT (by rw [zdL hg fun h=>g24 h.1])) (zaf (za rfl (by rw [zdL hg fun h=>g24 h.1])))
   ·
    refine G1 (oFp zdu) ?_;refine G1 (oLb zdy zb5) ?_;refine G1 mV ?_;refine G1 (zu (i:=0) rfl rfl rfl (by omega) zc8 (by assumption)) ?_;refine G1 (zg rfl rfl zb5) ?_;refine G1 (oCl (sameB_ok _ _) rfl fn_63 ⟨(zd rfl),(by first|exact zB rfl|exact zZ rfl|exact zG rfl rfl|exact zX rfl|exact zx rfl|exact zag rfl rfl|exact zY rfl),trivial⟩) ?_;refine G1 oN ?_;refine qaE ?_;refine zr (p:=¬(firstTip g.h.bits).b=g) rfl (by simp) (fun ht32=>?_) (fun ht32=>?_)
    ·
     refine CQR ?_;refine A0 (zC rfl ze_65 bd_65 .nil rfl) ?_;refine qa4 ?_;refine qac ?_
     exact zz rfl rfl (zF rfl rfl zcT (by rw [zdL hg fun h=>ht32 h.2])) (zaf (za rfl (by rw [zdL hg fun h=>ht32 h.2])))
    ·
     refine CSQR ?_;refine qaL ?_
     exact aw_reach hreach (g) rfl (⟨hg,Classical.not_not.1 g24,Classical.not_not.1 ht32⟩) rfl (by (repeat refine Fr.le_set ?_ (by first|rfl|(simp;done)));exact Fr.le_none _) (by (repeat refine Hp.le_set ?_ rfl);exact Hp.le_none _) (by (repeat refine Fr.below_setB ?_ rfl);exact Fr.below_none _) (by (repeat refine Hp.below_set ?_ (by decide));exact Hp.below_none _)
theorem newC_ok (bits:UInt32):Tells P 71 [.val u32T bits] (.tup2 (.val (sl blockT) (newOf bits)) (.val boolT (tgtOk bits))):=by
 refine zc Tryz.func71 rfl rfl rfl (fun ext w hext=>?_)
 refine qao ?_;refine qad ?_;refine A0 (oCl (firstTip_ok bits) rfl fn_62 ⟨(zd rfl),trivial⟩) ?_;refine A0 mX ?_;refine A0 (by first|exact zN rfl rfl|exact zM rfl rfl) ?_;refine A0 (by first|exact zQ rfl rfl|exact zP rfl rfl) ?_;refine qbx ?_;refine qa4 ?_;refine qai ?_;refine qaN ?_;refine zr (p:=¬tgtOk bits=true) rfl (by cases tgtOk bits<;>rfl) (fun ht12=>?_) (fun ht12=>?_)
 ·
  refine qaZ ?_
  exact zT rfl rfl (by unfold newOf;rw [if_neg ht12];exact ze1 rfl) (za rfl (by simpa using ht12))
 ·
  refine CSQR ?_;refine A0 (oFp zdu) ?_;refine A0 (oLb zdy zb5) ?_;refine A0 (zt (T:=blockT) (xs:=[_]) rfl zc8 row_22 ⟨rfl,rfl,trivial⟩ rfl rfl) ?_;refine qbo ?_
  exact zT rfl rfl (za rfl (by unfold newOf;rw [if_pos (Classical.not_not.1 ht12)])) (za rfl (Classical.not_not.1 ht12).symm)
theorem growC_ok (l:List Block) (t:List Tx) (nonce:UInt64) (hl:smallC l) (ht:smallL t):Tells P 72 [.val (bsl blockT) l,.val (sl txT) t,.val u64T nonce] (.tup2 (.fresh 58 blockT (growOf l t nonce)) (.val i64T (growE l t nonce))):=by
 have hll:=hl.1
 refine zc Tryz.func72 rfl rfl rfl (fun ext w hext=>?_)
 refine ze (d:=0) rfl zk (fun hsl0=>?_)
 refine ze (d:=1) rfl zk (fun hsl1=>?_)
 refine qao ?_;refine qad ?_;refine zaA (ownC_ok l hl) rfl fn_126 ⟨(zd rfl),trivial⟩ rfl rfl rfl ?_;refine A0 aO ?_;refine CNQR ?_;refine qaw ?_;refine A0 (oCl (check_ok l hl) rfl fn_26 ⟨(zd rfl),trivial⟩) ?_;refine A0 mX ?_;refine A0 (by first|exact zN rfl rfl|exact zM rfl rfl) ?_;refine A0 (by first|exact zQ rfl rfl|exact zP rfl rfl) ?_;refine qbx ?_;refine qa4 ?_;refine qai ?_;refine qaS ?_;refine zr (p:=¬(checkOf l).2=0) rfl (by simp [IntL.toI]) (fun ht20=>?_) (fun ht20=>?_)
 ·
  have hE:growE l t nonce=(checkOf l).2:=by unfold growE;rw [if_neg ht20]
  have hG:growOf l t nonce=l:=by unfold growOf;rw [hE,if_neg ht20]
  refine qb1 ?_;refine qaw ?_;refine qbP ?_
  exact zT rfl rfl (zf rfl rfl (by rw [hG])) (za rfl hE.symm)
 ·
  refine CSQR ?_;refine A0 (oLs rfl rfl rfl zcT) ?_;refine qak ?_;refine A0 (oCl (mineB_ok (checkOf l).1 t nonce 200 (check_small hl) ht) rfl fn_127 ⟨(zd rfl),(zd rfl),(zd rfl),(zd rfl),trivial⟩) ?_;refine A0 mX ?_;refine A0 (by first|exact zN rfl rfl|exact zM rfl rfl) ?_;refine A0 (by first|exact zQ rfl rfl|exact zP rfl rfl) ?_;refine zw ze_58 rfl rfl rfl rfl ?_;refine qbf ?_;refine qai ?_;refine qaS ?_;refine zr (p:=¬mineBE (checkOf l).1 t nonce 200=0) rfl (by simp [IntL.toI]) (fun ht31=>?_) (fun ht31=>?_)
  ·
   have hE:growE l t nonce=mineBE (checkOf l).1 t nonce 200:=by unfold growE;rw [if_pos (Classical.not_not.1 ht20)]
   have hG:growOf l t nonce=l:=by unfold growOf;rw [hE,if_neg ht31]
   refine qb1 ?_;refine qaw ?_;refine qbP ?_
   exact zT rfl rfl (zf rfl rfl (by rw [hG])) (za rfl hE.symm)
  ·
   have hE:growE l t nonce=0:=by unfold growE;rw [if_pos (Classical.not_not.1 ht20)];exact Classical.not_not.1 ht31
   have hG:growOf l t nonce=l++[mineB (checkOf l).1 t nonce 200]:=by unfold growOf;rw [if_pos hE]
   refine CSQR ?_;refine A0 mO ?_;refine A0 (oLs rfl rfl rfl zb5) ?_;refine A0 (zt (T:=blockT) (xs:=[_]) rfl zc8 row_22 ⟨rfl,rfl,trivial⟩ rfl rfl) ?_;refine zD rfl rfl rfl rfl rfl rfl rfl row_22 (by simp;omega) ?_;refine qbP ?_
   exact zT rfl rfl (zf rfl rfl (by rw [hG])) (za rfl hE.symm)
set_option maxRecDepth 20000
def sortI_ren:Go.Shelf.Ren:=⟨fun|189=>102|125=>155|257=>154|128=>214|129=>215|294=>206|295=>207|296=>208|297=>209|298=>210|299=>211|216=>77|300=>212|301=>213|328=>263|329=>264|330=>265|331=>266|332=>267|215=>132|343=>307|n=>n,fun|28=>41|3=>3|46=>135|0=>0|51=>50|53=>47|4=>4|183=>250|182=>249|131=>79|5=>5|9=>9|218=>286|222=>290|228=>326|229=>327|n=>n,fun|n=>n⟩
theorem sortI:Go.Proofs.Lays.n189 P sortI_ren:={
  mixed:=by kernel_rfl,
  f125:=Tryz.func155.trans (congrArg some (by kernel_rfl)),
  f128:=Tryz.func214.trans (congrArg some (by kernel_rfl)),
  f129:=Tryz.func215.trans (congrArg some (by kernel_rfl)),
  f189:=Tryz.func102.trans (congrArg some (by kernel_rfl)),
  f215:=Tryz.func132.trans (congrArg some (by kernel_rfl)),
  f216:=Tryz.func77.trans (congrArg some (by kernel_rfl)),
  f257:=Tryz.func154.trans (congrArg some (by kernel_rfl)),
  f294:=Tryz.func206.trans (congrArg some (by kernel_rfl)),
  f295:=Tryz.func207.trans (congrArg some (by kernel_rfl)),
  f296:=Tryz.func208.trans (congrArg some (by kernel_rfl)),
  f297:=Tryz.func209.trans (congrArg some (by kernel_rfl)),
  f298:=Tryz.func210.trans (congrArg some (by kernel_rfl)),
  f299:=Tryz.func211.trans (congrArg some (by kernel_rfl)),
  f300:=Tryz.func212.trans (congrArg some (by kernel_rfl)),
  f301:=Tryz.func213.trans (congrArg some (by kernel_rfl)),
  f328:=Tryz.func263.trans (congrArg some (by kernel_rfl)),
  f329:=Tryz.func264.trans (congrArg some (by kernel_rfl)),
  f330:=Tryz.func265.trans (congrArg some (by kernel_rfl)),
  f331:=Tryz.func266.trans (congrArg some (by kernel_rfl)),
  f332:=Tryz.func267.trans (congrArg some (by kernel_rfl)),
  f343:=Tryz.func307.trans (congrArg some (by kernel_rfl)),
  t0:=Tryz.underlying0,
  a0:=Tryz.isAgg0,
  z0:=Tryz.sizeOf0,
  v0:=Tryz.zeroValue0,
  t3:=Tryz.underlying3,
  a3:=Tryz.isAgg3,
  z3:=Tryz.sizeOf3,
  v3:=Tryz.zeroValue3,
  t4:=Tryz.underlying4,
  a4:=Tryz.isAgg4,
  z4:=Tryz.sizeOf4,
  v4:=Tryz.zeroValue4,
  t5:=Tryz.underlying5,
  a5:=Tryz.isAgg5,
  z5:=Tryz.sizeOf5,
  v5:=Tryz.zeroValue5,
  t9:=Tryz.underlying9,
  a9:=Tryz.isAgg9,
  z9:=Tryz.sizeOf9,
  v9:=Tryz.zeroValue9,
  t28:=Tryz.underlying41,
  a28:=Tryz.isAgg41,
  z28:=Tryz.sizeOf41,
  v28:=Tryz.zeroValue41,
  t46:=Tryz.underlying135,
  a46:=Tryz.isAgg135,
  z46:=Tryz.sizeOf135,
  v46:=Tryz.zeroValue135,
  t51:=Tryz.underlying50,
  a51:=Tryz.isAgg50,
  z51:=Tryz.sizeOf50,
  v51:=Tryz.zeroValue50,
  t53:=Tryz.underlying47,
  a53:=Tryz.isAgg47,
  z53:=Tryz.sizeOf47,
  v53:=Tryz.zeroValue47,
  t131:=Tryz.underlying79,
  a131:=Tryz.isAgg79,
  z131:=Tryz.sizeOf79,
  v131:=Tryz.zeroValue79,
  t182:=Tryz.underlying249,
  a182:=Tryz.isAgg249,
  z182:=Tryz.sizeOf249,
  v182:=Tryz.zeroValue249,
  t183:=Tryz.underlying250,
  a183:=Tryz.isAgg250,
  z183:=Tryz.sizeOf250,
  v183:=Tryz.zeroValue250,
  t218:=Tryz.underlying286,
  a218:=Tryz.isAgg286,
  z218:=Tryz.sizeOf286,
  v218:=Tryz.zeroValue286,
  t222:=Tryz.underlying290,
  a222:=Tryz.isAgg290,
  z222:=Tryz.sizeOf290,
  v222:=Tryz.zeroValue290,
  t228:=Tryz.underlying326,
  a228:=Tryz.isAgg326,
  z228:=Tryz.sizeOf326,
  v228:=Tryz.zeroValue326,
  t229:=Tryz.underlying327,
  a229:=Tryz.isAgg327,
  z229:=Tryz.sizeOf327,
  v229:=Tryz.zeroValue327 }
theorem sortInt_ok (l:List Int) (hn:l.length<1000000000):TellsM P 102 (.row 3 i64T l) [.own 0] (.lit (.tuple #[])) (.row 3 i64T (sortInts l)):=sorti_tells sortI hn
def mayV (v:List Int):Bool:=decide (0<v.length∧v.length≤200∧v[0]?=some 31) && !(v.any fun n=>decide (n<0∨31<n))
def mayP (v:List Int) (m k:Int):Bool:=mayV v&&decide (1≤m∧1≤k∧k<v.length)
def upR (v:List Int) (n:Int) (a i:Nat):List Int:=((List.range' a (i-a)).filter fun j:Nat=>decide (n≤v.getD j 0)).map fun j:Nat=>(j:Int)
def upOf (v:List Int) (a b n:Int):List Int:=upR v n (max a 0).toNat (min b v.length).toNat
theorem upR_length (v:List Int) (n:Int) (a i:Nat):(upR v n a i).length≤i-a:=by
  unfold upR
  rw [List.length_map]
  exact Nat.le_trans (List.length_filter_le _ _) (by simp)
theorem up_length (v:List Int) (a b n:Int):(upOf v a b n).length≤v.length:=Nat.le_trans (upR_length ..) (by omega)
theorem upR_same (v:List Int) (n:Int) (a:Nat):upR v n a a=[]:=by unfold upR;simp
theorem upR_succ {v:List Int} {n x:Int} {a i:Nat} (hx:v[i]?=some x) (ha:a≤i):upR v n a (i+1)=upR v n a i++(if n≤x then [(i:Int)] else []):=by
  unfold upR
  rw [show i+1-a=(i-a)+1 by omega,List.range'_1_concat,show a+(i-a)=i by omega,List.filter_append,List.map_append]
  congr 1
  have:v.getD i 0=x:=by simp [hx]
  by_cases c:n≤x<;>simp [c,hx]
theorem upR_yes {v:List Int} {n x:Int} {a i:Nat} (hx:v[i]?=some x) (ha:a≤i) (h:n≤x):upR v n a (i+1)=upR v n a i++[(i:Int)]:=by rw [upR_succ hx ha,if_pos h]
theorem upR_no {v:List Int} {n x:Int} {a i:Nat} (hx:v[i]?=some x) (ha:a≤i) (h:¬n≤x):upR v n a (i+1)=upR v n a i:=by rw [upR_succ hx ha,if_neg h,List.append_nil]
theorem upR_empty {v:List Int} {n:Int} {a i:Nat} (h:i≤a):upR v n a i=[]:=by unfold upR;rw [show i-a=0 by omega];rfl
theorem upOf_end {v:List Int} {a b n:Int} {i:Nat} (h1:(max a 0).toNat≤i) (h2:(i:Int)≤min b v.length∨i=(max a 0).toNat) (h3:¬(i:Int)<min b v.length):upR v n (max a 0).toNat i=upOf v a b n:=by
  unfold upOf
  by_cases c:(i:Int)=min b v.length
  · rw [show (min b v.length).toNat=i by omega]
  · rw [upR_empty (by omega),upR_empty (by omega)]
theorem mem_upR {v:List Int} {n:Int} {a i:Nat} {x:Int}:x∈upR v n a i↔∃j:Nat,x=j∧a≤j∧j<i∧n≤v.getD j 0:=by
  unfold upR
  simp only [List.mem_map,List.mem_filter,List.mem_range'_1,decide_eq_true_eq]
  constructor
  · rintro ⟨j,⟨h1,h2⟩,rfl⟩;exact ⟨j,rfl,h1.1,by omega,h2⟩
  · rintro ⟨j,rfl,h1,h2,h3⟩;exact ⟨j,⟨⟨h1,by omega⟩,h3⟩,rfl⟩
theorem zeH {v:List Int} {a b n x:Int}:x∈upOf v a b n↔∃j:Nat,x=j∧a≤j∧(j:Int)<b∧j<v.length∧n≤v.getD j 0:=by
  unfold upOf
  rw [mem_upR]
  constructor
  · rintro ⟨j,rfl,h1,h2,h3⟩;exact ⟨j,rfl,by omega,by omega,by omega,h3⟩
  · rintro ⟨j,rfl,h1,h2,h3,h4⟩;exact ⟨j,rfl,by omega,by omega,h4⟩
def climbS (v:List Int) (m k:Int):Nat→Int×List Int
  | 0=>(0,[])
  | i+1 =>
    (if m<(upOf v (climbS v m k i).1 ((v.length:Int)-k) (31-(i:Int))).length then (upOf v (climbS v m k i).1 ((v.length:Int)-k) (31-(i:Int))).getD ((upOf v (climbS v m k i).1 ((v.length:Int)-k) (31-(i:Int))).length-m.toNat) 0 else (climbS v m k i).1,
      (upOf v (climbS v m k i).1 ((v.length:Int)-k) (31-(i:Int))).foldl setAdd (climbS v m k i).2)
def prefixOf (v:List Int) (m k:Int):List Int×Bool:=if mayP v m k=true then (sortInts (climbS v m k 32).2,true) else ([],false)
theorem zb9 {v L:List Int} {m k c:Int} {i:Nat} (hL:L=upOf v (climbS v m k i).1 ((v.length:Int)-k) (31-(i:Int))) (hc:L[L.length-m.toNat]?=some c) (h:m<L.length):c=(climbS v m k (i+1)).1:=by
  show c=if _ then _ else _
  rw [←hL,if_pos h];simp [hc]
theorem zbY {v L:List Int} {m k:Int} {i:Nat} (hL:L=upOf v (climbS v m k i).1 ((v.length:Int)-k) (31-(i:Int))) (h:¬m<L.length):(climbS v m k i).1=(climbS v m k (i+1)).1:=by
  show _=if _ then _ else _
  rw [←hL,if_neg h]
theorem zcV:∀(L K:List Int) (x:Int),x∈L.foldl setAdd K↔x∈K∨x∈L
  | [],K,x=>by simp
  | y::L,K,x=>by rw [List.foldl_cons,zcV L,mem_setAdd,List.mem_cons];exact ⟨fun h=>by rcases h with (h|h)|h<;>simp [h],fun h=>by rcases h with h|h|h<;>simp [h]⟩
theorem fold_nodup:∀(L K:List Int),K.Nodup→(L.foldl setAdd K).Nodup
  | [],K,h=>h
  | y::L,K,h=>fold_nodup L _ (setAdd_nodup h)
theorem zc9 {v:List Int} {m k:Int} (h:mayP v m k=true):mayV v=true∧1≤m∧1≤k∧k<v.length:=by
  unfold mayP at h
  rw [Bool.and_eq_true,decide_eq_true_eq] at h
  exact h
theorem mayV_spec {v:List Int} (h:mayV v=true):0<v.length∧v.length≤200∧v[0]?=some 31∧∀n∈v,0≤n∧n≤31:=by
  unfold mayV at h
  rw [Bool.and_eq_true,decide_eq_true_eq,Bool.not_eq_true',List.any_eq_false] at h
  refine ⟨h.1.1,h.1.2.1,h.1.2.2,fun n hn=>?_⟩
  have:=h.2 n hn
  rw [decide_eq_true_eq] at this
  omega
theorem zcz {v:List Int} {m k:Int} (h:mayP v m k=true):1≤m∧1≤k∧k<v.length∧v.length≤200:=⟨(zc9 h).2.1,(zc9 h).2.2.1,(zc9 h).2.2.2,(mayV_spec (zc9 h).1).2.1⟩
theorem climb_ok {v:List Int} {m k:Int} (h:mayP v m k=true):∀i:Nat,i≤32→(0≤(climbS v m k i).1∧(climbS v m k i).1<v.length)∧(climbS v m k i).2.Nodup∧∀x∈(climbS v m k i).2,0≤x∧x<(v.length:Int)-k
  | 0,_=>by
    have:=zcz h
    exact ⟨⟨Int.le_refl _,by show (0:Int)<_;omega⟩,List.nodup_nil,fun x hx=>by cases hx⟩
  | i+1,hi=>by
    obtain ⟨h1,h2,h3⟩:=climb_ok h i (by omega)
    have hl:=zcz h
    obtain ⟨L,hL⟩:∃L,L=upOf v (climbS v m k i).1 ((v.length:Int)-k) (31-(i:Int)):=⟨_,rfl⟩
    have hm:∀x∈L,0≤x∧x<(v.length:Int)-k:=fun x hx=>by
      rw [hL] at hx
      obtain ⟨j,rfl,_,h5,_⟩:=zeH.1 hx
      omega
    refine ⟨?_,?_,?_⟩
    · by_cases c:m<L.length
      · obtain ⟨z,hz⟩:∃z,L[L.length-m.toNat]?=some z:=⟨_,List.getElem?_eq_getElem (by omega)⟩
        rw [←zb9 hL hz c]
        have:=hm z (List.mem_of_getElem? hz)
        omega
      · rw [←zbY hL c];exact h1
    · show (List.foldl setAdd _ _).Nodup
      exact fold_nodup _ _ h2
    · intro x hx
      have hx:x∈(upOf v (climbS v m k i).1 ((v.length:Int)-k) (31-(i:Int))).foldl setAdd (climbS v m k i).2:=hx
      rw [←hL,zcV] at hx
      exact hx.elim (h3 x) (hm x)
theorem filter_two {α:Type} (p:α→Bool):∀l:List α,l.length=(l.filter p).length+(l.filter fun x=>!p x).length
  | []=>rfl
  | x::l=>by
    have:=filter_two p l
    cases h:p x<;>simp [h,this]<;>omega
theorem nodup_le:∀{n:Nat} {l:List Nat},l.Nodup→(∀i∈l,i<n)→l.length≤n
  | 0,[],_,_=>Nat.le_refl _
  | 0,x::l,_,h=>absurd (h x (List.mem_cons_self ..)) (Nat.not_lt_zero _)
  | n+1,l,hd,h=>by
    have h1:(l.filter fun i=>decide (i≠n)).length≤n:=nodup_le (hd.sublist List.filter_sublist) (fun i hi=>by
      rw [List.mem_filter] at hi
      have:=h i hi.1
      have:=of_decide_eq_true hi.2
      omega)
    have h2:(l.filter fun i=>!decide (i≠n)).length≤1:=by
      have hs:(l.filter fun i=>!decide (i≠n)).Nodup:=hd.sublist List.filter_sublist
      match hf:l.filter (fun i=>!decide (i≠n)) with
      | []=>simp
      | [_]=>simp
      | a::b::_ =>
        rw [hf] at hs
        have ha:a∈l.filter fun i=>!decide (i≠n):=by rw [hf];simp
        have hb:b∈l.filter fun i=>!decide (i≠n):=by rw [hf];simp
        simp only [List.mem_filter,Bool.not_eq_true',decide_eq_false_iff_not,Decidable.not_not] at ha hb
        simp [ha.2,hb.2] at hs
    have h3:=filter_two (fun i=>decide (i≠n)) l
    omega
theorem seen_step {K : List Int} {seen : List Nat} {i : Nat} {v : Int} (hs : seen.Nodup ∧ ∀ i ∈ seen, i < K.length) (hv : K[i]? = some v) (hi : i ∉ seen) :
    ((seen++[i]).Nodup∧∀j∈seen++[i],j<K.length)∧K.length-(seen++[i]).length<K.length-seen.length∧seen.length<K.length:=by
  have h1:(seen++[i]).Nodup∧∀j∈seen++[i],j<K.length:=⟨List.nodup_append.2 ⟨hs.1,by simp,fun a ha b hb=>by simp at hb;subst hb;exact fun e=>hi (e▸ha)⟩,fun j hj=>by
    rcases List.mem_append.1 hj with h|h
    · exact hs.2 j h
    · simp at h;subst h;exact (List.getElem?_eq_some_iff.1 hv).1⟩
  have h2:=nodup_le h1.1 h1.2
  simp only [List.length_append,List.length_cons,List.length_nil] at h2
  exact ⟨h1,by simp;omega,by omega⟩
theorem seen_all {K:List Int} {seen:List Nat} (hs:seen.Nodup∧∀i∈seen,i<K.length) (h:∀i,i<K.length→i∈seen):(seen.map fun i=>K.getD i 0).Perm K:=by
  have h1:seen.Perm (List.range K.length):=(List.perm_ext_iff_of_nodup hs.1 List.nodup_range).2 fun i=>by rw [List.mem_range];exact ⟨hs.2 i,h i⟩
  refine (h1.map _).trans ?_
  have:(List.range K.length).map (fun i=>K.getD i 0)=K:=by
    apply List.ext_getElem?
    intro i
    rw [List.getElem?_map]
    by_cases c:i<K.length
    · rw [List.getElem?_range c,List.getElem?_eq_getElem c];simp [c]
    · rw [List.getElem?_eq_none (by simpa using c),List.getElem?_eq_none (by omega)];rfl
  rw [this]
theorem sort_mem {l:List Int} {x:Int}:x∈sortInts l↔x∈l:=(List.mergeSort_perm l _).mem_iff
theorem zeZ (l:List Int):(sortInts l).Pairwise fun a b=>a≤b:=by
  have:=List.pairwise_mergeSort (le:=fun x y:Int=>decide (x≤y)) (fun a b c h1 h2=>by simp at *;omega) (fun a b=>by simp;omega) l
  exact this.imp fun h=>of_decide_eq_true h
theorem sort_perm {l r:List Int} (h:l.Perm r):sortInts l=sortInts r :=
  (((List.mergeSort_perm l _).trans h).trans (List.mergeSort_perm r _).symm).eq_of_pairwise (fun a b _ _ h1 h2=>Int.le_antisymm h1 h2) (zeZ l) (zeZ r)
theorem climb_length {v K:List Int} {m k a:Int} (h:(0≤a∧a<v.length)∧K.Nodup∧∀x∈K,0≤x∧x<(v.length:Int)-k) (hl:1≤m∧1≤k∧k<v.length∧v.length≤200):K.length≤200:=by
  have h1:(K.map Int.toNat).length≤v.length:=nodup_le (by
    rw [List.Nodup,List.pairwise_map]
    exact h.2.1.imp_of_mem fun {a b} ha hb hne=>by
      have:=h.2.2 a ha
      have:=h.2.2 b hb
      omega) (fun i hi=>by
    obtain ⟨x,hx,rfl⟩:=List.mem_map.1 hi
    have:=h.2.2 x hx
    omega)
  rw [List.length_map] at h1
  omega
theorem indexFuncInt (l:List Int) (p:Int→Bool):Tells P 194 [.val (bsl i64T) l,.fn1 P i64T boolT p] (.val i64T (idx p l)):=by
 refine zc Tryz.func194 rfl rfl rfl (fun ext w hext=>?_)
 refine ze (d:=0) rfl zk (fun hsl0=>?_)
 refine CQR ?_;refine qai ?_;refine qbC ?_;refine qa8 ?_;refine Lp (ι:=Nat) 0 (fun (k:Nat)=>(((((Fr.none).set 0 (.val (bsl i64T) l)).set 1 (.fn1 P i64T boolT p)).set 6 (.val (bsl i64T) l)).set 7 (.val i64T (l.length:Int))).set 8 (.val i64T (k:Int))) (fun (k:Nat)=>Hp.none) (fun (k:Nat)=>k≤l.length∧idx p l=shift k (idx p (l.drop k))) (fun (k:Nat)=>l.length-k) (0) (⟨Nat.zero_le _,shift_zero p l⟩) ?_
 intro k hinv
 refine qaj ?_;refine Cf (p:=k<l.length) (fun ht9=>?_) (fun ht9=>?_)
 ·
  obtain ⟨x,hx⟩:∃x,l[k]?=some x:=⟨_,List.getElem?_eq_getElem ht9⟩
  refine qaP ?_;refine qar ?_;refine A0 mF ?_;refine qak ?_;refine A0 (za0 rfl rfl rfl zbm (by assumption)) ?_;refine qbM ?_;refine A0 (ze8 rfl rfl (by first|exact zB rfl|exact zZ rfl|exact zG rfl rfl|exact zX rfl|exact zx rfl|exact zag rfl rfl|exact zY rfl)) ?_;refine CN ?_;refine zr (p:=p x=true) rfl (by simp) (fun ht16=>?_) (fun ht16=>?_)
  ·
   refine qbg ?_
   exact zb rfl rfl (za rfl (hinv.2.trans (idx_yes hx ht16)).symm)
  ·
   refine qbh ?_
   exact Nx (k+1) (⟨by omega,hinv.2.trans (idx_no hx ht16)⟩) (by omega)
 ·
  refine CE ?_;refine qa5 ?_
  exact zb rfl rfl (za rfl (hinv.2.trans (idx_end (by omega))).symm)
theorem containsFuncInt (l:List Int) (p:Int→Bool):Tells P 134 [.val (bsl i64T) l,.fn1 P i64T boolT p] (.val boolT (l.any p)):=by
 refine zc Tryz.func134 rfl rfl rfl (fun ext w hext=>?_)
 refine ze (d:=0) rfl zk (fun hsl0=>?_)
 refine qbI ?_;refine A0 mF ?_;refine A0 (oCl (indexFuncInt _ _) rfl fn_194 ⟨(zd rfl),(zag rfl rfl),trivial⟩) ?_;refine A0 zcU ?_;refine qac ?_
 exact zb rfl rfl (za rfl (idx_any p l))
theorem mayN_ok (n:Int):Tells P 133 [.val i64T n] (.val boolT (decide (n<0∨31<n))):=by
 refine zc Tryz.func133 rfl rfl rfl (fun ext w hext=>?_)
 refine ze (d:=0) rfl zn (fun hin0=>?_)
 refine qbI ?_;refine A0 zbx ?_;refine qaw ?_;refine Sp (d:=5) (p:=n<0) (fun g5=>?_) (fun g5=>?_)
 ·
  refine qaC ?_;refine qa3 ?_
  exact zb rfl rfl (za rfl ((decide_eq_true (.inl g5)).symm))
 ·
  refine A1 mV ?_;refine A1 zaI ?_;refine qa3 ?_
  exact zb rfl rfl (za rfl (by rw [decide_eq_decide];simp only [IntL.toI,id_eq];omega))
theorem mayV_ok (v:List Int):Tells P 79 [.val (bsl i64T) v] (.val boolT (mayV v)):=by
 refine zc Tryz.func79 rfl rfl rfl (fun ext w hext=>?_)
 refine ze (d:=0) rfl zk (fun hsl0=>?_)
 refine CQR ?_;refine qar ?_;refine A0 aC ?_;refine CNQR ?_;refine qaw ?_;refine qbC ?_;refine A0 zaI ?_;refine qaw ?_;refine Sp (d:=7) (p:=0<v.length) (fun g7=>?_) (fun g7=>?_)
 ·
  refine A1 mV ?_;refine A1 (zR rfl rfl zb2) ?_;refine A1 zcN ?_;refine qae ?_;refine Sp (d:=12) (p:=v.length≤200) (fun g12=>?_) (fun g12=>?_)
  ·
   obtain ⟨x,hx⟩:∃x,v[0]?=some x:=⟨_,List.getElem?_eq_getElem g7⟩
   refine A1 mV ?_;refine A1 (zu (i:=0) rfl rfl rfl (by omega) zbm (by assumption)) ?_;refine A1 (zg rfl rfl ty_3) ?_;refine A1 zbf ?_;refine qae ?_;refine Sp (d:=18) (p:=x=31) (fun g18=>?_) (fun g18=>?_)
   ·
    refine A1 mV ?_;refine A1 mC ?_;refine A1 (oCl (containsFuncInt v (fun n=>decide (n<0∨31<n))) rfl fn_134 ⟨(zd rfl),(by first|exact zcH (Cs:=[]) rfl fn_133 (by intro n hn;cases hn) trivial rfl (fun x=>mayN_ok x)|exact zcG (Cs:=[]) rfl fn_133 (by intro n hn;cases hn) trivial rfl (fun x y=>mayN_ok x)|exact zcI rfl),trivial⟩) ?_;refine A1 oN ?_;refine qa3 ?_
    exact zb rfl rfl (za rfl ((by unfold mayV;rw [decide_eq_true ⟨g7,g12,by rw [hx,g18]⟩];rfl)))
   ·
    refine qab ?_;refine A2 ?_;refine qa3 ?_
    exact zb rfl rfl (za rfl ((by unfold mayV;rw [decide_eq_false (fun h=>g18 (by have:=h.2.2;rw [hx] at this;exact Option.some.inj this))];rfl)))
  ·
   refine qab ?_;refine qay ?_;refine qa3 ?_
   exact zb rfl rfl (za rfl ((by unfold mayV;rw [decide_eq_false (fun h=>g12 h.2.1)];rfl)))
 ·
  refine qab ?_;refine qaM ?_;refine qay ?_;refine qa3 ?_
  exact zb rfl rfl (za rfl ((by unfold mayV;rw [decide_eq_false (fun h=>g7 h.1)];rfl)))
theorem mayP_ok (v:List Int) (m k:Int):Tells P 55 [.val (bsl i64T) v,.val i64T m,.val i64T k] (.val boolT (mayP v m k)):=by
 refine zc Tryz.func55 rfl rfl rfl (fun ext w hext=>?_)
 refine ze (d:=0) rfl zk (fun hsl0=>?_)
 refine ze (d:=1) rfl zn (fun hin1=>?_)
 refine ze (d:=2) rfl zn (fun hin2=>?_)
 refine qbI ?_;refine A0 (oCl (mayV_ok v) rfl fn_79 ⟨(zd rfl),trivial⟩) ?_;refine qaw ?_;refine Sp (d:=9) (p:=mayV v=true) (fun g9=>?_) (fun g9=>?_)
 ·
  refine A1 mV ?_;refine A1 zcU ?_;refine qae ?_;refine Sp (d:=13) (p:=1≤m) (fun g13=>?_) (fun g13=>?_)
  ·
   refine A1 mV ?_;refine A1 zcU ?_;refine qae ?_;refine Sp (d:=17) (p:=1≤k) (fun g17=>?_) (fun g17=>?_)
   ·
    refine A1 mV ?_;refine A1 (zR rfl rfl zb2) ?_;refine A1 mV ?_;refine A1 zaI ?_;refine qa3 ?_
    exact zb rfl rfl (za rfl ((by unfold mayP;rw [g9,Bool.true_and,decide_eq_decide];simp only [IntL.toI,id_eq];omega)))
   ·
    refine qab ?_;refine A2 ?_;refine qa3 ?_
    exact zb rfl rfl (za rfl ((by unfold mayP;rw [decide_eq_false (fun h=>g17 h.2.1),Bool.and_false])))
  ·
   refine A2 ?_;refine qay ?_;refine qa3 ?_
   exact zb rfl rfl (za rfl ((by unfold mayP;rw [decide_eq_false (fun h=>g13 h.1),Bool.and_false])))
 ·
  refine qaC ?_;refine qae ?_;refine A2 ?_;refine qay ?_;refine qa3 ?_
  exact zb rfl rfl (za rfl ((by unfold mayP;rw [Bool.eq_false_iff.2 g9];rfl)))
theorem up_ok (v:List Int) (a b n:Int) (hl:v.length≤1000000000000):Tells P 100 [.val (bsl i64T) v,.val i64T a,.val i64T b,.val i64T n] (.fresh 3 i64T (upOf v a b n)):=by
 refine zc Tryz.func100 rfl rfl rfl (fun ext w hext=>?_)
 refine ze (d:=0) rfl zk (fun hsl0=>?_)
 refine ze (d:=1) rfl zn (fun hin1=>?_)
 refine ze (d:=2) rfl zn (fun hin2=>?_)
 refine ze (d:=3) rfl zn (fun hin3=>?_)
 refine qaX ?_;refine A0 aL ?_;refine qaT ?_;refine A0 (g_max rfl rfl rfl) ?_;refine A0 aV ?_;refine CNB ?_;refine zi (d:=10) (y:=(((max a 0).toNat:Nat):Int)) rfl (by first|omega|(simp only [IntL.toI,id_eq];omega)) ?_;refine zed (T:=i64T) (d:=9) 3 rfl ?_;refine zA (n:=0) (y:=upR v n (max a 0).toNat (max a 0).toNat) rfl (upR_same v n _).symm ?_
 refine Lp (ι:=Nat) 1 (fun (i:Nat)=>(((((Fr.none).set 0 (.val (bsl i64T) v)).set 2 (.val i64T b)).set 3 (.val i64T n)).set 9 (.own 0)).set 10 (.val i64T (i:Int))) (fun (i:Nat)=>(Hp.none).set 0 (.row 3 i64T (upR v n (max a 0).toNat i))) (fun (i:Nat)=>(max a 0).toNat≤i∧((i:Int)≤min b v.length∨i=(max a 0).toNat)) (fun (i:Nat)=>v.length-i) ((max a 0).toNat) (⟨Nat.le_refl _,.inr rfl⟩) ?_
 intro i hinv
 refine CQQR ?_;refine qak ?_;refine qaw ?_;refine qbC ?_;refine A0 (g_min rfl rfl rfl) ?_;refine qaG ?_;refine Cf (p:=(i:Int)<min b v.length) (fun ht18=>?_) (fun ht18=>?_)
 ·
  obtain ⟨x,hx⟩:∃x,v[i]?=some x:=⟨_,List.getElem?_eq_getElem (by omega)⟩
  refine CSQBQR ?_;refine qak ?_;refine A0 (zu (i:=i) rfl rfl rfl (by omega) zbm (by assumption)) ?_;refine qbM ?_;refine qaw ?_;refine qbK ?_;refine Cf (p:=n≤x) (fun ht26=>?_) (fun ht26=>?_)
  ·
   refine CR ?_;refine A0 mO ?_;refine qaw ?_;refine A0 (zt (T:=i64T) (xs:=[_]) rfl zbm zcP ⟨rfl,rfl,trivial⟩ rfl rfl) ?_;refine zD rfl rfl rfl rfl rfl rfl rfl zcP (by have:=upR_length v n (max a 0).toNat i;simp;omega) ?_;refine A0 aO ?_;refine CNIR ?_;refine qaY ?_;refine qac ?_;refine zaG 1 0 2 rfl rfl rfl rfl rfl rfl ?_;refine zA (n:=0) (y:=upR v n (max a 0).toNat (i+1)) rfl (upR_yes hx hinv.1 ht26).symm ?_
   exact Nx (i+1) (⟨by omega,by omega⟩) (by omega)
  ·
   refine qas ?_;refine zA (n:=0) (y:=upR v n (max a 0).toNat (i+1)) rfl (upR_no hx hinv.1 ht26).symm ?_
   exact Nx (i+1) (⟨by omega,by omega⟩) (by omega)
 ·
  refine qaA ?_
  exact zb rfl rfl (zf rfl rfl (upOf_end hinv.1 hinv.2 ht18))
theorem prefix_ok (v:List Int) (m k:Int):Tells P 24 [.val (bsl i64T) v,.val i64T m,.val i64T k] (.tup2 (.fresh 3 i64T (prefixOf v m k).1) (.val boolT (prefixOf v m k).2)):=by
 refine zc Tryz.func24 rfl rfl rfl (fun ext w hext=>?_)
 refine ze (d:=0) rfl zk (fun hsl0=>?_)
 refine ze (d:=1) rfl zn (fun hin1=>?_)
 refine ze (d:=2) rfl zn (fun hin2=>?_)
 refine qao ?_;refine qai ?_;refine qak ?_;refine A0 (oCl (mayP_ok v m k) rfl fn_55 ⟨(zd rfl),(zd rfl),(zd rfl),trivial⟩) ?_;refine qaN ?_;refine zr (p:=¬mayP v m k=true) rfl (by simp) (fun ht13=>?_) (fun ht13=>?_)
 ·
  refine qaZ ?_
  exact zT rfl rfl (by unfold prefixOf;rw [if_neg ht13];exact zm rfl) (za rfl (by unfold prefixOf;rw [if_neg ht13]))
 ·
  have hmp:mayP v m k=true:=Classical.byContradiction ht13
  have hcl:=climb_ok hmp
  have hvl:=zcz hmp
  refine CSQR ?_;refine aw_mkmap rfl rfl rfl rfl (fun b0=>?_)
  refine aw_alloc_p zp_102 rfl rfl rfl rfl rfl rfl ?_;refine zaj rfl rfl rfl rfl rfl rfl rfl rfl rfl rfl ty_102 ?_;refine CNQR ?_;refine qak ?_;refine qaw ?_;refine A0 (g_mkf (caps:=[_]) rfl rfl) ?_;refine zU rfl rfl rfl rfl Tryz.func56 fn_56 rfl rfl (fun ia2 iok2=>?_)
  refine qbI ?_;refine CNB ?_;refine Lp (ι:=Nat) 2 (fun (i:Nat)=>((((((Fr.none).set 0 (.val (bsl i64T) v)).set 1 (.val i64T m)).set 2 (.val i64T k)).set 3 (.clo 57 [1])).set 8 (.val i64T (climbS v m k i).1)).set 12 (.val i64T (i:Int))) (fun (i:Nat)=>((Hp.none).set 0 (.objAt b0 (setO (climbS v m k i).2))).set 1 (.parts 102 [.lit (.map (some b0))])) (fun (i:Nat)=>i≤32) (fun (i:Nat)=>32-i) (0) (Nat.zero_le _) ?_
  intro i hi
  refine qaj ?_;refine Cf (p:=i<32) (fun ht13=>?_) (fun ht13=>?_)
  ·
   have hci:=hcl i (by omega)
   have hup:=zp (up_ok v (climbS v m k i).1 ((v.length:Int)-k) (31-(i:Int)) (by omega))
   obtain ⟨L,hL⟩:∃L,L=upOf v (climbS v m k i).1 ((v.length:Int)-k) (31-(i:Int)):=⟨_,rfl⟩
   rw [←hL] at hup
   have hLl:L.length≤200:=by rw [hL];have:=up_length v (climbS v m k i).1 ((v.length:Int)-k) (31-(i:Int));omega
   refine qaP ?_;refine qad ?_;refine A0 zaT ?_;refine qad ?_;refine qak ?_;refine qbC ?_;refine qbA ?_;refine qaw ?_;refine A0 (oCl (hup) rfl fn_100 ⟨(zd rfl),(zd rfl),(zd rfl),(zd rfl),trivial⟩) ?_;refine qar ?_;refine A0 mC ?_;refine qak ?_;refine qaw ?_;refine aw_inlinec rfl rfl rfl rfl rfl Tryz.func57 fn_57 rfl rfl (by intro n hn;simp only [List.mem_cons,List.not_mem_nil,or_false] at hn;rcases hn with rfl<;>rfl) (fun ia3 iok3=>?_)
   refine qa1 ?_;refine qbC ?_;refine qa8 ?_;refine Lp (ι:=Nat) 2 (fun (j:Nat)=>((((Fr.none).set 3 (.ptr 1 0)).set 9 (.val (sl i64T) L)).set 10 (.val i64T (L.length:Int))).set 11 (.val i64T (j:Int))) (fun (j:Nat)=>((Hp.none).set 0 (.objAt b0 (setO ((L.take j).foldl setAdd (climbS v m k i).2)))).set 1 (.parts 102 [.lit (.map (some b0))])) (fun (j:Nat)=>j≤L.length) (fun (j:Nat)=>L.length-j) (0) (Nat.zero_le _) ?_
   intro j hj
   refine qaj ?_;refine Cf (p:=j<L.length) (fun ht12=>?_) (fun ht12=>?_)
   ·
    obtain ⟨x,hx⟩:∃x,L[j]?=some x:=⟨_,List.getElem?_eq_getElem ht12⟩
    refine CSQBQR ?_;refine A0 (za0 rfl rfl rfl zbm (by assumption)) ?_;refine qbM ?_;refine A0 aX ?_;refine CNR ?_;refine A0 (by first|exact zo rfl rfl rfl rfl rfl ty_102|exact zaU rfl rfl rfl rfl ty_102) ?_;refine A0 mX ?_;refine A0 (g_build0 rfl zu_104 su_104) ?_;refine aw_mapput (n:=0) rfl rfl rfl rfl rfl rfl rfl mp_102 ui_3 ?_;refine qaW ?_;refine aw_reobj 0 (setO ((L.take (j+1)).foldl setAdd (climbS v m k i).2)) rfl (by rw [List.take_add_one,hx,List.foldl_append];rfl) ?_
    exact Nx (j+1) (by omega) (by omega)
   ·
    refine CE ?_;refine aw_back0f rfl ?_;refine CNQ ?_;refine aw_reobj 0 (setO (L.foldl setAdd (climbS v m k i).2)) rfl (by rw [List.take_of_length_le (by omega)]) ?_;refine CR ?_;refine qaw ?_;refine qbC ?_;refine qaw ?_;refine A0 zaI ?_;refine CN ?_;refine Cf (p:=m<L.length) (fun ht33=>?_) (fun ht33=>?_)
    ·
     obtain ⟨c,hc⟩:∃c,L[L.length-m.toNat]?=some c:=⟨_,List.getElem?_eq_getElem (by omega)⟩
     refine CR ?_;refine qak ?_;refine qbC ?_;refine qbA ?_;refine A0 (zu (i:=L.length-m.toNat) rfl rfl rfl (by omega) zbm (by assumption)) ?_;refine qbM ?_;refine A0 aX ?_;refine qaW ?_;refine zi (d:=8) (y:=(climbS v m k (i+1)).1) rfl (zb9 hL hc ht33) ?_;refine aw_reobj 0 (setO (climbS v m k (i+1)).2) rfl (by rw [hL];rfl) ?_
     exact Nx (i+1) (by omega) (by omega)
    ·
     refine qbh ?_;refine zi (d:=8) (y:=(climbS v m k (i+1)).1) rfl (zbY hL ht33) ?_;refine aw_reobj 0 (setO (climbS v m k (i+1)).2) rfl (by rw [hL];rfl) ?_
     exact Nx (i+1) (by omega) (by omega)
  ·
   refine CE ?_;refine aw_back0f rfl ?_;refine CNQ ?_
   have hi32:i=32:=by omega
   subst hi32
   obtain ⟨K,hK⟩:∃K,K=(climbS v m k 32).2:=⟨_,rfl⟩
   have hck:=hcl 32 (by omega)
   rw [←hK] at hck
   refine aw_reobj 0 (setO K) rfl (by rw [hK]) ?_
   have hkeys:∀x∈K,-9223372036854775808≤x∧x≤9223372036854775807:=fun x hx=>by have:=hck.2.2 x hx;omega
   have hKl:=climb_length hck hvl
   refine CR ?_;refine A0 (by first|exact zo rfl rfl rfl rfl rfl ty_102|exact zaU rfl rfl rfl rfl ty_102) ?_;refine zU rfl rfl rfl rfl Tryz.func59 fn_59 rfl rfl (fun ia4 iok4=>?_)
   refine CQR ?_;refine aw_box_p rfl rfl rfl rfl rfl rfl rfl ?_;refine A0 aL ?_;refine CNQR ?_;refine A0 (g_mkf (caps:=[_]) rfl rfl) ?_;refine A0 aC ?_;refine CN ?_;refine zaK rfl ?_;refine zU rfl rfl rfl rfl Tryz.func58 fn_58 rfl rfl (fun ia6 iok6=>?_)
   refine qaX ?_;refine A0 mC ?_;refine zU rfl rfl rfl rfl Tryz.func101 fn_101 rfl rfl (fun ia7 iok7=>?_)
   refine qaX ?_;refine A0 mC ?_;refine zU rfl rfl rfl rfl Tryz.func153 fn_153 rfl rfl (fun ia8 iok8=>?_)
   refine CQR ?_;refine aw_box_p rfl rfl rfl rfl rfl rfl rfl ?_;refine A0 aL ?_;refine CN ?_;refine aw_nilpart 3 3 i64T rfl ?_;refine CQQR ?_;refine A0 mC ?_;refine CNB ?_;refine aw_range rfl rfl rfl Tryz.func103 fn_103 rfl rfl (by intro n hn;simp only [List.mem_cons,List.not_mem_nil,or_false] at hn;rcases hn with rfl<;>rfl) (fun fid11 ca11 lN11 DN11 cok11 rc11 hrc11=>?_)
   refine CQR ?_;refine A0 (by first|exact zo rfl rfl rfl rfl rfl ty_102|exact zaU rfl rfl rfl rfl ty_102) ?_;refine aw_rangemap (n:=0) rfl rfl rfl rfl rfl rfl mp_102 (fun it0=>?_)
   refine CNB ?_;refine zaG 4 8 9 rfl rfl rfl rfl rfl rfl ?_;refine Lp (ι:=List Nat) 9 (fun (seen:List Nat)=>((Fr.none).set 0 (.lit (.func (.yield lN11) #[] #[]))).set 5 (.ptr 7 0)) (fun (seen:List Nat)=>((((((Hp.none).set 0 (.objAt b0 (setO K))).set 3 (.parts 41 [.own 8])).set 8 (.row 3 i64T (seen.map fun i=>K.getD i 0))).set 5 (.objAt DN11 (.deferred (some [])))).set 6 (.objAt lN11 (rc11 .ready none))).set 7 (.objAt it0 (itO b0 K.length seen))) (fun (seen:List Nat)=>seen.Nodup∧∀i∈seen,i<K.length) (fun (seen:List Nat)=>K.length-seen.length) ([]) (⟨List.nodup_nil,fun i h=>by cases h⟩) ?_
   intro seen hs
   refine CQR ?_;refine aw_nextmap (n1:=0) (n2:=7) rfl rfl rfl rfl rfl (hkeys) rfl rfl (fun hall=>?_) (fun i v hiv his=>?_)
   ·
    refine A0 (g_x1f rfl rfl) ?_;refine CNQ ?_;refine Cg ?_;refine CE ?_;refine zer (nL:=6) rfl hrc11 rfl (by decide) ?_;refine CI ?_;refine CQR ?_;refine A0 (by first|exact zo rfl rfl rfl rfl rfl zb6|exact zaU rfl rfl rfl rfl zb6) ?_;refine qbk ?_;refine zao (zbP (nD:=5) rfl rfl rfl (ar_back1 rfl ?_))
    refine qbk ?_;refine zaK rfl ?_;refine A0 aO ?_;refine CNQR ?_;refine A0 mO ?_;refine zfh (sortInt_ok (seen.map fun i=>K.getD i 0) (by rw [List.length_map];have:=nodup_le hs.1 hs.2;omega)) rfl fn_102 rfl trivial trivial rfl ⟨(by first|exact zaN rfl|exact zaM rfl|exact zat rfl|exact zaQ rfl|exact zaO rfl|exact zaP rfl|exact zaL rfl rfl (by decide)),trivial⟩ rfl rfl rfl ?_;refine CNQR ?_;refine A0 mO ?_;refine qbk ?_;refine zaK rfl ?_;refine qbP ?_
    exact zT rfl rfl (zf rfl rfl (by unfold prefixOf;rw [if_pos hmp,←hK];exact sort_perm (seen_all hs hall))) (za rfl (by unfold prefixOf;rw [if_pos hmp]))
   ·
    obtain ⟨hs1,hs2,hs3⟩:=seen_step hs hiv his
    refine A0 e30 ?_;refine CNQ ?_;refine Ct ?_;refine CS ?_;refine CB ?_;refine CQR ?_;refine aw_entry (n1:=0) (n2:=7) (v:=v) (i:=i) rfl rfl rfl rfl rfl (by exact rfl) (by exact rfl) (by assumption) (hkeys) ?_;refine A0 (by first|exact zN rfl rfl|exact zM rfl rfl) ?_;refine A0 aX ?_;refine CNQR ?_;refine A0 mL ?_;refine A0 mX ?_;refine aw_yield (nL:=6) rfl rfl rfl rfl rfl hrc11 rfl rfl rfl (fun ya12 yok12=>?_)
    refine CR ?_;refine qaK ?_;refine aw_begin (nL:=6) hrc11 rfl ?_;refine CB ?_;refine CR ?_;refine A0 (by first|exact zo rfl rfl rfl rfl rfl zb6|exact zaU rfl rfl rfl rfl zb6) ?_;refine A0 mX ?_;refine A0 (zt (T:=i64T) (xs:=[_]) rfl zbm zcP ⟨rfl,rfl,trivial⟩ rfl rfl) ?_;refine zD rfl rfl rfl rfl rfl rfl rfl zcP (by simp;omega) ?_;refine zaj rfl rfl rfl rfl rfl rfl rfl rfl rfl rfl zb6 ?_;refine CN ?_;refine CI ?_;refine zdl (nL:=6) hrc11 rfl ?_;refine qaN ?_;refine Cg ?_;refine CS ?_;refine CI ?_;refine zaG 9 8 10 rfl rfl rfl rfl rfl rfl ?_
    refine zA (n:=8) (y:=(seen++[i]).map fun i=>K.getD i 0) rfl (by rw [List.map_append];simp [hiv]) ?_
    exact Nx (seen++[i]) (hs1) (hs2)
end Go.Proofs.YtjjlfapfjjkomaaGreat
