/- Parts of the proof: the layer that reads Go values as data, and what the functions of the program tell. -/
import Derived.Test.YticippfoekpkhaaGreatK5
set_option linter.unusedVariables false
set_option linter.unusedSimpArgs false
set_option maxRecDepth 20000
namespace Go.Proofs.YticippfoekpkhaaGreat
open Go.Ab Go.RowKit
theorem zq3 {l:List Block} {g:Block} (h:l[0]?=some g) (h1:za6 g.h.bits=true) (h2:(zar g.h.bits).b=g):zM l=zaw (zar g.h.bits) (l.drop 1):=by
  cases l with
  | nil=>cases h
  | cons x r =>
    injection h with h;subst h;unfold zM;simp only[];rw[if_pos ⟨h1,h2⟩];rfl
theorem ze5 {l:List Block} {g:Block} (h:l[0]?=some g) (h1:¬(za6 g.h.bits=true∧(zar g.h.bits).b=g)):zM l=(zTip,12):=by
  cases l with
  | nil=>cases h
  | cons x r =>
    injection h with h;subst h;unfold zM;simp only[];rw[if_neg h1]
theorem check_step {r:List Block} {k:Nat} {b:Block} {t:Tip} (hb:r[k]?=some b) (h:zdn t b=0):zaw t (r.drop k)=zaw (zjh t b) (r.drop (k+1)):=by
  obtain⟨hk,rfl⟩:=ul.1 hb;rw[List.drop_eq_getElem_cons hk,zaw,if_pos h]
theorem zpH {r:List Block} {k:Nat} {b:Block} {t:Tip} (hb:r[k]?=some b) (h:¬zdn t b=0):zaw t (r.drop k)=(zTip,zdn t b):=by
  obtain⟨hk,rfl⟩:=ul.1 hb;rw[List.drop_eq_getElem_cons hk,zaw,if_neg h]
theorem zsS {r:List Block} {k:Nat} {t:Tip} (h:r.length≤k):zaw t (r.drop k)=(t,0):=by
  rw[List.drop_of_length_le h];rfl
theorem zn9 {l:List Block} (h:l.length=0):zM l=(zTip,9):=by rw[List.eq_nil_of_length_eq_zero h];rfl
def newOf (bits:UInt32):List Block:=if za6 bits=true then [(zar bits).b] else []
theorem zqq (t:Tx) (ht:zhQ t):Tells P 151 [.val txT t] (.val txT t):=by
 refine zc Tryz.func151 rfl rfl rfl (fun ext w hext=>?_);refine qai ?_;refine zq zrr rfl rfl rfl rfl ?_;refine CNQ ?_;refine zC [some 1,some 1,some 1,some 1,some 1,some 1,some 1,none] mixed yc ?_;refine X0 (oFp zdY) ?_;refine X0 (oLb zev zhN) ?_;refine X0 (oCl (zB (cloneIn t.ins (by unfold zhQ at ht;constructor<;>omega))) rfl fn_152 yd) ?_;refine X0 (oFp zes) ?_;refine X0 (oLb zd4 ziW) ?_;refine X0 (oCl (zB (zvV t.outs (by unfold zhQ at ht;constructor<;>omega))) rfl fn_153 yd) ?_;refine X0 (zu rfl zrr bd_124 (.cons zdY zev zhN rfl (.cons zes zd4 ziW rfl .nil)) rfl) ?_;refine XK.e (x:=.idk) (fun fr' hfr kk H=>by exact zg rfl rfl rfl ((hfr 2 yc).trans rfl) rfl (Lens.self _) zgx ((hfr 9 yc).trans rfl) (zr H)) ?_;refine XK.nil' ?_;exact zab rfl rfl rfl rfl zgx (rfl)
theorem toldTx_ok (l:List Tx) (hl:zrS l):Tells P 150 [.val (bsl txT) l,.clo 151 []] (.fresh 124 txT l):=by
 have hll:=hl.1;refine zc Tryz.func150 rfl rfl rfl (fun ext w hext=>?_);refine zf (d:=0) rfl zl (fun hsl0=>?_);refine qbv ?_;refine A0 aL ?_;refine qaN ?_;refine qcq ?_;refine qa0 ?_;refine zcJ (T:=txT) (d:=5) 124 rfl ?_;refine Lp (ι:=Nat) 1 (fun (k:Nat)=>((((((Fr.none).set 0 (.val (bsl txT) l)).set 1 (.clo 151 [])).set 5 (.own 0)).set 8 (.val (bsl txT) l)).set 9 (.val i64T (l.length:Int))).set 10 (.val i64T (k:Int))) (fun (k:Nat)=>(Hp.none).set 0 (.row 124 txT (l.take k))) (fun (k:Nat)=>k≤l.length) (fun (k:Nat)=>l.length-k) (0) (uf _) ?_;intro k hinv;refine qal ?_;refine Cf (p:=k<l.length) (fun ht11=>?_) (fun ht11=>?_)
 ·
  obtain⟨x,hx⟩:∃x,l[k]?=some x:=ybr;have hxm:=ud hx;refine CSQBQR ?_;refine qaX ?_;refine qbN ?_;refine CNR ?_;refine A0 mO ?_;refine A0 mC ?_;refine qcb ?_;refine A0 (zgp (As:=[_]) (Cs:=[]) (zqq x (hl.2 x hxm)) rfl rfl fn_151 yd yC trivial rfl) ?_;refine A0 (zL (T:=txT) (xs:=[_]) rfl zm4 zuX yx rfl rfl) ?_;refine zN rfl rfl rfl rfl rfl rfl rfl zuX yA ?_;refine qbW ?_;refine zz (n:=0) (y:=l.take (k+1)) rfl (by rw[un,hx];rfl) ?_;exact Nx (k+1) ya ya
 refine qa3 ?_;exact zb rfl rfl (zh rfl rfl yN)
theorem ztK (b:Block) (hb:zfX b):Tells P 149 [.val zH b] (.val zH b):=by
 have hb1:=hb.1;refine zc Tryz.func149 rfl rfl rfl (fun ext w hext=>?_);refine qai ?_;refine zq zmJ rfl rfl rfl rfl ?_;refine CNQR ?_;refine A0 (oFp zdW) ?_;refine A0 (oLb zb2 zcy) ?_;refine A0 (oCl (zB (zlh b.l yac)) rfl fn_71 yd) ?_;refine A0 (oFp zdW) ?_;refine zg rfl rfl rfl rfl rfl zb2 zcy rfl ?_;refine CNQR ?_;refine A0 (oFp zeQ) ?_;refine A0 (oLb zcN zl7) ?_;refine A0 (oCl (zB (toldTx_ok b.t hb.2)) rfl fn_150 ⟨yl,(by first|exact zdu (Cs:=[]) rfl fn_151 yC trivial rfl (fun x=>zqq _ yj)|exact zdt (Cs:=[]) rfl fn_151 yC trivial rfl (fun x y=>zqq _ yj)|exact zdv rfl),trivial⟩) ?_;refine A0 (oFp zeQ) ?_;refine zg rfl rfl rfl rfl rfl zcN zl7 rfl ?_;refine CNQR ?_;refine xy ?_;refine qbT ?_;refine CN ?_;exact zab rfl rfl rfl rfl zdO (rfl)
theorem zrK (l:List Block) (hl:zhR l):Tells P 148 [.val (bsl zH) l,.clo 149 []] (.fresh 36 zH l):=by
 have hll:=hl.1;refine zc Tryz.func148 rfl rfl rfl (fun ext w hext=>?_);refine zf (d:=0) rfl zl (fun hsl0=>?_);refine qbv ?_;refine A0 aL ?_;refine qaN ?_;refine xB ?_;refine qa0 ?_;refine zcJ (T:=zH) (d:=5) 36 rfl ?_;refine Lp (ι:=Nat) 1 (fun (k:Nat)=>((((((Fr.none).set 0 (.val (bsl zH) l)).set 1 (.clo 149 [])).set 5 (.own 0)).set 8 (.val (bsl zH) l)).set 9 (.val i64T (l.length:Int))).set 10 (.val i64T (k:Int))) (fun (k:Nat)=>(Hp.none).set 0 (.row 36 zH (l.take k))) (fun (k:Nat)=>k≤l.length) (fun (k:Nat)=>l.length-k) (0) (uf _) ?_;intro k hinv;refine qal ?_;refine Cf (p:=k<l.length) (fun ht11=>?_) (fun ht11=>?_)
 ·
  obtain⟨x,hx⟩:∃x,l[k]?=some x:=ybr;have hxm:=ud hx;refine qaZ ?_;refine A0 mC ?_;refine xy ?_;refine A0 (zgp (As:=[_]) (Cs:=[]) (ztK x (hl.2 x hxm)) rfl rfl fn_149 yd yC trivial rfl) ?_;refine A0 (zL (T:=zH) (xs:=[_]) rfl zfQ zr2 yx rfl rfl) ?_;refine zN rfl rfl rfl rfl rfl rfl rfl zr2 yA ?_;refine qbW ?_;refine zz (n:=0) (y:=l.take (k+1)) rfl (by rw[un,hx];rfl) ?_;exact Nx (k+1) ya ya
 refine qa3 ?_;exact zb rfl rfl (zh rfl rfl yN)
theorem ownC_ok (l:List Block) (hl:zhR l):Tells P 96 [.val (bsl zH) l] (.fresh 36 zH l):=by
 refine zc Tryz.func96 rfl rfl rfl (fun ext w hext=>?_);refine zf (d:=0) rfl zl (fun hsl0=>?_);refine qbv ?_;refine qaw ?_;refine zaT (zrK l hl) rfl fn_148 ⟨yl,(by first|exact zdu (Cs:=[]) rfl fn_149 yC trivial rfl (fun x=>ztK _ yj)|exact zdt (Cs:=[]) rfl fn_149 yC trivial rfl (fun x y=>ztK _ yj)|exact zdv rfl),trivial⟩ rfl rfl rfl ?_;refine qbm ?_;exact zb rfl rfl (zh rfl rfl rfl)
theorem zso (b:Block):Tells P 119 [.val zH b] (.val i64T (zK b.h)):=by
 refine zc Tryz.func119 rfl rfl rfl (fun ext w hext=>?_);refine qai ?_;refine qa4 ?_;refine A0 (oFp zaU) ?_;refine A0 (oLb zal zaF) ?_;refine A0 (oCl (zh9 _) rfl fn_92 yd) ?_;refine qad ?_;exact zb rfl rfl yE
theorem zvm (b:Block):Tells P 86 [.val zH b] (.val zah (zbA b.h)):=by
 refine zc Tryz.func86 rfl rfl rfl (fun ext w hext=>?_);refine qai ?_;refine qbC ?_;refine CNQ ?_;refine zC [some 1,some 1,some 1,some 1,some 1,some 1,some 1,none] mixed yc ?_;refine X0 (oFp zaU) ?_;refine X0 (oLb zal zaF) ?_;refine X0 (oCl (zdb _) rfl zoP yd) ?_;refine X0 (oFp zaU) ?_;refine X0 (oLb zal zaF) ?_;refine X0 (oCl (zjl _) rfl fn_94 yd) ?_;refine X0 (oCl (zqz _ _) rfl fn_93 yi) ?_;refine XK.e (x:=.idk) (fun fr' hfr kk H=>by exact zg rfl rfl rfl ((hfr 2 yc).trans rfl) rfl (Lens.self _) zbm ((hfr 9 yc).trans rfl) (zr H)) ?_;refine XK.nil' ?_;exact zab rfl rfl rfl rfl zbm (rfl)
theorem toldInt_ok (l:List Block) (f:Block→Int) (hl:l.length≤1000000000000):Tells P 118 [.val (bsl zH) l,.fn1 P zH i64T f] (.fresh 3 i64T (l.map f)):=by
 refine zc Tryz.func118 rfl rfl rfl (fun ext w hext=>?_);refine zf (d:=0) rfl zl (fun hsl0=>?_);refine qbv ?_;refine A0 aL ?_;refine qaN ?_;refine xB ?_;refine qa0 ?_;refine zcJ (T:=i64T) (d:=5) 3 rfl ?_;refine Lp (ι:=Nat) 1 (fun (k:Nat)=>((((((Fr.none).set 0 (.val (bsl zH) l)).set 1 (.fn1 P zH i64T f)).set 5 (.own 0)).set 8 (.val (bsl zH) l)).set 9 (.val i64T (l.length:Int))).set 10 (.val i64T (k:Int))) (fun (k:Nat)=>(Hp.none).set 0 (.row 3 i64T ((l.take k).map f))) (fun (k:Nat)=>k≤l.length) (fun (k:Nat)=>l.length-k) (0) (uf _) ?_;intro k hinv;refine qal ?_;refine Cf (p:=k<l.length) (fun ht11=>?_) (fun ht11=>?_)
 ·
  obtain⟨x,hx⟩:∃x,l[k]?=some x:=ybr;have hxm:=ud hx;refine qaZ ?_;refine A0 mF ?_;refine xy ?_;refine A0 (ziD rfl rfl yl) ?_;refine qaJ ?_;refine qbW ?_;refine zz (n:=0) (y:=(l.take (k+1)).map f) rfl (by rw[un,hx];simp) ?_;exact Nx (k+1) ya ya
 refine qa3 ?_;exact zb rfl rfl (zh rfl rfl yN)
theorem zrJ (l:List Block) (f:Block→Total) (hl:l.length≤1000000000000):Tells P 85 [.val (bsl zH) l,.fn1 P zH zah f] (.fresh 130 zah (l.map f)):=by
 refine zc Tryz.func85 rfl rfl rfl (fun ext w hext=>?_);refine zf (d:=0) rfl zl (fun hsl0=>?_);refine qbv ?_;refine A0 aL ?_;refine qaN ?_;refine xB ?_;refine qa0 ?_;refine zcJ (T:=zah) (d:=5) 130 rfl ?_;refine Lp (ι:=Nat) 1 (fun (k:Nat)=>((((((Fr.none).set 0 (.val (bsl zH) l)).set 1 (.fn1 P zH zah f)).set 5 (.own 0)).set 8 (.val (bsl zH) l)).set 9 (.val i64T (l.length:Int))).set 10 (.val i64T (k:Int))) (fun (k:Nat)=>(Hp.none).set 0 (.row 130 zah ((l.take k).map f))) (fun (k:Nat)=>k≤l.length) (fun (k:Nat)=>l.length-k) (0) (uf _) ?_;intro k hinv;refine qal ?_;refine Cf (p:=k<l.length) (fun ht11=>?_) (fun ht11=>?_)
 ·
  obtain⟨x,hx⟩:∃x,l[k]?=some x:=ybr;have hxm:=ud hx;refine qaZ ?_;refine A0 mF ?_;refine xy ?_;refine A0 (ziD rfl rfl yl) ?_;refine A0 (zL (T:=zah) (xs:=[_]) rfl zfP zhU yx rfl rfl) ?_;refine zN rfl rfl rfl rfl rfl rfl rfl zhU yA ?_;refine qbW ?_;refine zz (n:=0) (y:=(l.take (k+1)).map f) rfl (by rw[un,hx];simp) ?_;exact Nx (k+1) ya ya
 refine qa3 ?_;exact zb rfl rfl (zh rfl rfl yN)
theorem zsm (l:List Block) (hl:l.length≤1000000000000):Tells P 69 [.val (bsl zH) l] (.fresh 3 i64T (zk l)):=by
 refine zc Tryz.func69 rfl rfl rfl (fun ext w hext=>?_);refine zf (d:=0) rfl zl (fun hsl0=>?_);refine qbv ?_;refine qaw ?_;refine zaT (toldInt_ok l (fun b=>zK b.h) hl) rfl fn_118 ⟨yl,(by first|exact zdu (Cs:=[]) rfl fn_119 yC trivial rfl (fun x=>zso x)|exact zdt (Cs:=[]) rfl fn_119 yC trivial rfl (fun x y=>zso x)|exact zdv rfl),trivial⟩ rfl rfl rfl ?_;refine qbm ?_;exact zb rfl rfl (zh rfl rfl rfl)
theorem leaves_ok (l:List Block) (hl:l.length≤1000000000000):Tells P 38 [.val (bsl zH) l] (.fresh 130 zah (zQ l)):=by
 refine zc Tryz.func38 rfl rfl rfl (fun ext w hext=>?_);refine zf (d:=0) rfl zl (fun hsl0=>?_);refine qbv ?_;refine qaw ?_;refine zaT (zrJ l (fun b=>zbA b.h) hl) rfl fn_85 ⟨yl,(by first|exact zdu (Cs:=[]) rfl fn_86 yC trivial rfl (fun x=>zvm x)|exact zdt (Cs:=[]) rfl fn_86 yC trivial rfl (fun x y=>zvm x)|exact zdv rfl),trivial⟩ rfl rfl rfl ?_;refine qbm ?_;exact zb rfl rfl (zh rfl rfl rfl)
theorem zkt (l:List Block) (hl:zhR l):Tells P 6 [.val (bsl zH) l] (.tup2 (.val tipT (zM l).1) (.val i64T (zM l).2)):=by
 have hll:=hl.1;refine zc Tryz.func6 rfl rfl rfl (fun ext w hext=>?_);refine zf (d:=0) rfl zl (fun hsl0=>?_);refine CQR ?_;refine zq zl3 rfl rfl rfl rfl ?_;refine qad ?_;refine zq8 (ι:=Block) 2 0 rfl rfl rfl (fun (g:Block)=>((((Fr.none).set 0 (.val (bsl zH) l)).set 2 (.ptr 0 0)).set 4 (.ptr 1 0)).set 6 (.val i64T 0)) (fun (g:Block)=>((Hp.none).set 0 (.box 40 tipT zTip)).set 1 (.box 40 tipT (zar g.h.bits))) (fun (g:Block)=>l[0]?=some g∧za6 g.h.bits=true∧(zar g.h.bits).b=g) (fun (g:Block)=>0) ?_ (fun hreach=>?_)
 ·
  intro g hinv;have hl1:=(ul.1 hinv.1).1;refine qb5 ?_;refine A0 (zlR rfl rfl rfl zfQ yh) ?_;refine xB ?_;refine qa0 ?_;refine Lp (ι:=Nat×Tip) 2 (fun(k,t)=>((((((Fr.none.set 0 (.val (bsl zH) l)).set 2 (.ptr 0 0)).set 4 (.ptr 1 0)).set 6 (.val i64T 0)).set 35 (.val (bsl zH) (l.drop 1))).set 36 (.val i64T ((l.drop 1).length:Int))).set 37 (.val i64T (k:Int))) (fun(k,t)=>(Hp.none.set 0 (.box 40 tipT zTip)).set 1 (.box 40 tipT t)) (fun(k,t)=>k≤(l.drop 1).length∧zrR t k∧zM l=zaw t ((l.drop 1).drop k)) (fun(k,t)=>(l.drop 1).length-k) ((0,zar g.h.bits)) (⟨uf _,znR,zq3 hinv.1 hinv.2.1 hinv.2.2⟩) ?_;intro⟨k,t⟩ hin;dsimp only at hin;refine qal ?_;refine Cf (p:=k<(l.drop 1).length) (fun ht38=>?_) (fun ht38=>?_)
  ·
   have hk38:k<l.length:=by rw[List.length_drop] at ht38;omega
   obtain⟨b,hb⟩:∃b,(l.drop 1)[k]?=some b:=⟨_,ub ht38⟩;have hbm:=hl.2 b (List.mem_of_mem_drop (ud hb));refine CSQBQR ?_;refine A0 (zR (i:=k) rfl rfl rfl ya zfQ yj) ?_;refine A0 (ze rfl rfl zdO) ?_;refine zq zmJ rfl rfl rfl rfl ?_;refine qbT ?_;refine CNQR ?_;refine xz ?_;refine xy ?_;refine A0 (oCl (push_ok t b hin.2.1.1 hbm) rfl fn_20 yi) ?_;refine qaQ ?_;refine qbh ?_;refine qag ?_;refine qbz ?_;refine zo (p:=¬zdn t b=0) rfl yO (fun ht48=>?_) (fun ht48=>?_)
   ·
    refine CE ?_;refine qb5 ?_;refine qbz ?_;refine ziq rfl (by simpa [IntL.toI] using ht48) ?_;refine CQR ?_;refine A0 (zu rfl zl3 zug .nil rfl) ?_;refine qaw ?_;refine qbh ?_;refine qad ?_;exact zp rfl rfl (zx rfl rfl zd6 (by rw[hin.2.2,zpH hb ht48])) (zad (za rfl (by rw[hin.2.2,zpH hb ht48])))
   refine qaU ?_;refine zj (d:=6) (y:=(0:Int)) rfl (ua ht48) ?_;exact Nx ((k+1,zjh t b)) (⟨by omega,znj hin.2.1 (by rw[List.length_drop] at ht38;omega) hbm (ua ht48),hin.2.2.trans (check_step hb (ua ht48))⟩) (by show(l.drop 1).length-(k+1)<(l.drop 1).length-k;omega)
  refine CE ?_;refine qb5 ?_;refine qbz ?_;refine Cg ?_;refine CSQR ?_;refine xz ?_;refine qbh ?_;refine qad ?_;exact zp rfl rfl (zx rfl rfl zd6 (by rw[hin.2.2,zsS ya])) (zad (za rfl (by rw[hin.2.2,zsS ya])))
 refine qb5 ?_;refine xB ?_;refine A0 zcw ?_;refine CN ?_;refine Cf (p:=l.length=0) (fun ht11=>?_) (fun ht11=>?_)
 ·
  refine CQR ?_;refine A0 (zu rfl zl3 zug .nil rfl) ?_;refine qbh ?_;refine qad ?_;exact zp rfl rfl (zx rfl rfl zd6 (by rw[zn9 ht11])) (zad (za rfl (by rw[zn9 ht11])))
 obtain⟨g,hg⟩:∃g,l[0]?=some g:=yo;refine CSQR ?_;refine qaw ?_;refine A0 (zR (i:=0) rfl rfl rfl ya zfQ yj) ?_;refine A0 (oFr zaU zal) ?_;refine A0 (oFr zdr zaX) ?_;refine A0 (ze rfl rfl zbS) ?_;refine A0 (oCl (zjn g.h.bits) rfl fn_18 ybz) ?_;refine qa1 ?_;refine qaA ?_;refine qbc ?_;refine G0 mV ?_;refine G0 oN ?_;refine G0 mV ?_;refine zaH (d:=24) (p:=¬za6 g.h.bits=true) rfl (by cases za6 g.h.bits<;>rfl) (fun g24=>?_) (fun g24=>?_)
 ·
  refine qab ?_;refine G2 ?_;refine qaM ?_;refine Ct ?_;refine CQR ?_;refine A0 (zu rfl zl3 zug .nil rfl) ?_;refine qbh ?_;refine qad ?_;exact zp rfl rfl (zx rfl rfl zd6 (by rw[ze5 hg fun h=>g24 h.1])) (zad (za rfl (by rw[ze5 hg fun h=>g24 h.1])))
 refine G1 (oFp zc5) ?_;refine G1 (oLb zc6 zdO) ?_;refine G1 mV ?_;refine G1 (zR (i:=0) rfl rfl rfl ya zfQ yj) ?_;refine G1 (ze rfl rfl zdO) ?_;refine G1 (oCl (sameB_ok _ _) rfl fn_19 ⟨yl,yb,trivial⟩) ?_;refine G1 oN ?_;refine qaM ?_;refine zo (p:=¬(zar g.h.bits).b=g) rfl yB (fun ht32=>?_) (fun ht32=>?_)
 ·
  refine CQR ?_;refine A0 (zu rfl zl3 zug .nil rfl) ?_;refine qbh ?_;refine qad ?_;exact zp rfl rfl (zx rfl rfl zd6 (by rw[ze5 hg fun h=>ht32 h.2])) (zad (za rfl (by rw[ze5 hg fun h=>ht32 h.2])))
 refine CSQR ?_;refine qaA ?_;exact zra hreach (g) rfl (⟨hg,ua g24,ua ht32⟩) rfl (by (repeat refine Fr.le_set ?_ yaY);exact Fr.le_none _) (by (repeat refine Hp.le_set ?_ rfl);exact Hp.le_none _) (by (repeat refine Fr.below_setB ?_ rfl);exact Fr.below_none _) (by (repeat refine Hp.below_set ?_ yn);exact Hp.below_none _)
theorem newC_ok (bits:UInt32):Tells P 46 [.val u32T bits] (.tup2 (.val (sl zH) (newOf bits)) (.val zn (za6 bits))):=by
 refine zc Tryz.func46 rfl rfl rfl (fun ext w hext=>?_);refine qap ?_;refine qag ?_;refine A0 (oCl (zjn bits) rfl fn_18 yd) ?_;refine qa1 ?_;refine qam ?_;refine qbj ?_;refine zo (p:=¬za6 bits=true) rfl (by cases za6 bits<;>rfl) (fun ht12=>?_) (fun ht12=>?_)
 ·
  refine qbe ?_;exact zU rfl rfl (by unfold newOf;rw[if_neg ht12];exact zhb rfl) (za rfl (by simpa using ht12))
 refine CSQR ?_;refine A0 (oFp zc5) ?_;refine A0 (oLb zc6 zdO) ?_;refine A0 (zL (T:=zH) (xs:=[_]) rfl zfQ zr2 yx rfl rfl) ?_;refine qbu ?_;exact zU rfl rfl (za rfl (by unfold newOf;rw[if_pos (ua ht12)])) (za rfl (ua ht12).symm)
theorem growC_ok (l:List Block) (t:List Tx) (nonce:UInt64) (hl:zhR l) (ht:zrS t):Tells P 47 [.val (bsl zH) l,.val (sl txT) t,.val u64T nonce] (.tup2 (.fresh 36 zH (zkd l t nonce)) (.val i64T (zoO l t nonce))):=by
 have hll:=hl.1;refine zc Tryz.func47 rfl rfl rfl (fun ext w hext=>?_);refine zf (d:=0) rfl zl (fun hsl0=>?_);refine zf (d:=1) rfl zl (fun hsl1=>?_);refine qap ?_;refine qag ?_;refine zaT (ownC_ok l hl) rfl fn_96 yd rfl rfl rfl ?_;refine A0 aO ?_;refine CNQR ?_;refine qaw ?_;refine A0 (oCl (zkt l hl) rfl fn_6 yd) ?_;refine qa1 ?_;refine qam ?_;refine qbz ?_;refine zo (p:=¬(zM l).2=0) rfl yO (fun ht20=>?_) (fun ht20=>?_)
 ·
  have hE:zoO l t nonce=(zM l).2:=by unfold zoO;rw[if_neg ht20]
  have hG:zkd l t nonce=l:=by unfold zkd;rw[hE,if_neg ht20]
  refine qb3 ?_;refine qaw ?_;refine qcc ?_;exact zU rfl rfl (zh rfl rfl (by rw[hG])) (za rfl hE.symm)
 refine CSQR ?_;refine xz ?_;refine qaq ?_;refine A0 (oCl (mineB_ok (zM l).1 t nonce 200 (zt8 hl) ht) rfl fn_97 ybf) ?_;refine qaQ ?_;refine zq zmJ rfl rfl rfl rfl ?_;refine qbT ?_;refine qam ?_;refine qbz ?_;refine zo (p:=¬zeV (zM l).1 t nonce 200=0) rfl yO (fun ht31=>?_) (fun ht31=>?_)
 ·
  have hE:zoO l t nonce=zeV (zM l).1 t nonce 200:=by unfold zoO;rw[if_pos (ua ht20)]
  have hG:zkd l t nonce=l:=by unfold zkd;rw[hE,if_neg ht31]
  refine qb3 ?_;refine qaw ?_;refine qcc ?_;exact zU rfl rfl (zh rfl rfl (by rw[hG])) (za rfl hE.symm)
 have hE:zoO l t nonce=0:=by unfold zoO;rw[if_pos (ua ht20)];exact ua ht31
 have hG:zkd l t nonce=l++[zsi (zM l).1 t nonce 200]:=by unfold zkd;rw[if_pos hE]
 refine CSQR ?_;refine A0 mO ?_;refine xy ?_;refine A0 (zL (T:=zH) (xs:=[_]) rfl zfQ zr2 yx rfl rfl) ?_;refine zN rfl rfl rfl rfl rfl rfl rfl zr2 yA ?_;refine qcc ?_;exact zU rfl rfl (zh rfl rfl (by rw[hG])) (za rfl hE.symm)
set_option maxRecDepth 20000
def sortI_ren:Go.Shelf.Ren:=⟨fun|189=>136|125=>185|257=>184|128=>223|129=>224|294=>215|295=>216|296=>217|297=>218|298=>219|299=>220|216=>79|300=>221|301=>222|328=>239|329=>240|330=>241|331=>242|332=>243|215=>131|343=>255|n=>n,fun|28=>95|3=>3|46=>157|0=>0|51=>30|53=>27|4=>4|183=>322|182=>321|131=>93|5=>5|9=>9|218=>339|222=>343|228=>353|229=>354|n=>n,fun|n=>n⟩
theorem sortI:Go.Proofs.Lays.n189 P sortI_ren:={
  mixed:=by kernel_rfl,
  f125:=Tryz.func185.trans (congrArg some yq),
  f128:=Tryz.func223.trans (congrArg some yq),
  f129:=Tryz.func224.trans (congrArg some yq),
  f189:=Tryz.func136.trans (congrArg some yq),
  f215:=Tryz.func131.trans (congrArg some yq),
  f216:=Tryz.func79.trans (congrArg some yq),
  f257:=Tryz.func184.trans (congrArg some yq),
  f294:=Tryz.func215.trans (congrArg some yq),
  f295:=Tryz.func216.trans (congrArg some yq),
  f296:=Tryz.func217.trans (congrArg some yq),
  f297:=Tryz.func218.trans (congrArg some yq),
  f298:=Tryz.func219.trans (congrArg some yq),
  f299:=Tryz.func220.trans (congrArg some yq),
  f300:=Tryz.func221.trans (congrArg some yq),
  f301:=Tryz.func222.trans (congrArg some yq),
  f328:=Tryz.func239.trans (congrArg some yq),
  f329:=Tryz.func240.trans (congrArg some yq),
  f330:=Tryz.func241.trans (congrArg some yq),
  f331:=Tryz.func242.trans (congrArg some yq),
  f332:=Tryz.func243.trans (congrArg some yq),
  f343:=Tryz.func255.trans (congrArg some yq),
  t0:=Tryz.underlying0,
  a0:=Tryz.isAgg0,
  z0:=Tryz.sizeOf0,
  v0:=Tryz.zeroValue0,
  t3:=Tryz.underlying3,
  a3:=Tryz.isAgg3,
  z3:=Tryz.sizeOf3,
  v3:=Tryz.zeroValue3,
  t4:=Tryz.underlying4,
  a4:=Tryz.isAgg4,
  z4:=Tryz.sizeOf4,
  v4:=Tryz.zeroValue4,
  t5:=Tryz.underlying5,
  a5:=Tryz.isAgg5,
  z5:=Tryz.sizeOf5,
  v5:=Tryz.zeroValue5,
  t9:=Tryz.underlying9,
  a9:=Tryz.isAgg9,
  z9:=Tryz.sizeOf9,
  v9:=Tryz.zeroValue9,
  t28:=Tryz.underlying95,
  a28:=Tryz.isAgg95,
  z28:=Tryz.sizeOf95,
  v28:=Tryz.zeroValue95,
  t46:=Tryz.underlying157,
  a46:=Tryz.isAgg157,
  z46:=Tryz.sizeOf157,
  v46:=Tryz.zeroValue157,
  t51:=Tryz.underlying30,
  a51:=Tryz.isAgg30,
  z51:=Tryz.sizeOf30,
  v51:=Tryz.zeroValue30,
  t53:=Tryz.underlying27,
  a53:=Tryz.isAgg27,
  z53:=Tryz.sizeOf27,
  v53:=Tryz.zeroValue27,
  t131:=Tryz.underlying93,
  a131:=Tryz.isAgg93,
  z131:=Tryz.sizeOf93,
  v131:=Tryz.zeroValue93,
  t182:=Tryz.underlying321,
  a182:=Tryz.isAgg321,
  z182:=Tryz.sizeOf321,
  v182:=Tryz.zeroValue321,
  t183:=Tryz.underlying322,
  a183:=Tryz.isAgg322,
  z183:=Tryz.sizeOf322,
  v183:=Tryz.zeroValue322,
  t218:=Tryz.underlying339,
  a218:=Tryz.isAgg339,
  z218:=Tryz.sizeOf339,
  v218:=Tryz.zeroValue339,
  t222:=Tryz.underlying343,
  a222:=Tryz.isAgg343,
  z222:=Tryz.sizeOf343,
  v222:=Tryz.zeroValue343,
  t228:=Tryz.underlying353,
  a228:=Tryz.isAgg353,
  z228:=Tryz.sizeOf353,
  v228:=Tryz.zeroValue353,
  t229:=Tryz.underlying354,
  a229:=Tryz.isAgg354,
  z229:=Tryz.sizeOf354,
  v229:=Tryz.zeroValue354 }
theorem zo2 (l:List Int) (hn:l.length<1000000000):zee P 136 (.row 3 i64T l) [.own 0] (.lit (.tuple #[])) (.row 3 i64T (zaM l)):=ztt sortI hn
def mayV (v:List Int):Bool:=decide (0<v.length∧v.length≤200∧v[0]?=some 31) && !(v.any fun n=>decide (n<0∨31<n))
def mayP (v:List Int) (m k:Int):Bool:=mayV v&&decide (1≤m∧1≤k∧k<v.length)
def upR (v:List Int) (n:Int) (a i:Nat):List Int:=((List.range' a (i-a)).filter fun j:Nat=>decide (n≤v.getD j 0)).map fun j:Nat=>(j:Int)
def upOf (v:List Int) (a b n:Int):List Int:=upR v n (max a 0).toNat (min b v.length).toNat
theorem zoW (v:List Int) (n:Int) (a i:Nat):(upR v n a i).length≤i-a:=by
  unfold upR;rw[List.length_map];exact Nat.le_trans (List.length_filter_le _ _) yB
theorem up_length (v:List Int) (a b n:Int):(upOf v a b n).length≤v.length:=Nat.le_trans (zoW ..) ya
theorem zuD (v:List Int) (n:Int) (a:Nat):upR v n a a=[]:=by unfold upR;simp
theorem zuC {v:List Int} {n x:Int} {a i:Nat} (hx:v[i]?=some x) (ha:a≤i):upR v n a (i+1)=upR v n a i++(if n≤x then [(i:Int)] else []):=by
  unfold upR;rw[show i+1-a=(i-a)+1 by omega,List.range'_1_concat,show a+(i-a)=i by omega,List.filter_append,List.map_append];congr 1
  have:v.getD i 0=x:=by simp[hx]
  by_cases c:n≤x<;>simp[c,hx]
theorem upR_yes {v:List Int} {n x:Int} {a i:Nat} (hx:v[i]?=some x) (ha:a≤i) (h:n≤x):upR v n a (i+1)=upR v n a i++[(i:Int)]:=by rw[zuC hx ha,if_pos h]
theorem upR_no {v:List Int} {n x:Int} {a i:Nat} (hx:v[i]?=some x) (ha:a≤i) (h:¬n≤x):upR v n a (i+1)=upR v n a i:=by rw[zuC hx ha,if_neg h,List.append_nil]
theorem zrB {v:List Int} {n:Int} {a i:Nat} (h:i≤a):upR v n a i=[]:=by unfold upR;rw[show i-a=0 by omega];rfl
theorem upOf_end {v:List Int} {a b n:Int} {i:Nat} (h1:(max a 0).toNat≤i) (h2:(i:Int)≤min b v.length∨i=(max a 0).toNat) (h3:¬(i:Int)<min b v.length):upR v n (max a 0).toNat i=upOf v a b n:=by
  unfold upOf;by_cases c:(i:Int)=min b v.length
  · rw[show(min b v.length).toNat=i by omega]
  rw[zrB ya,zrB ya]
theorem mem_upR {v:List Int} {n:Int} {a i:Nat} {x:Int}:x∈upR v n a i↔∃j:Nat,x=j∧a≤j∧j<i∧n≤v.getD j 0:=by
  unfold upR;simp only[List.mem_map,List.mem_filter,List.mem_range'_1,uj]
  constructor
  · rintro ⟨j,⟨h1,h2⟩,rfl⟩;exact⟨j,rfl,h1.1,by omega,h2⟩
  rintro ⟨j,rfl,h1,h2,h3⟩;exact⟨j,⟨⟨h1,by omega⟩,h3⟩,rfl⟩
theorem zpo {v:List Int} {a b n x:Int}:x∈upOf v a b n↔∃j:Nat,x=j∧a≤j∧(j:Int)<b∧j<v.length∧n≤v.getD j 0:=by
  unfold upOf;rw[mem_upR]
  constructor
  · rintro ⟨j,rfl,h1,h2,h3⟩;exact⟨j,rfl,by omega,by omega,by omega,h3⟩
  rintro ⟨j,rfl,h1,h2,h3,h4⟩;exact⟨j,rfl,by omega,by omega,h4⟩
def zaG (v:List Int) (m k:Int):Nat→Int×List Int
  | 0=>(0,[])
  | i+1 =>
    (if m<(upOf v (zaG v m k i).1 ((v.length:Int)-k) (31-(i:Int))).length then (upOf v (zaG v m k i).1 ((v.length:Int)-k) (31-(i:Int))).getD ((upOf v (zaG v m k i).1 ((v.length:Int)-k) (31-(i:Int))).length-m.toNat) 0 else (zaG v m k i).1,
      (upOf v (zaG v m k i).1 ((v.length:Int)-k) (31-(i:Int))).foldl zcU (zaG v m k i).2)
def zai (v:List Int) (m k:Int):List Int×Bool:=if mayP v m k=true then (zaM (zaG v m k 32).2,true) else ([],false)
theorem zgr {v L:List Int} {m k c:Int} {i:Nat} (hL:L=upOf v (zaG v m k i).1 ((v.length:Int)-k) (31-(i:Int))) (hc:L[L.length-m.toNat]?=some c) (h:m<L.length):c=(zaG v m k (i+1)).1:=by
  show c=if _ then _ else _
  rw[←hL,if_pos h];simp[hc]
theorem zhq {v L:List Int} {m k:Int} {i:Nat} (hL:L=upOf v (zaG v m k i).1 ((v.length:Int)-k) (31-(i:Int))) (h:¬m<L.length):(zaG v m k i).1=(zaG v m k (i+1)).1:=by
  show _=if _ then _ else _
  rw[←hL,if_neg h]
theorem zfB:∀(L K:List Int) (x:Int),x∈L.foldl zcU K↔x∈K∨x∈L
  | [],K,x=>by simp
  | y::L,K,x=>by rw[List.foldl_cons,zfB L,mem_setAdd,List.mem_cons];exact⟨fun h=>by rcases h with (h|h)|h<;>simp[h],fun h=>by rcases h with h|h|h<;>simp[h]⟩
theorem zpv:∀(L K:List Int),K.Nodup→(L.foldl zcU K).Nodup
  | [],K,h=>h
  | y::L,K,h=>zpv L _ (zrU h)
theorem zgG {v:List Int} {m k:Int} (h:mayP v m k=true):mayV v=true∧1≤m∧1≤k∧k<v.length:=by
  unfold mayP at h;rw[uk,uj] at h;exact h
theorem zj9 {v:List Int} (h:mayV v=true):0<v.length∧v.length≤200∧v[0]?=some 31∧∀n∈v,0≤n∧n≤31:=by
  unfold mayV at h;rw[uk,uj,Bool.not_eq_true',List.any_eq_false] at h;refine⟨h.1.1,h.1.2.1,h.1.2.2,fun n hn=>?_⟩
  have:=h.2 n hn
  rw[uj] at this;omega
theorem zf2 {v:List Int} {m k:Int} (h:mayP v m k=true):1≤m∧1≤k∧k<v.length∧v.length≤200:=⟨(zgG h).2.1,(zgG h).2.2.1,(zgG h).2.2.2,(zj9 (zgG h).1).2.1⟩
theorem zks {v:List Int} {m k:Int} (h:mayP v m k=true):∀i:Nat,i≤32→(0≤(zaG v m k i).1∧(zaG v m k i).1<v.length)∧(zaG v m k i).2.Nodup∧∀x∈(zaG v m k i).2,0≤x∧x<(v.length:Int)-k
  | 0,_=>by
    have:=zf2 h
    exact⟨⟨Int.le_refl _,by show(0:Int)<_;omega⟩,List.nodup_nil,fun x hx=>by cases hx⟩
  | i+1,hi=>by
    obtain⟨h1,h2,h3⟩:=zks h i ya;have hl:=zf2 h;obtain⟨L,hL⟩:∃L,L=upOf v (zaG v m k i).1 ((v.length:Int)-k) (31-(i:Int)):=⟨_,rfl⟩;have hm:∀x∈L,0≤x∧x<(v.length:Int)-k:=fun x hx=>by
      rw[hL] at hx;obtain⟨j,rfl,_,h5,_⟩:=zpo.1 hx;omega
    refine⟨?_,?_,?_⟩
    · by_cases c:m<L.length
      · obtain⟨z,hz⟩:∃z,L[L.length-m.toNat]?=some z:=yo
        rw[←zgr hL hz c]
        have:=hm z (ud hz)
        omega
      rw[←zhq hL c];exact h1
    · show(List.foldl zcU _ _).Nodup
      exact zpv _ _ h2
    intro x hx;have hx:x∈(upOf v (zaG v m k i).1 ((v.length:Int)-k) (31-(i:Int))).foldl zcU (zaG v m k i).2:=hx;rw[←hL,zfB] at hx;exact hx.elim (h3 x) (hm x)
theorem zlb {α:Type} (p:α→Bool):∀l:List α,l.length=(l.filter p).length+(l.filter fun x=>!p x).length
  | []=>rfl
  | x::l=>by
    have:=zlb p l
    cases h:p x<;>simp[h,this]<;>omega
theorem zmt:∀{n:Nat} {l:List Nat},l.Nodup→(∀i∈l,i<n)→l.length≤n
  | 0,[],_,_=>ug _
  | 0,x::l,_,h=>absurd (h x (List.mem_cons_self ..)) (Nat.not_lt_zero _)
  | n+1,l,hd,h=>by
    have h1:(l.filter fun i=>decide (i≠n)).length≤n:=zmt (hd.sublist List.filter_sublist) (fun i hi=>by
      rw[List.mem_filter] at hi
      have:=h i hi.1
      have:=of_decide_eq_true hi.2
      omega)
    have h2:(l.filter fun i=>!decide (i≠n)).length≤1:=by
      have hs:(l.filter fun i=>!decide (i≠n)).Nodup:=hd.sublist List.filter_sublist
      match hf:l.filter (fun i=>!decide (i≠n)) with
      | []=>simp
      | [_]=>simp
      | a::b::_ =>
        rw[hf] at hs;have ha:a∈l.filter fun i=>!decide (i≠n):=by rw[hf];simp
        have hb:b∈l.filter fun i=>!decide (i≠n):=by rw[hf];simp
        simp only[List.mem_filter,Bool.not_eq_true',decide_eq_false_iff_not,Decidable.not_not] at ha hb;simp[ha.2,hb.2] at hs
    have h3:=zlb (fun i=>decide (i≠n)) l;omega
theorem seen_step {K:List Int} {seen:List Nat} {i:Nat} {v:Int} (hs:seen.Nodup∧∀i∈seen,i<K.length) (hv:K[i]?=some v) (hi:i∉seen) :
    ((seen++[i]).Nodup∧∀j∈seen++[i],j<K.length)∧K.length-(seen++[i]).length<K.length-seen.length∧seen.length<K.length:=by
  have h1:(seen++[i]).Nodup∧∀j∈seen++[i],j<K.length:=⟨List.nodup_append.2 ⟨hs.1,by simp,fun a ha b hb=>by simp at hb;subst hb;exact fun e=>hi (e▸ha)⟩,fun j hj=>by
    rcases List.mem_append.1 hj with h|h
    · exact hs.2 j h
    simp at h;subst h;exact(ul.1 hv).1⟩
  have h2:=zmt h1.1 h1.2;simp only[ue,List.length_cons,List.length_nil] at h2;exact⟨h1,by simp;omega,by omega⟩
theorem seen_all {K:List Int} {seen:List Nat} (hs:seen.Nodup∧∀i∈seen,i<K.length) (h:∀i,i<K.length→i∈seen):(seen.map fun i=>K.getD i 0).Perm K:=by
  have h1:seen.Perm (List.range K.length):=(List.perm_ext_iff_of_nodup hs.1 List.nodup_range).2 fun i=>by rw[List.mem_range];exact⟨hs.2 i,h i⟩
  refine(h1.map _).trans ?_
  have:(List.range K.length).map (fun i=>K.getD i 0)=K:=by
    apply List.ext_getElem?;intro i;rw[List.getElem?_map];by_cases c:i<K.length
    · rw[List.getElem?_range c,ub c];simp[c]
    rw[List.getElem?_eq_none ybt,List.getElem?_eq_none ya];rfl
  rw[this]
theorem zmm {l:List Int} {x:Int}:x∈zaM l↔x∈l:=(List.mergeSort_perm l _).mem_iff
theorem zg8 (l:List Int):(zaM l).Pairwise fun a b=>a≤b:=by
  have:=List.pairwise_mergeSort (le:=fun x y:Int=>decide (x≤y)) (fun a b c h1 h2=>by simp at *;omega) (fun a b=>by simp;omega) l
  exact this.imp fun h=>of_decide_eq_true h
theorem sort_perm {l r:List Int} (h:l.Perm r):zaM l=zaM r :=
  (((List.mergeSort_perm l _).trans h).trans (List.mergeSort_perm r _).symm).eq_of_pairwise (fun a b _ _ h1 h2=>Int.le_antisymm h1 h2) (zg8 l) (zg8 r)
theorem zlY {v K:List Int} {m k a:Int} (h:(0≤a∧a<v.length)∧K.Nodup∧∀x∈K,0≤x∧x<(v.length:Int)-k) (hl:1≤m∧1≤k∧k<v.length∧v.length≤200):K.length≤200:=by
  have h1:(K.map Int.toNat).length≤v.length:=zmt (by
    rw[List.Nodup,List.pairwise_map];exact h.2.1.imp_of_mem fun {a b} ha hb hne=>by
      have:=h.2.2 a ha
      have:=h.2.2 b hb
      omega) (fun i hi=>by
    obtain⟨x,hx,rfl⟩:=List.mem_map.1 hi
    have:=h.2.2 x hx
    omega)
  rw[List.length_map] at h1;omega
theorem zsu (l:List Int) (p:Int→Bool):Tells P 182 [.val (bsl i64T) l,.fn1 P i64T zn p] (.val i64T (idx p l)):=by
 refine zc Tryz.func182 rfl rfl rfl (fun ext w hext=>?_);refine zf (d:=0) rfl zl (fun hsl0=>?_);refine CQR ?_;refine qam ?_;refine qcp ?_;refine qa0 ?_;refine Lp (ι:=Nat) 0 (fun (k:Nat)=>(((((Fr.none).set 0 (.val (bsl i64T) l)).set 1 (.fn1 P i64T zn p)).set 6 (.val (bsl i64T) l)).set 7 (.val i64T (l.length:Int))).set 8 (.val i64T (k:Int))) (fun (k:Nat)=>Hp.none) (fun (k:Nat)=>k≤l.length∧idx p l=shift k (idx p (l.drop k))) (fun (k:Nat)=>l.length-k) (0) (⟨uf _,zgC p l⟩) ?_;intro k hinv;refine qal ?_;refine Cf (p:=k<l.length) (fun ht9=>?_) (fun ht9=>?_)
 ·
  obtain⟨x,hx⟩:∃x,l[k]?=some x:=⟨_,ub ht9⟩;refine qaL ?_;refine qa4 ?_;refine A0 mF ?_;refine qaq ?_;refine A0 (zbM rfl rfl rfl zcv yj) ?_;refine xh ?_;refine qbs ?_;refine zo (p:=p x=true) rfl yB (fun ht16=>?_) (fun ht16=>?_)
  ·
   refine qcd ?_;exact zb rfl rfl (za rfl (hinv.2.trans (znC hx ht16)).symm)
  refine qaU ?_;exact Nx (k+1) (⟨by omega,hinv.2.trans (zsv hx ht16)⟩) ya
 refine CE ?_;refine qau ?_;exact zb rfl rfl (za rfl (hinv.2.trans (znD ya)).symm)
theorem zn1 (l:List Int) (p:Int→Bool):Tells P 133 [.val (bsl i64T) l,.fn1 P i64T zn p] (.val zn (l.any p)):=by
 refine zc Tryz.func133 rfl rfl rfl (fun ext w hext=>?_);refine zf (d:=0) rfl zl (fun hsl0=>?_);refine qbV ?_;refine A0 mF ?_;refine A0 (oCl (zsu _ _) rfl fn_182 ⟨yl,(zam rfl rfl),trivial⟩) ?_;refine A0 zfR ?_;refine qad ?_;exact zb rfl rfl (za rfl (zk4 p l))
theorem mayN_ok (n:Int):Tells P 132 [.val i64T n] (.val zn (decide (n<0∨31<n))):=by
 refine zc Tryz.func132 rfl rfl rfl (fun ext w hext=>?_);refine zf (d:=0) rfl zt (fun hin0=>?_);refine qbV ?_;refine A0 zbu ?_;refine qaw ?_;refine Sp (d:=5) (p:=n<0) (fun g5=>?_) (fun g5=>?_)
 ·
  refine A2 ?_;refine A2 ?_;refine qaD ?_;exact zb rfl rfl (za rfl ((ui (.inl g5)).symm))
 refine qbx ?_;refine qaD ?_;exact zb rfl rfl (za rfl yaJ)
theorem mayV_ok (v:List Int):Tells P 81 [.val (bsl i64T) v] (.val zn (mayV v)):=by
 refine zc Tryz.func81 rfl rfl rfl (fun ext w hext=>?_);refine zf (d:=0) rfl zl (fun hsl0=>?_);refine CQR ?_;refine qa4 ?_;refine A0 aC ?_;refine CNQR ?_;refine qaw ?_;refine qcp ?_;refine A0 zcq ?_;refine qaw ?_;refine Sp (d:=7) (p:=0<v.length) (fun g7=>?_) (fun g7=>?_)
 ·
  refine A1 mV ?_;refine A1 (zO rfl rfl zdz) ?_;refine A1 zh2 ?_;refine qaj ?_;refine Sp (d:=12) (p:=v.length≤200) (fun g12=>?_) (fun g12=>?_)
  ·
   obtain⟨x,hx⟩:∃x,v[0]?=some x:=⟨_,ub g7⟩;refine A1 mV ?_;refine A1 (zR (i:=0) rfl rfl rfl ya zcv yj) ?_;refine A1 (ze rfl rfl ty_3) ?_;refine A1 zcw ?_;refine qaj ?_;refine Sp (d:=18) (p:=x=31) (fun g18=>?_) (fun g18=>?_)
   ·
    refine A1 mV ?_;refine A1 mC ?_;refine A1 (oCl (zn1 v (fun n=>decide (n<0∨31<n))) rfl fn_133 ⟨yl,(by first|exact zdu (Cs:=[]) rfl fn_132 yC trivial rfl (fun x=>mayN_ok x)|exact zdt (Cs:=[]) rfl fn_132 yC trivial rfl (fun x y=>mayN_ok x)|exact zdv rfl),trivial⟩) ?_;refine A1 oN ?_;refine qaD ?_;exact zb rfl rfl (za rfl ((by unfold mayV;rw[ui ⟨g7,g12,by rw[hx,g18]⟩];rfl)))
   refine qbA ?_;refine qaD ?_;exact zb rfl rfl (za rfl ((by unfold mayV;rw[uh (fun h=>g18 (by have:=h.2.2;rw[hx] at this;exact Option.some.inj this))];rfl)))
  refine qac ?_;refine qar ?_;refine qaD ?_;exact zb rfl rfl (za rfl ((by unfold mayV;rw[uh (fun h=>g12 h.2.1)];rfl)))
 refine qac ?_;refine qaH ?_;refine qar ?_;refine qaD ?_;exact zb rfl rfl (za rfl ((by unfold mayV;rw[uh (fun h=>g7 h.1)];rfl)))
theorem mayP_ok (v:List Int) (m k:Int):Tells P 120 [.val (bsl i64T) v,.val i64T m,.val i64T k] (.val zn (mayP v m k)):=by
 refine zc Tryz.func120 rfl rfl rfl (fun ext w hext=>?_);refine zf (d:=0) rfl zl (fun hsl0=>?_);refine zf (d:=1) rfl zt (fun hin1=>?_);refine zf (d:=2) rfl zt (fun hin2=>?_);refine qbV ?_;refine A0 (oCl (mayV_ok v) rfl fn_81 yd) ?_;refine qaw ?_;refine Sp (d:=9) (p:=mayV v=true) (fun g9=>?_) (fun g9=>?_)
 ·
  refine A1 mV ?_;refine A1 zfR ?_;refine qaj ?_;refine Sp (d:=13) (p:=1≤m) (fun g13=>?_) (fun g13=>?_)
  ·
   refine A1 mV ?_;refine A1 zfR ?_;refine qaj ?_;refine Sp (d:=17) (p:=1≤k) (fun g17=>?_) (fun g17=>?_)
   ·
    refine A1 mV ?_;refine A1 (zO rfl rfl zdz) ?_;refine qbx ?_;refine qaD ?_;exact zb rfl rfl (za rfl ((by unfold mayP;rw[g9,Bool.true_and,uo];simp only[IntL.toI,id_eq];omega)))
   refine qbA ?_;refine qaD ?_;exact zb rfl rfl (za rfl ((by unfold mayP;rw[uh (fun h=>g17 h.2.1),Bool.and_false])))
  refine A2 ?_;refine qar ?_;refine qaD ?_;exact zb rfl rfl (za rfl ((by unfold mayP;rw[uh (fun h=>g13 h.1),Bool.and_false])))
 refine qa5 ?_;refine qar ?_;refine qaD ?_;exact zb rfl rfl (za rfl ((by unfold mayP;rw[Bool.eq_false_iff.2 g9];rfl)))
theorem up_ok (v:List Int) (a b n:Int) (hl:v.length≤1000000000000):Tells P 174 [.val (bsl i64T) v,.val i64T a,.val i64T b,.val i64T n] (.fresh 3 i64T (upOf v a b n)):=by
 refine zc Tryz.func174 rfl rfl rfl (fun ext w hext=>?_);refine zf (d:=0) rfl zl (fun hsl0=>?_);refine zf (d:=1) rfl zt (fun hin1=>?_);refine zf (d:=2) rfl zt (fun hin2=>?_);refine zf (d:=3) rfl zt (fun hin3=>?_);refine qbv ?_;refine A0 aL ?_;refine qaN ?_;refine A0 (g_max rfl rfl rfl) ?_;refine A0 aV ?_;refine CNB ?_;refine zj (d:=10) (y:=(((max a 0).toNat:Nat):Int)) rfl (by first|omega|(simp only[IntL.toI,id_eq];omega)) ?_;refine zcJ (T:=i64T) (d:=9) 3 rfl ?_;refine zz (n:=0) (y:=upR v n (max a 0).toNat (max a 0).toNat) rfl (zuD v n _).symm ?_;refine Lp (ι:=Nat) 1 (fun i=>((((Fr.none.set 0 (.val (bsl i64T) v)).set 2 (.val i64T b)).set 3 (.val i64T n)).set 9 (.own 0)).set 10 (.val i64T (i:Int))) (fun i=>Hp.none.set 0 (.row 3 i64T (upR v n (max a 0).toNat i))) (fun i=>(max a 0).toNat≤i∧((i:Int)≤min b v.length∨i=(max a 0).toNat)) (fun i=>v.length-i) ((max a 0).toNat) (⟨ug _,.inr rfl⟩) ?_;intro i hinv;refine CQQR ?_;refine qaq ?_;refine qaw ?_;refine qcp ?_;refine A0 (g_min rfl rfl rfl) ?_;refine qaT ?_;refine Cf (p:=(i:Int)<min b v.length) (fun ht18=>?_) (fun ht18=>?_)
 ·
  obtain⟨x,hx⟩:∃x,v[i]?=some x:=yo;refine CSQBQR ?_;refine qaq ?_;refine A0 (zR (i:=i) rfl rfl rfl ya zcv yj) ?_;refine xh ?_;refine qaw ?_;refine qcg ?_;refine Cf (p:=n≤x) (fun ht26=>?_) (fun ht26=>?_)
  ·
   refine CR ?_;refine A0 mO ?_;refine qaw ?_;refine A0 (zL (T:=i64T) (xs:=[_]) rfl zcv ziX yx rfl rfl) ?_;refine zN rfl rfl rfl rfl rfl rfl rfl ziX (by have:=zoW v n (max a 0).toNat i;simp;omega) ?_;refine A0 aO ?_;refine CNIR ?_;refine qaW ?_;refine qad ?_;refine xk ?_;refine zz (n:=0) (y:=upR v n (max a 0).toNat (i+1)) rfl (upR_yes hx hinv.1 ht26).symm ?_;exact Nx (i+1) (⟨by omega,by omega⟩) ya
  refine CSIR ?_;refine qaW ?_;refine qad ?_;refine zz (n:=0) (y:=upR v n (max a 0).toNat (i+1)) rfl (upR_no hx hinv.1 ht26).symm ?_;exact Nx (i+1) (⟨by omega,by omega⟩) ya
 refine qa3 ?_;exact zb rfl rfl (zh rfl rfl (upOf_end hinv.1 hinv.2 ht18))
theorem zsb (v:List Int) (m k:Int):Tells P 70 [.val (bsl i64T) v,.val i64T m,.val i64T k] (.tup2 (.fresh 3 i64T (zai v m k).1) (.val zn (zai v m k).2)):=by
 refine zc Tryz.func70 rfl rfl rfl (fun ext w hext=>?_);refine zf (d:=0) rfl zl (fun hsl0=>?_);refine zf (d:=1) rfl zt (fun hin1=>?_);refine zf (d:=2) rfl zt (fun hin2=>?_);refine qap ?_;refine qam ?_;refine qaq ?_;refine A0 (oCl (mayP_ok v m k) rfl fn_120 yJ) ?_;refine qbj ?_;refine zo (p:=¬mayP v m k=true) rfl yB (fun ht13=>?_) (fun ht13=>?_)
 ·
  refine qbe ?_;exact zU rfl rfl (by unfold zai;rw[if_neg ht13];exact zm rfl) (za rfl (by unfold zai;rw[if_neg ht13]))
 have hmp:mayP v m k=true:=Classical.byContradiction ht13;have hcl:=zks hmp;have hvl:=zf2 hmp;refine CSQR ?_;refine aw_mkmap rfl rfl rfl rfl (fun b0=>?_);refine ziO zp_216 rfl rfl rfl rfl rfl rfl ?_;refine zaB rfl rfl rfl rfl rfl rfl rfl rfl rfl rfl zmV ?_;refine CNQR ?_;refine qaq ?_;refine qaw ?_;refine xg ?_;refine zaa rfl rfl rfl rfl Tryz.func121 fn_121 rfl rfl (fun ia2 iok2=>?_);refine qbV ?_;refine CNB ?_;refine Lp (ι:=Nat) 2 (fun (i:Nat)=>((((((Fr.none).set 0 (.val (bsl i64T) v)).set 1 (.val i64T m)).set 2 (.val i64T k)).set 3 (.clo 122 [1])).set 8 (.val i64T (zaG v m k i).1)).set 12 (.val i64T (i:Int))) (fun (i:Nat)=>((Hp.none).set 0 (.objAt b0 (setO (zaG v m k i).2))).set 1 (.parts 216 [.lit (.map (some b0))])) (fun (i:Nat)=>i≤32) (fun (i:Nat)=>32-i) (0) (uf _) ?_;intro i hi;refine qal ?_;refine Cf (p:=i<32) (fun ht13=>?_) (fun ht13=>?_)
 ·
  have hci:=hcl i ya;have hup:=zB (up_ok v (zaG v m k i).1 ((v.length:Int)-k) (31-(i:Int)) ya);obtain⟨L,hL⟩:∃L,L=upOf v (zaG v m k i).1 ((v.length:Int)-k) (31-(i:Int)):=⟨_,rfl⟩;rw[←hL] at hup;have hLl:L.length≤200:=by rw[hL];have:=up_length v (zaG v m k i).1 ((v.length:Int)-k) (31-(i:Int));omega
  refine qaL ?_;refine qag ?_;refine A0 zbh ?_;refine qag ?_;refine qaq ?_;refine qcp ?_;refine qbI ?_;refine qaw ?_;refine A0 (oCl (hup) rfl fn_174 ybf) ?_;refine qa4 ?_;refine A0 mC ?_;refine qaq ?_;refine qaw ?_;refine zlp rfl rfl rfl rfl rfl Tryz.func122 fn_122 rfl rfl yV (fun ia3 iok3=>?_);refine qa6 ?_;refine qcp ?_;refine qa0 ?_;refine Lp (ι:=Nat) 2 (fun (j:Nat)=>((((Fr.none).set 3 (.ptr 1 0)).set 9 (.val (sl i64T) L)).set 10 (.val i64T (L.length:Int))).set 11 (.val i64T (j:Int))) (fun (j:Nat)=>((Hp.none).set 0 (.objAt b0 (setO ((L.take j).foldl zcU (zaG v m k i).2)))).set 1 (.parts 216 [.lit (.map (some b0))])) (fun (j:Nat)=>j≤L.length) (fun (j:Nat)=>L.length-j) (0) (uf _) ?_;intro j hj;refine qal ?_;refine Cf (p:=j<L.length) (fun ht12=>?_) (fun ht12=>?_)
  ·
   obtain⟨x,hx⟩:∃x,L[j]?=some x:=⟨_,ub ht12⟩;refine CSQBQR ?_;refine A0 (zbM rfl rfl rfl zcv yj) ?_;refine xh ?_;refine A0 aX ?_;refine CNR ?_;refine A0 yaA ?_;refine A0 mX ?_;refine A0 (zvB rfl zu_148 su_148) ?_;refine aw_mapput (n:=0) rfl rfl rfl rfl rfl rfl rfl mp_216 ui_3 ?_;refine qaV ?_;refine zkA 0 (setO ((L.take (j+1)).foldl zcU (zaG v m k i).2)) rfl (by rw[un,hx,List.foldl_append];rfl) ?_;exact Nx (j+1) ya ya
  refine CE ?_;refine zir rfl ?_;refine CNQ ?_;refine zkA 0 (setO (L.foldl zcU (zaG v m k i).2)) rfl yN ?_;refine CR ?_;refine qaw ?_;refine qcp ?_;refine qaw ?_;refine qcs ?_;refine Cf (p:=m<L.length) (fun ht33=>?_) (fun ht33=>?_)
  ·
   obtain⟨c,hc⟩:∃c,L[L.length-m.toNat]?=some c:=yo;refine CR ?_;refine qaq ?_;refine qcp ?_;refine qbI ?_;refine A0 (zR (i:=L.length-m.toNat) rfl rfl rfl ya zcv yj) ?_;refine xh ?_;refine A0 aX ?_;refine qaV ?_;refine zj (d:=8) (y:=(zaG v m k (i+1)).1) rfl (zgr hL hc ht33) ?_;refine zkA 0 (setO (zaG v m k (i+1)).2) rfl (by rw[hL];rfl) ?_;exact Nx (i+1) ya ya
  refine qaU ?_;refine zj (d:=8) (y:=(zaG v m k (i+1)).1) rfl (zhq hL ht33) ?_;refine zkA 0 (setO (zaG v m k (i+1)).2) rfl (by rw[hL];rfl) ?_;exact Nx (i+1) ya ya
 refine CE ?_;refine zir rfl ?_;refine CNQ ?_;have hi32:i=32:=ya;subst hi32;obtain⟨K,hK⟩:∃K,K=(zaG v m k 32).2:=⟨_,rfl⟩;have hck:=hcl 32 ya;rw[←hK] at hck;refine zkA 0 (setO K) rfl (by rw[hK]) ?_;have hkeys:∀x∈K,-9223372036854775808≤x∧x≤9223372036854775807:=fun x hx=>by have:=hck.2.2 x hx;omega
 have hKl:=zlY hck hvl;refine CR ?_;refine A0 yaA ?_;refine zaa rfl rfl rfl rfl Tryz.func124 fn_124 rfl rfl (fun ia4 iok4=>?_);refine CQR ?_;refine zv6 rfl rfl rfl rfl rfl rfl rfl ?_;refine qcr ?_;refine zaa rfl rfl rfl rfl Tryz.func123 fn_123 rfl rfl (fun ia6 iok6=>?_);refine qbv ?_;refine A0 mC ?_;refine zaa rfl rfl rfl rfl Tryz.func175 fn_175 rfl rfl (fun ia7 iok7=>?_);refine qbv ?_;refine A0 mC ?_;refine zaa rfl rfl rfl rfl Tryz.func212 fn_212 rfl rfl (fun ia8 iok8=>?_);refine CQR ?_;refine zv6 rfl rfl rfl rfl rfl rfl rfl ?_;refine A0 aL ?_;refine CN ?_;refine aw_nilpart 3 3 i64T rfl ?_;refine CQQR ?_;refine A0 mC ?_;refine CNB ?_;refine ziL rfl rfl rfl Tryz.func176 fn_176 rfl rfl yV (fun fid11 ca11 lN11 DN11 cok11 rc11 hrc11=>?_);refine CQR ?_;refine A0 yaA ?_;refine zuh (n:=0) rfl rfl rfl rfl rfl rfl mp_216 (fun it0=>?_);refine CNB ?_;refine zaS 4 8 9 rfl rfl rfl rfl rfl rfl ?_;refine Lp (ι:=List Nat) 9 (fun (seen:List Nat)=>((Fr.none).set 0 (.lit (.func (.yield lN11) #[] #[]))).set 5 (.ptr 7 0)) (fun (seen:List Nat)=>((((((Hp.none).set 0 (.objAt b0 (setO K))).set 3 (.parts 95 [.own 8])).set 8 (.row 3 i64T (seen.map fun i=>K.getD i 0))).set 5 (.objAt DN11 (.deferred (some [])))).set 6 (.objAt lN11 (rc11 .ready none))).set 7 (.objAt it0 (itO b0 K.length seen))) (fun (seen:List Nat)=>seen.Nodup∧∀i∈seen,i<K.length) (fun (seen:List Nat)=>K.length-seen.length) ([]) (⟨List.nodup_nil,fun i h=>by cases h⟩) ?_;intro seen hs;refine CQR ?_;refine aw_nextmap (n1:=0) (n2:=7) rfl rfl rfl rfl rfl (hkeys) rfl rfl (fun hall=>?_) (fun i v hiv his=>?_)
 ·
  refine A0 (g_x1f rfl rfl) ?_;refine CNQ ?_;refine Cg ?_;refine CE ?_;refine zge (nL:=6) rfl hrc11 rfl yn ?_;refine CI ?_;refine CQR ?_;refine A0 yby ?_;refine qbm ?_;refine zaD (zb1 (nD:=5) rfl rfl rfl (ar_back1 rfl ?_));refine qbm ?_;refine zet rfl ?_;refine A0 aO ?_;refine CNQR ?_;refine A0 mO ?_;refine zgf (zo2 (seen.map fun i=>K.getD i 0) (by rw[List.length_map];have:=zmt hs.1 hs.2;omega)) rfl fn_136 rfl trivial trivial rfl ⟨ye,trivial⟩ rfl rfl rfl ?_;refine CNQR ?_;refine A0 mO ?_;refine qbm ?_;refine zet rfl ?_;refine qcc ?_;exact zU rfl rfl (zh rfl rfl (by unfold zai;rw[if_pos hmp,←hK];exact sort_perm (seen_all hs hall))) (za rfl (by unfold zai;rw[if_pos hmp]))
 obtain⟨hs1,hs2,hs3⟩:=seen_step hs hiv his;refine A0 e30 ?_;refine CNQ ?_;refine Ct ?_;refine CS ?_;refine CB ?_;refine CQR ?_;refine aw_entry (n1:=0) (n2:=7) (v:=v) (i:=i) rfl rfl rfl rfl rfl yaq yaq yj (hkeys) ?_;refine A0 y4 ?_;refine qaR ?_;refine A0 mL ?_;refine A0 mX ?_;refine ziJ (nL:=6) rfl rfl rfl rfl rfl hrc11 rfl rfl rfl (fun ya12 yok12=>?_);refine CR ?_;refine qaB ?_;refine ziN (nL:=6) hrc11 rfl ?_;refine CB ?_;refine CR ?_;refine A0 yby ?_;refine A0 mX ?_;refine qaJ ?_;refine zaB rfl rfl rfl rfl rfl rfl rfl rfl rfl rfl zeX ?_;refine CN ?_;refine CI ?_;refine zdG (nL:=6) hrc11 rfl ?_;refine qbj ?_;refine Cg ?_;refine CS ?_;refine CI ?_;refine zaS 9 8 10 rfl rfl rfl rfl rfl rfl ?_;refine zz (n:=8) (y:=(seen++[i]).map fun i=>K.getD i 0) rfl (by rw[List.map_append];simp[hiv]) ?_;exact Nx (seen++[i]) (hs1) (hs2)
def proverN:GoT (List Block×Int×Int×List Int×Unit):=za7 (bsl zH) (za7 i64T (za7 i64T (za7 (sl i64T) nilT)))
def proofN:GoT (Int×Int×Unit):=za7 i64T (za7 i64T nilT)
theorem zrm:zax P 97 proverN ([],0,0,[],()):=zS (zF zc0 (zF zbz (zF zbz (zF zc0 zgZ)))) yq
theorem ziv:zax P 46 proofN (0,0,()):=zS (zF zbz (zF zbz zgZ)) yq
theorem zlA {l:List Block} {m k:Int} {v:List Int}:zgu proverN (l,m,k,v,()) [.val (bsl zH) l,.val i64T m,.val i64T k,.val (sl i64T) v,.lit (.slice none 0 0)]:=zbT zce (zbT zce (zbT zce (zbT zce zm1)))
theorem zg6 {m k:Int}:zgu proofN (m,k,()) [.val i64T m,.val i64T k,.lit (.slice none 0 0)]:=zbT zce (zbT zce zm1)
theorem ziC {m k:Int} {l:List Part}:zkH za1 (⟨m,k,l⟩:Proof) [.val i64T m,.val i64T k] zcC l:=zvn (zfu (zfu znB))
def zy (l:List Block) (m k:Int):List Int:=(zai (zk l) m k).1++(List.range k.toNat).map fun j:Nat=>(l.length:Int)-k+(j:Int)
def zaQ (l:List Block) (i:Int):Part:=⟨(l.getD i.toNat default).h,(l.getD i.toNat default).l⟩
def prE (l:List Block) (m k:Int):Int:=if ¬(zM l).2=0 then (zM l).2 else if m<1∨20<m∨k<1∨20<k∨l.length≤k then 1 else 0
def prOf (l:List Block) (m k:Int):Proof:=if prE l m k=0 then ⟨m,k,(zy l m k).map (zaQ l)⟩ else zdN
theorem zkW {v:List Int} {m k x:Int} (h:x∈(zai v m k).1):0≤x∧x<(v.length:Int)-k:=by
  unfold zai at h
  split at h
  · rename_i c
    exact(zks c 32 (ug _)).2.2 x (zmm.1 h)
  cases h
theorem zhd (v:List Int) (m k:Int):(zai v m k).1.length≤200:=by
  unfold zai
  split
  · rename_i c
    have:=zlY (zks c 32 (ug _)) (zf2 c)
    simpa [zaM] using this
  simp
theorem zca (l:List Block):(zk l).length=l.length:=by unfold zk;simp
theorem zcl {l:List Block} {m k x:Int} (hk:1≤k∧k<l.length) (h:x∈zy l m k):0≤x∧x<l.length:=by
  unfold zy at h;rcases List.mem_append.1 h with h|h
  · have:=zkW h
    rw[zca] at this;omega
  obtain⟨j,hj,rfl⟩:=List.mem_map.1 h;rw[List.mem_range] at hj;omega
theorem zjX {l:List Block} {m k:Int} (hk:k≤20):(zy l m k).length≤220:=by
  unfold zy
  have:=zhd (zk l) m k
  simp;omega
theorem zpj (l:List Block) (m k:Int) (hl:zhR l):Tells P 7 [.val (bsl zH) l,.val i64T m,.val i64T k] (.tup2 (.val za1 (prOf l m k)) (.val i64T (prE l m k))):=by
 have hll:=hl.1;refine zc Tryz.func7 rfl rfl rfl (fun ext w hext=>?_);refine zf (d:=0) rfl zl (fun hsl0=>?_);refine zf (d:=1) rfl zt (fun hin1=>?_);refine zf (d:=2) rfl zt (fun hin2=>?_);refine CQR ?_;refine qb8 ?_;refine qag ?_;refine qaq ?_;refine zaa rfl rfl rfl rfl Tryz.func21 fn_21 rfl rfl (fun ia1 iok1=>?_);refine qap ?_;refine qam ?_;refine A0 (oCl (zkt l hl) rfl fn_6 yd) ?_;refine qa1 ?_;refine qag ?_;refine qbz ?_;refine zo (p:=¬(zM l).2=0) rfl yO (fun ht18=>?_) (fun ht18=>?_)
 ·
  refine qa6 ?_;refine A0 aL ?_;refine qad ?_;refine zcu rfl ?_;refine A0 yt ?_;refine qaC ?_;refine ziq rfl (by simp;exact ht18) ?_;refine CQR ?_;refine xC ?_;refine qby ?_;exact zp rfl rfl (zx rfl rfl zbw (by unfold prOf;rw[if_neg (by unfold prE;rw[if_pos ht18];exact ht18)])) (zad (za rfl (by unfold prE;rw[if_pos ht18])))
 refine qb2 ?_;refine A0 zbu ?_;refine qaw ?_;refine Sp (d:=22) (p:=m<1) (fun g22=>?_) (fun g22=>?_)
 ·
  refine qa5 ?_;refine A2 ?_;refine qaj ?_;refine A2 ?_;refine qar ?_;refine qas ?_;refine Ct ?_;refine qbe ?_;refine zcu rfl ?_;refine A0 yt ?_;refine qaC ?_;refine Ct ?_;refine CQR ?_;refine xC ?_;refine qby ?_;exact zp rfl rfl (zx rfl rfl zbw yM) (zad (za rfl yad))
 refine qbx ?_;refine qaj ?_;refine Sp (d:=26) (p:=20<m) (fun g26=>?_) (fun g26=>?_)
 ·
  refine qa5 ?_;refine qar ?_;refine qas ?_;refine Ct ?_;refine qbe ?_;refine zcu rfl ?_;refine A0 yt ?_;refine qaC ?_;refine Ct ?_;refine CQR ?_;refine xC ?_;refine qby ?_;exact zp rfl rfl (zx rfl rfl zbw yM) (zad (za rfl yad))
 refine A1 mV ?_;refine A1 zbu ?_;refine qaj ?_;refine Sp (d:=30) (p:=k<1) (fun g30=>?_) (fun g30=>?_)
 ·
  refine A2 ?_;refine qar ?_;refine qas ?_;refine Ct ?_;refine qbe ?_;refine zcu rfl ?_;refine A0 yt ?_;refine qaC ?_;refine Ct ?_;refine CQR ?_;refine xC ?_;refine qby ?_;exact zp rfl rfl (zx rfl rfl zbw yM) (zad (za rfl yad))
 refine qbx ?_;refine qaj ?_;refine Sp (d:=34) (p:=20<k) (fun g34=>?_) (fun g34=>?_)
 ·
  refine qbA ?_;refine qas ?_;refine Ct ?_;refine qbe ?_;refine zcu rfl ?_;refine A0 yt ?_;refine qaC ?_;refine Ct ?_;refine CQR ?_;refine xC ?_;refine qby ?_;exact zp rfl rfl (zx rfl rfl zbw yM) (zad (za rfl yad))
 refine A1 mV ?_;refine A1 (zO rfl rfl zeB) ?_;refine A1 mV ?_;refine A1 zh2 ?_;refine qas ?_;refine Cf (p:=l.length≤k) (fun ht39=>?_) (fun ht39=>?_)
 ·
  refine qbe ?_;refine zcu rfl ?_;refine A0 yt ?_;refine qaC ?_;refine Ct ?_;refine CQR ?_;refine xC ?_;refine qby ?_;exact zp rfl rfl (zx rfl rfl zbw yM) (zad (za rfl yad))
 have hpl:=zhd (zk l) m k;refine CSQR ?_;refine qaq ?_;refine qaq ?_;refine A0 (oCl (zB (zsm l ya)) rfl fn_69 yd) ?_;refine A0 (zu rfl zrm bd_97 (.cons zt0 (Lens.fst _ _) ty_22 rfl (.cons znU ((Lens.snd _ _).comp (Lens.fst _ _)) ty_3 rfl (.cons znT ((Lens.snd _ _).comp ((Lens.snd _ _).comp (Lens.fst _ _))) ty_3 rfl (.cons zld ((Lens.snd _ _).comp ((Lens.snd _ _).comp ((Lens.snd _ _).comp (Lens.fst _ _)))) zeX rfl .nil)))) rfl) ?_;refine xc ?_;refine A0 aP ?_;refine CN ?_;refine zeH 2 (x:=(l,m,k,zk l,())) zlA rfl ?_;refine zds 2 3 i64T [.val (bsl zH) l,.val i64T m,.val i64T k,.val (sl i64T) (zk l)] rfl yaX ?_;refine CQR ?_;refine A0 mP ?_;refine qbE ?_;refine A0 (oFp zld) ?_;refine xd ?_;refine qaq ?_;refine zkB (zsb (zk l) m k) rfl fn_70 yJ zkk rfl rfl rfl ?_;refine A0 yt ?_;refine qaa ?_;refine qb0 ?_;refine CNQQR ?_;refine qaq ?_;refine CNB ?_;refine zz (n:=4) (y:=(zai (zk l) m k).1++(List.range 0).map fun j:Nat=>(l.length:Int)-k+(j:Int)) rfl yB ?_;refine Lp (ι:=Nat) 5 (fun i=>((((Fr.none.set 0 (.val (bsl zH) l)).set 2 (.val i64T k)).set 10 (.ptr 2 0)).set 60 (.val i64T k)).set 61 (.val i64T (i:Int))) (fun i=>((Hp.none.set 0 (.box 46 za1 zdN)).set 2 (.parts 97 ([.val (bsl zH) l,.val i64T m,.val i64T k,.val (sl i64T) (zk l)]++[.own 4]))).set 4 (.row 3 i64T ((zai (zk l) m k).1++(List.range i).map fun j:Nat=>(l.length:Int)-k+(j:Int)))) (fun i=>(i:Int)≤k) (fun i=>k.toNat-i) (0) yA ?_;intro i hi;refine qal ?_;refine Cf (p:=(i:Int)<k) (fun ht62=>?_) (fun ht62=>?_)
 ·
  refine qaL ?_;refine A0 aV ?_;refine CNR ?_;refine A0 mP ?_;refine qaO ?_;refine qaw ?_;refine xB ?_;refine qbI ?_;refine qaW ?_;refine qaJ ?_;refine qb0 ?_;refine qaV ?_;refine zaS 5 4 6 rfl rfl rfl rfl rfl rfl ?_;refine zz (n:=4) (y:=(zai (zk l) m k).1++(List.range (i+1)).map fun j:Nat=>(l.length:Int)-k+(j:Int)) rfl (by rw[List.range_succ,List.map_append];simp) ?_;exact Nx (i+1) ya ya
 refine CE ?_;refine CQ ?_;obtain⟨PL,hPL⟩:∃PL,PL=zy l m k:=⟨_,rfl⟩;refine zz (n:=4) (y:=PL) rfl (by rw[hPL];unfold zy;rw[show k.toNat=i by omega]) ?_;have hpm:∀x∈PL,0≤x∧x<l.length:=fun x hx=>zcl ya (hPL▸hx)
 have hpn:PL.length≤220:=hPL▸zjX ya;refine CR ?_;refine A0 mP ?_;refine A0 aP ?_;refine qad ?_;refine zcu rfl ?_;refine A0 yt ?_;refine qaa ?_;refine A0 aP ?_;refine A0 aX ?_;refine CNQQR ?_;refine qav ?_;refine Cg ?_;refine CSQR ?_;refine A0 mP ?_;refine zaa rfl rfl rfl rfl Tryz.func22 fn_22 rfl rfl (fun ia3 iok3=>?_);refine CQR ?_;refine qb8 ?_;refine CNQ ?_;refine xD ?_;refine XK.ga (fun _=>g_mp (.inl rfl) rfl) rfl rfl rfl ?_;refine XK.ga (fun _=>g_nc rfl rfl) rfl rfl rfl ?_;refine XK.ga (fun _=>zf3 rfl rfl znU rfl) rfl rfl rfl ?_;refine XK.gf (t:=8) rfl rfl (fun _ he=>z6 rfl rfl he rfl rfl ty_3) ⟨rfl,trivial⟩ rfl rfl rfl ?_;refine XK.ga (fun _=>g_mp (.inl rfl) rfl) rfl rfl rfl ?_;refine XK.ga (fun _=>g_nc rfl rfl) rfl rfl rfl ?_;refine XK.ga (fun _=>zf3 rfl rfl znT rfl) rfl rfl rfl ?_;refine XK.gf (t:=12) rfl rfl (fun _ he=>z6 rfl rfl he rfl rfl ty_3) ⟨rfl,trivial⟩ rfl rfl rfl ?_;refine XK.ga (fun _=>zu rfl ziv ze7 (.cons zfD (Lens.fst _ _) ty_3 rfl (.cons zek ((Lens.snd _ _).comp (Lens.fst _ _)) ty_3 rfl .nil)) rfl) rfl rfl rfl ?_;refine XK.e (fun fr' hfr kk H=>by exact zq ziv rfl rfl rfl rfl (zr H)) ?_;refine XK.e (x:=.idk) (fun fr' hfr kk H=>by exact zg rfl rfl rfl ((hfr 3 yc).trans rfl) rfl (Lens.self _) zbw ((hfr 14 yc).trans rfl) (zr H)) ?_;refine XK.nilp ⟨yx,yx,trivial⟩ ?_;refine zeH 6 (x:=(m,k,())) zg6 rfl ?_;refine zds 6 66 zcC [.val i64T m,.val i64T k] rfl yQ ?_;refine CQQR ?_;refine qaO ?_;refine A0 (zaV rfl rfl rfl zdz) ?_;refine qa0 ?_;refine Lp (ι:=Nat) 8 (fun i=>(((((Fr.none.set 0 (.ptr 2 0)).set 2 (.ptr 5 0)).set 3 (.ptr 6 0)).set 18 (.own 4)).set 19 (.val i64T (PL.length:Int))).set 20 (.val i64T (i:Int))) (fun i=>(((((Hp.none.set 0 (.box 46 za1 zdN)).set 2 (.parts 97 ([.val (bsl zH) l,.val i64T m,.val i64T k,.val (sl i64T) (zk l)]++[.own 4]))).set 4 (.row 3 i64T PL)).set 5 (.box 46 za1 zdN)).set 6 (.parts 46 [.val i64T m,.val i64T k,.own 7])).set 7 (.row 66 zcC ((PL.take i).map (zaQ l)))) (fun i=>i≤PL.length) (fun i=>PL.length-i) (0) (uf _) ?_;intro i hi2;refine qal ?_;refine Cf (p:=i<PL.length) (fun ht21=>?_) (fun ht21=>?_)
 ·
  obtain⟨x,hx⟩:∃x,PL[i]?=some x:=⟨_,ub ht21⟩;have hxb:=hpm x (ud hx);obtain⟨b,hb⟩:∃b,l[x.toNat]?=some b:=yo;refine CSQBQR ?_;refine A0 (zdc (i:=i) rfl rfl rfl rfl ym zcv yh) ?_;refine A0 (zbR rfl rfl rfl rfl yj (Lens.self _) ty_3) ?_;refine qad ?_;refine xE ?_;refine X0 (oFp za4) ?_;refine X0 (z6 rfl rfl rfl rfl rfl zef) ?_;refine qaP ?_;refine X0 mV ?_;refine xF ?_;refine X0 (oFr zaU zal) ?_;refine X0 (ze rfl rfl zaF) ?_;refine qaP ?_;refine X0 mV ?_;refine xF ?_;refine X0 (oFr zdW zb2) ?_;refine X0 (ze rfl rfl zcy) ?_;refine X0 (oCl (zB (zlh b.l ybi)) rfl fn_71 ybz) ?_;refine xG ?_;refine qci ?_;refine XK.e (fun fr' hfr kk H=>by exact zN rfl rfl rfl rfl ((hfr 25 yc).trans rfl) rfl ((hfr 44 yc).trans rfl) zr1 yA (zr H)) ?_;refine X0 (oFp za4) ?_;refine XK.e (x:=.idk) (fun fr' hfr kk H=>by exact zaB rfl rfl rfl ((hfr 46 yc).trans rfl) rfl rfl ((hfr 45 yc).trans rfl) rfl rfl rfl zef (zr H)) ?_;refine qaI ?_;refine zaS 8 7 9 rfl rfl rfl rfl rfl rfl ?_;refine zz (n:=7) (y:=(PL.take (i+1)).map (zaQ l)) rfl ybn ?_;exact Nx (i+1) ya ya
 refine CE ?_;refine CQ ?_;refine zz (n:=7) (y:=PL.map (zaQ l)) rfl yN ?_;refine ziM 6 7 [.val i64T m,.val i64T k] (z:=(⟨m,k,PL.map (zaQ l)⟩:Proof)) (R:=za1) rfl rfl rfl ziC ?_;refine qbO ?_;exact zp rfl rfl (zx rfl rfl zbw (by unfold prOf;rw[if_pos (by unfold prE;rw[if_neg ya,if_neg ya]),hPL])) (zad (za rfl (by unfold prE;rw[if_neg ya,if_neg ya])))
theorem toI_u32 {a b:UInt32}:IntL.toI u32T a=IntL.toI u32T b↔a=b:=⟨fun h=>UInt32.toNat_inj.1 (Int.ofNat.inj h),fun h=>by rw[h]⟩
def idsP (p:Proof):List Ab.Id:=p.p.map fun x=>zag x.h
def zgH (l:List Ab.Id) (prev id:Ab.Id):Bool:=decide (prev=id)||l.any fun x=>decide (id=x)
def zsa (y z:Part) (last:Prop) [Decidable last] (d:Ab.Id):Int :=
  if y.h.height≤z.h.height∨¬y.h.bits=z.h.bits∨last∧(¬y.h.height=IntKind.i64.wrap (z.h.height+1)∨¬y.h.prev=d) then 5 else 0
def zsl (y:Part) (c d:Ab.Id):Int :=
  if y.l.length=0∨32<y.l.length∨¬y.l.getD 0 zId=c∨zgH y.l y.h.prev d=false∨¬zct y.l=y.h.links then 6 else 0
def zrt (y:Part):Int:=if ¬zat y.h=true then 4 else 0
def zjE:Part:=⟨zhC,[]⟩
def yOf (x:CTrial):Part:=x.p.p.getD x.at_.toNat zjE
def zOf (x:CTrial):Part:=x.p.p.getD (x.at_.toNat-1) zjE
def dOf (x:CTrial):Ab.Id:=x.ids.getD (x.at_.toNat-1) zId
def cOf (x:CTrial):Ab.Id:=x.ids.getD 0 zId
def zkV (x:CTrial):Int:=zsa (yOf x) (zOf x) ((x.p.p.length:Int)-x.p.k≤x.at_) (dOf x)
def zk1 (x:CTrial):Int:=zsl (yOf x) (cOf x) (dOf x)
def zmL (x:CTrial):Int:=zrt (yOf x)
def TrOk (x:CTrial):Prop:=1≤x.at_∧x.at_<x.p.p.length∧x.ids.length=x.p.p.length∧x.p.p.length≤100∧1≤x.p.k∧x.p.k≤20
theorem ziU {x:CTrial} {y:Part} (h:x.p.p[x.at_.toNat]?=some y):yOf x=y:=by unfold yOf;simp[h]
theorem zOf_at {x:CTrial} {y:Part} (h:x.p.p[x.at_.toNat-1]?=some y):zOf x=y:=by unfold zOf;simp[h]
theorem zpC {x:CTrial} {y:Ab.Id} (h:x.ids[x.at_.toNat-1]?=some y):dOf x=y:=by unfold dOf;simp[h]
theorem cOf_at {x:CTrial} {y:Ab.Id} (h:x.ids[0]?=some y):cOf x=y:=by unfold cOf;simp[h]
theorem zjU {x:CTrial} {y z:Part} {d:Ab.Id} (hy:x.p.p[x.at_.toNat]?=some y) (hz:x.p.p[x.at_.toNat-1]?=some z) (hd:x.ids[x.at_.toNat-1]?=some d)
    (h:y.h.height≤z.h.height∨¬y.h.bits=z.h.bits∨((x.p.p.length:Int)-x.p.k≤x.at_)∧(¬y.h.height=IntKind.i64.wrap (z.h.height+1)∨¬y.h.prev=d)):zkV x=5:=by
  unfold zkV zsa;rw[ziU hy,zOf_at hz,zpC hd,if_pos h]
theorem zql {x:CTrial} {y z:Part} {d:Ab.Id} (hy:x.p.p[x.at_.toNat]?=some y) (hz:x.p.p[x.at_.toNat-1]?=some z) (hd:x.ids[x.at_.toNat-1]?=some d)
    (h:¬(y.h.height≤z.h.height∨¬y.h.bits=z.h.bits∨((x.p.p.length:Int)-x.p.k≤x.at_)∧(¬y.h.height=IntKind.i64.wrap (z.h.height+1)∨¬y.h.prev=d))):zkV x=0:=by
  unfold zkV zsa;rw[ziU hy,zOf_at hz,zpC hd,if_neg h]
theorem zh5 {x:CTrial} {y:Part} {c d:Ab.Id} (hy:x.p.p[x.at_.toNat]?=some y) (hc:x.ids[0]?=some c) (hd:x.ids[x.at_.toNat-1]?=some d)
    (h:y.l.length=0∨32<y.l.length∨¬y.l.getD 0 zId=c∨zgH y.l y.h.prev d=false∨¬zct y.l=y.h.links):zk1 x=6:=by
  unfold zk1 zsl;rw[ziU hy,cOf_at hc,zpC hd,if_pos h]
theorem zvh {x:CTrial} {y:Part} {c d:Ab.Id} (hy:x.p.p[x.at_.toNat]?=some y) (hc:x.ids[0]?=some c) (hd:x.ids[x.at_.toNat-1]?=some d)
    (h:¬(y.l.length=0∨32<y.l.length∨¬y.l.getD 0 zId=c∨zgH y.l y.h.prev d=false∨¬zct y.l=y.h.links)):zk1 x=0:=by
  unfold zk1 zsl;rw[ziU hy,cOf_at hc,zpC hd,if_neg h]
def three:List (Option Nat):=[some 32,some 33,some 34]
def askC (f:Option Nat) (x:CTrial):Int:=if f=some 32 then zkV x else if f=some 33 then zk1 x else zmL x
def zdV:List (Option Nat)→CTrial→Int
  | [],_=>0
  | f::l,x=>if askC f x=0 then zdV l x else askC f x
theorem zlV (x:CTrial):zdV three x=if ¬zkV x=0 then zkV x else if ¬zk1 x=0 then zk1 x else zmL x:=by
  have e1:askC (some 32) x=zkV x:=by unfold askC;rw[if_pos rfl]
  have e2:askC (some 33) x=zk1 x:=by unfold askC;rw[if_neg yn,if_pos rfl]
  have e3:askC (some 34) x=zmL x:=by unfold askC;rw[if_neg yn,if_neg yn]
  unfold three;simp only[zdV,e1,e2,e3];by_cases h1:zkV x=0
  · by_cases h2:zk1 x=0
    · by_cases h3:zmL x=0<;>simp[h1,h2,h3]
    simp[h1,h2]
  simp[h1]
theorem zjo {l:List (Option Nat)} {j:Nat} {f:Option Nat} {x:CTrial} (h:l[j]?=some f) (h0:askC f x=0):zdV (l.drop j) x=zdV (l.drop (j+1)) x:=by
  obtain⟨hj,rfl⟩:=ul.1 h;rw[List.drop_eq_getElem_cons hj];show(if _ then _ else _)=_;rw[if_pos h0]
theorem zej {l:List (Option Nat)} {j:Nat} {f:Option Nat} {x:CTrial} (h:l[j]?=some f) (h0:¬askC f x=0):zdV (l.drop j) x=askC f x:=by
  obtain⟨hj,rfl⟩:=ul.1 h;rw[List.drop_eq_getElem_cons hj];show(if _ then _ else _)=_;rw[if_neg h0]
def zgj (p:Proof) (ids:List Ab.Id):Nat→Nat→Int
  | 0,_=>0
  | n+1,i=>if zdV three ⟨p,ids,i⟩=0 then zgj p ids n (i+1) else zdV three ⟨p,ids,i⟩
theorem trials_go {p:Proof} {ids:List Ab.Id} {i:Nat} (hi:i<p.p.length) (h:zdV three ⟨p,ids,i⟩=0):zgj p ids (p.p.length-i) i=zgj p ids (p.p.length-(i+1)) (i+1):=by
  rw[show p.p.length-i=(p.p.length-(i+1))+1 by omega];show(if _ then _ else _)=_;rw[if_pos h]
theorem zi9 {p:Proof} {ids:List Ab.Id} {i:Nat} (hi:i<p.p.length) (h:¬zdV three ⟨p,ids,i⟩=0):zgj p ids (p.p.length-i) i=zdV three ⟨p,ids,i⟩:=by
  rw[show p.p.length-i=(p.p.length-(i+1))+1 by omega];show(if _ then _ else _)=_;rw[if_neg h]
def zdD (p:Proof):Int :=
  if p.m<1∨20<p.m∨p.k<1∨20<p.k then 1
  else if 100<p.p.length∨(p.p.length:Int)≤p.k then 3
  else if za6 (p.p.getD 0 zjE).h.bits=false∨0<(p.p.getD 0 zjE).l.length∨¬(p.p.getD 0 zjE).h=(zar (p.p.getD 0 zjE).h.bits).b.h then 12
  else zgj p (idsP p) (p.p.length-1) 1
theorem ids_ok (p:Proof) (hl:p.p.length≤1000000000000):Tells P 31 [.val za1 p] (.fresh 26 idT (idsP p)):=by
 refine zc Tryz.func31 rfl rfl rfl (fun ext w hext=>?_);refine qai ?_;refine A0 aL ?_;refine CNQR ?_;refine A0 aL ?_;refine CNQQR ?_;refine A0 (oFp za4) ?_;refine A0 (oLb zaW zef) ?_;refine A0 (zO rfl rfl zdA) ?_;refine qa0 ?_;refine zcJ (T:=idT) (d:=3) 26 rfl ?_;refine Lp (ι:=Nat) 2 (fun (k:Nat)=>((((Fr.none).set 3 (.own 1)).set 7 (.val (sl zcC) p.p)).set 8 (.val i64T (p.p.length:Int))).set 9 (.val i64T (k:Int))) (fun (k:Nat)=>(Hp.none).set 1 (.row 26 idT ((p.p.take k).map fun x=>zag x.h))) (fun (k:Nat)=>k≤p.p.length) (fun (k:Nat)=>p.p.length-k) (0) (uf _) ?_;intro k hinv;refine qal ?_;refine Cf (p:=k<p.p.length) (fun ht10=>?_) (fun ht10=>?_)
 ·
  obtain⟨x,hx⟩:∃x,p.p[k]?=some x:=⟨_,ub ht10⟩;refine CSQBQR ?_;refine A0 (zbM rfl rfl rfl zjN yj) ?_;refine qbn ?_;refine CNR ?_;refine A0 mO ?_;refine A0 (oFp zc4) ?_;refine A0 (oLb zcd zaF) ?_;refine A0 (oCl (zdb x.h) rfl zoP yd) ?_;refine qbt ?_;refine zaS 3 1 4 rfl rfl rfl rfl rfl rfl ?_;refine zz (n:=1) (y:=(p.p.take (k+1)).map fun x=>zag x.h) rfl (by rw[un,hx,List.map_append];simp) ?_;exact Nx (k+1) ya ya
 refine qa3 ?_;exact zb rfl rfl (zh rfl rfl (by rw[uc ya];rfl))
theorem cprev_ok (x:CTrial) (h:TrOk x):Tells P 32 [.rptr zfG x] (.val i64T (zkV x)):=by
 obtain⟨h1,h2,h3,h4,h5,h6⟩:=h;obtain⟨y,hy⟩:∃y,x.p.p[x.at_.toNat]?=some y:=yo;obtain⟨z,hz⟩:∃z,x.p.p[x.at_.toNat-1]?=some z:=yo;obtain⟨d,hd⟩:∃d,x.ids[x.at_.toNat-1]?=some d:=yo;refine zc Tryz.func32 rfl rfl rfl (fun ext w hext=>?_);refine CQR ?_;refine qaA ?_;refine zrc 25 (.box 32 zbl zhC) [some 1000001,some 1000001,some 1000001,some 1000001,some 1000001,some 1000001,some 1000001,some 1000001,some 1000001,some 1000001,some 1000001,some 1000001,some 1000001,some 1000001,some 1000001,some 1000001,some 1000001,some 1000001,some 1000001,some 1000001,some 1000001,some 1000001,some 1000001,some 1000001,some 1000001,some 1000001,none,none,none] mixed yc rfl ?_;refine XKF.ga rfl (fun _=>g_mr (.inl rfl) rfl) rfl rfl rfl rfl ?_;refine XKF.ga rfl (fun _=>zbX rfl rfl) rfl rfl rfl rfl ?_;refine XKF.ga rfl (fun _=>zb4 rfl rfl zjp zep) rfl rfl rfl rfl ?_;refine XKF.ga rfl (fun _=>zb4 rfl rfl za4 zaW) rfl rfl rfl rfl ?_;refine XKF.ga rfl (fun _=>ze rfl rfl zef) rfl rfl rfl rfl ?_;refine XKF.ga rfl (fun _=>g_mr (.inl rfl) rfl) rfl rfl rfl rfl ?_;refine XKF.ga rfl (fun _=>zbX rfl rfl) rfl rfl rfl rfl ?_;refine XKF.ga rfl (fun _=>zb4 rfl rfl zfC zbk) rfl rfl rfl rfl ?_;refine XKF.ga rfl (fun _=>ze rfl rfl ty_3) rfl rfl rfl rfl ?_;refine XKF.ga rfl (fun _=>zR (i:=x.at_.toNat) rfl rfl rfl ya zjN yj) rfl rfl rfl rfl ?_;refine XKF.ga rfl (fun _=>zb4 rfl rfl zc4 zcd) rfl rfl rfl rfl ?_;refine XKF.ga rfl (fun _=>ze rfl rfl zaF) rfl rfl rfl rfl ?_;refine XKF.ga rfl (fun _=>g_mr (.inl rfl) rfl) rfl rfl rfl rfl ?_;refine XKF.ga rfl (fun _=>zbX rfl rfl) rfl rfl rfl rfl ?_;refine XKF.ga rfl (fun _=>zb4 rfl rfl zjp zep) rfl rfl rfl rfl ?_;refine XKF.ga rfl (fun _=>zb4 rfl rfl za4 zaW) rfl rfl rfl rfl ?_;refine XKF.ga rfl (fun _=>ze rfl rfl zef) rfl rfl rfl rfl ?_;refine XKF.ga rfl (fun _=>g_mr (.inl rfl) rfl) rfl rfl rfl rfl ?_;refine XKF.ga rfl (fun _=>zbX rfl rfl) rfl rfl rfl rfl ?_;refine XKF.ga rfl (fun _=>zb4 rfl rfl zfC zbk) rfl rfl rfl rfl ?_;refine XKF.ga rfl (fun _=>ze rfl rfl ty_3) rfl rfl rfl rfl ?_;refine XKF.ga rfl (fun _=>by first|exact zsy rfl rfl rfl (zaz yam)|exact zsy rfl rfl rfl rfl) rfl rfl rfl rfl ?_;refine XKF.ga rfl (fun _=>zR (i:=x.at_.toNat-1) rfl rfl rfl ya zjN yj) rfl rfl rfl rfl ?_;refine XKF.ga rfl (fun _=>zb4 rfl rfl zc4 zcd) rfl rfl rfl rfl ?_;refine XKF.ga rfl (fun _=>ze rfl rfl zaF) rfl rfl rfl rfl ?_;refine XKF.f rfl zpU rfl rfl rfl rfl rfl rfl ?_;refine XKF.e rfl (fun fr' hfr kk H=>by exact zq zpU rfl rfl rfl rfl (zr H)) (EffA.conv (fun fr' hfr kk H=>by exact zq zpU rfl rfl rfl rfl (zr H)) yaH) yaq yaq yaq (by (repeat refine zkC ?_ rfl);exact fun _ _=>rfl) ?_;refine XKF.ew (x:=.idk) rfl yc (fun fr' hfr kk H=>by exact zg rfl rfl rfl ((hfr 3 yc).trans rfl) rfl (Lens.self _) zaF ((hfr 17 yc).trans rfl) (zr H)) yaq (by (repeat refine zkC ?_ rfl);exact fun _ _=>rfl) ?_;refine XKF.ew (x:=.idk) rfl yc (fun fr' hfr kk H=>by exact zg rfl rfl rfl ((hfr 4 yc).trans rfl) rfl (Lens.self _) zaF ((hfr 30 yc).trans rfl) (zr H)) yaq (by (repeat refine zkC ?_ rfl);exact fun _ _=>rfl) ?_
 refine XKF.nilp trivial ?_;refine qbc ?_;refine qbo ?_;refine G0 (oFr zfC zbk) ?_;refine G0 (ze rfl rfl ty_3) ?_;refine qbo ?_;refine G0 (oFr zjp zep) ?_;refine G0 (oFr za4 zaW) ?_;refine G0 (ze rfl rfl zef) ?_;refine G0 yaa ?_;refine qbo ?_;refine G0 (oFr zjp zep) ?_;refine G0 (oFr zek zd5) ?_;refine G0 (ze rfl rfl ty_3) ?_;refine G0 zbh ?_;refine G0 zfR ?_;refine qbB ?_;refine CQ ?_;refine qbc ?_;refine G0 (oFp zcr) ?_;refine G0 (oLb zak ty_3) ?_;refine G0 (oFp zcr) ?_;refine G0 (oLb zak ty_3) ?_;refine G0 zh2 ?_;refine G0 mV ?_;refine zaH (d:=53) (p:=y.h.height≤z.h.height) rfl yv (fun g53=>?_) (fun g53=>?_)
 ·
  refine qaY ?_;refine G2 ?_;refine G2 ?_;refine qbk ?_;refine G2 ?_;refine G2 ?_;refine qae ?_;refine qae ?_;refine G2 ?_;refine qaM ?_;refine Ct ?_;refine qau ?_;exact zb rfl rfl (za rfl ((zjU hy hz hd (.inl g53)).symm))
 refine G1 (oFp zdr) ?_;refine G1 (oLb zaX zbS) ?_;refine G1 (oFp zdr) ?_;refine G1 (oLb zaX zbS) ?_;refine G1 ze1 ?_;refine qbk ?_;refine zaH (d:=60) (p:=¬y.h.bits=z.h.bits) rfl (by simp[toI_u32]) (fun g60=>?_) (fun g60=>?_)
 ·
  refine G2 ?_;refine G2 ?_;refine qae ?_;refine qae ?_;refine G2 ?_;refine qaM ?_;refine Ct ?_;refine qau ?_;exact zb rfl rfl (za rfl ((zjU hy hz hd (.inr (.inl g60))).symm))
 refine G1 mV ?_;refine G1 mV ?_;refine zaH (d:=62) (p:=(x.p.p.length:Int)-x.p.k≤x.at_) rfl yv (fun g62=>?_) (fun g62=>?_)
 ·
  refine G1 (oFp zcr) ?_;refine G1 (oLb zak ty_3) ?_;refine G1 (oFp zcr) ?_;refine G1 (oLb zak ty_3) ?_;refine G1 zdo ?_;refine G1 ze1 ?_;refine G1 mV ?_;refine zaH (d:=69) (p:=¬y.h.height=IntKind.i64.wrap (z.h.height+1)) rfl yO (fun g69=>?_) (fun g69=>?_)
  ·
   refine qab ?_;refine qab ?_;refine G2 ?_;refine G2 ?_;refine G1 oK ?_;refine G1 oK ?_;refine qaM ?_;refine Ct ?_;refine qau ?_;exact zb rfl rfl (za rfl ((zjU hy hz hd (.inr (.inr ⟨g62,.inl g69⟩))).symm))
  refine G1 (oFp zhm) ?_;refine G1 (oLb zcL zaA) ?_;refine qbQ ?_;refine G1 (oFr zqL zgi) ?_;refine G1 (ze rfl rfl zcy) ?_;refine qbQ ?_;refine G1 (oFr zfC zbk) ?_;refine G1 (ze rfl rfl ty_3) ?_;refine G1 zbh ?_;refine G1 (zR (i:=x.at_.toNat-1) rfl rfl rfl ya zeM yj) ?_;refine G1 (ze rfl rfl zaA) ?_;refine G1 (zhy rfl rfl rfl (zkn)) ?_;refine G1 oK ?_;refine G1 oK ?_;refine qaM ?_;refine zo (p:=¬y.h.prev=d) rfl yB (fun ht86=>?_) (fun ht86=>?_)
  ·
   refine qau ?_;exact zb rfl rfl (za rfl ((zjU hy hz hd (.inr (.inr ⟨g62,.inr ht86⟩))).symm))
  refine CSQR ?_;refine qad ?_;exact zb rfl rfl (za rfl ((zql hy hz hd (fun h=>h.elim g53 (fun h=>h.elim g60 (fun h=>h.2.elim g69 ht86)))).symm))
 refine qab ?_;refine G2 ?_;refine qae ?_;refine G3 ?_;refine G3 ?_;refine G3 ?_;refine G2 ?_;refine G1 oK ?_;refine qaM ?_;refine Cg ?_;refine CSQR ?_;refine qad ?_;exact zb rfl rfl (za rfl ((zql hy hz hd (fun h=>h.elim g53 (fun h=>h.elim g60 (fun h=>g62 h.1)))).symm))
theorem clink_ok (x:CTrial) (h:TrOk x):Tells P 33 [.rptr zfG x] (.val i64T (zk1 x)):=by
 obtain⟨h1,h2,h3,h4,h5,h6⟩:=h;obtain⟨y,hy⟩:∃y,x.p.p[x.at_.toNat]?=some y:=yo;obtain⟨d,hd⟩:∃d,x.ids[x.at_.toNat-1]?=some d:=yo;obtain⟨c,hc⟩:∃c,x.ids[0]?=some c:=yo;refine zc Tryz.func33 rfl rfl rfl (fun ext w hext=>?_);refine CQR ?_;refine qaA ?_;refine zC [some 1000001,some 1000001,some 1000001,some 1000001,some 1000001,some 1000001,some 1000001,some 1000001,some 1000001,some 1000001,some 1000001,none,none] mixed yc ?_;refine XK.ga (fun _=>g_mr (.inl rfl) rfl) rfl rfl rfl ?_;refine XK.ga (fun _=>zbX rfl rfl) rfl rfl rfl ?_;refine XK.ga (fun _=>zb4 rfl rfl zjp zep) rfl rfl rfl ?_;refine XK.ga (fun _=>zb4 rfl rfl za4 zaW) rfl rfl rfl ?_;refine XK.ga (fun _=>ze rfl rfl zef) rfl rfl rfl ?_;refine XK.ga (fun _=>g_mr (.inl rfl) rfl) rfl rfl rfl ?_;refine XK.ga (fun _=>zbX rfl rfl) rfl rfl rfl ?_;refine XK.ga (fun _=>zb4 rfl rfl zfC zbk) rfl rfl rfl ?_;refine XK.ga (fun _=>ze rfl rfl ty_3) rfl rfl rfl ?_;refine XK.ga (fun _=>zR (i:=x.at_.toNat) rfl rfl rfl ya zjN yj) rfl rfl rfl ?_;refine XK.ga (fun _=>ze rfl rfl zov) rfl rfl rfl ?_;refine XK.e (fun fr' hfr kk H=>by exact zq ze_66 rfl rfl rfl rfl (zr H)) ?_;refine XK.e (x:=.idk) (fun fr' hfr kk H=>by exact zg rfl rfl rfl ((hfr 3 yc).trans rfl) rfl (Lens.self _) zov ((hfr 14 yc).trans rfl) (zr H)) ?_;refine XK.nil' ?_;refine CQ ?_;refine qbc ?_;refine G0 (oFp zdq) ?_;refine G0 (oLb zcS zcy) ?_;refine G0 (zO rfl rfl zcX) ?_;refine G0 zcw ?_;refine G0 mV ?_;refine zaH (d:=19) (p:=y.l.length=0) rfl (by rw[uo];simp[IntL.toI]) (fun g19=>?_) (fun g19=>?_)
 ·
  refine qaY ?_;refine G2 ?_;refine qbk ?_;refine qab ?_;refine qaY ?_;refine G2 ?_;refine G2 ?_;refine qbk ?_;refine qab ?_;refine qab ?_;refine qab ?_;refine qbk ?_;refine qab ?_;refine G2 ?_;refine qaM ?_;refine Ct ?_;refine qau ?_;exact zb rfl rfl (za rfl ((zh5 hy hc hd (.inl g19)).symm))
 refine G1 (oFp zdq) ?_;refine G1 (oLb zcS zcy) ?_;refine G1 (zO rfl rfl zcX) ?_;refine G1 zcq ?_;refine qbk ?_;refine zaH (d:=25) (p:=32<y.l.length) rfl yv (fun g25=>?_) (fun g25=>?_)
 ·
  refine qab ?_;refine qaY ?_;refine G2 ?_;refine G2 ?_;refine qbk ?_;refine qab ?_;refine qab ?_;refine qab ?_;refine qbk ?_;refine qab ?_;refine G2 ?_;refine qaM ?_;refine Ct ?_;refine qau ?_;exact zb rfl rfl (za rfl ((zh5 hy hc hd (.inr (.inl g25))).symm))
 obtain⟨e,he⟩:∃e,y.l[0]?=some e:=yo;have hel:y.l.getD 0 zId=e:=by simp[he]
 refine G1 (oFp zdq) ?_;refine G1 (oLb zcS zcy) ?_;refine G1 (zR (i:=0) rfl rfl rfl ya zeM yj) ?_;refine G1 (ze rfl rfl zaA) ?_;refine qbQ ?_;refine G1 (oFr zqL zgi) ?_;refine G1 (ze rfl rfl zcy) ?_;refine G1 (zR (i:=0) rfl rfl rfl ya zeM yj) ?_;refine G1 (ze rfl rfl zaA) ?_;refine G1 (zhy rfl rfl rfl (zkn)) ?_;refine qbk ?_;refine zaH (d:=38) (p:=¬e=c) rfl yB (fun g38=>?_) (fun g38=>?_)
 ·
  refine qab ?_;refine qab ?_;refine qab ?_;refine qbk ?_;refine qab ?_;refine G2 ?_;refine qaM ?_;refine Ct ?_;refine qau ?_;exact zb rfl rfl (za rfl ((zh5 hy hc hd (.inr (.inr (.inl (by rw[hel];exact g38))))).symm))
 refine G1 (oFp zdq) ?_;refine G1 (oLb zcS zcy) ?_;refine G1 (oFp zc4) ?_;refine G1 (oFp zhm) ?_;refine G1 (oLb (zcd.comp zcL) zaA) ?_;refine qbQ ?_;refine G1 (oFr zqL zgi) ?_;refine G1 (ze rfl rfl zcy) ?_;refine qbQ ?_;refine G1 (oFr zfC zbk) ?_;refine G1 (ze rfl rfl ty_3) ?_;refine G1 zbh ?_;refine G1 (zR (i:=x.at_.toNat-1) rfl rfl rfl ya zeM yj) ?_;refine G1 (ze rfl rfl zaA) ?_;refine G1 (oCl (leads_ok y.l y.h.prev d) rfl fn_78 ⟨yl,yl,yb,trivial⟩) ?_;refine G1 oN ?_;refine qbk ?_;refine zaH (d:=58) (p:=zgH y.l y.h.prev d=false) rfl (by show(!(zgH y.l y.h.prev d))=_;cases zgH y.l y.h.prev d<;>rfl) (fun g58=>?_) (fun g58=>?_)
 ·
  refine qab ?_;refine G2 ?_;refine qaM ?_;refine Ct ?_;refine qau ?_;exact zb rfl rfl (za rfl ((zh5 hy hc hd (.inr (.inr (.inr (.inl g58))))).symm))
 refine G1 (oFp zdq) ?_;refine G1 (oLb zcS zcy) ?_;refine G1 (oCl (zjj y.l ya) rfl fn_52 yd) ?_;refine G1 (oFp zc4) ?_;refine G1 (oFp zhl) ?_;refine G1 (oLb (zcd.comp zb7) zaA) ?_;refine G1 (zhy rfl rfl rfl (zkn)) ?_;refine qaM ?_;refine zo (p:=¬zct y.l=y.h.links) rfl yB (fun ht66=>?_) (fun ht66=>?_)
 ·
  refine qau ?_;exact zb rfl rfl (za rfl ((zh5 hy hc hd (.inr (.inr (.inr (.inr ht66))))).symm))
 refine CSQR ?_;refine qad ?_;exact zb rfl rfl (za rfl ((zvh hy hc hd (fun h=>h.elim g19 (fun h=>h.elim g25 (fun h=>h.elim (by rw[hel];exact g38) (fun h=>h.elim g58 ht66))))).symm))
theorem cwork_ok (x:CTrial) (h:TrOk x):Tells P 34 [.rptr zfG x] (.val i64T (zmL x)):=by
 obtain⟨h1,h2,h3,h4,h5,h6⟩:=h;obtain⟨y,hy⟩:∃y,x.p.p[x.at_.toNat]?=some y:=yo;refine zc Tryz.func34 rfl rfl rfl (fun ext w hext=>?_);refine CQR ?_;refine qaA ?_;refine qbc ?_;refine qbo ?_;refine G0 (oFr zjp zep) ?_;refine G0 (oFr za4 zaW) ?_;refine G0 (ze rfl rfl zef) ?_;refine qbo ?_;refine G0 (oFr zfC zbk) ?_;refine G0 (ze rfl rfl ty_3) ?_;refine G0 (zR (i:=x.at_.toNat) rfl rfl rfl ya zjN yj) ?_;refine G0 (oFr zc4 zcd) ?_;refine G0 (ze rfl rfl zaF) ?_;refine G0 (oCl (zgK y.h) rfl fn_42 ybz) ?_;refine G0 oN ?_;refine GK.nil ?_;refine zo (p:=¬zat y.h=true) rfl (by cases zat y.h<;>rfl) (fun ht16=>?_) (fun ht16=>?_)
 ·
  refine qau ?_;exact zb rfl rfl (za rfl (by unfold zmL zrt;rw[ziU hy,if_pos ht16]))
 refine CSQR ?_;refine qad ?_;exact zb rfl rfl (za rfl (by unfold zmL zrt;rw[ziU hy,if_neg ht16]))
theorem zn8 (p:Proof):Tells P 11 [.val za1 p] (.val i64T (zdD p)):=by
 refine zc Tryz.func11 rfl rfl rfl (fun ext w hext=>?_);refine qai ?_;refine qce ?_;refine A0 (oFp zfD) ?_;refine A0 (oLb zfM ty_3) ?_;refine A0 zbu ?_;refine qaw ?_;refine Sp (d:=12) (p:=p.m<1) (fun g12=>?_) (fun g12=>?_)
 ·
  refine qac ?_;refine qaH ?_;refine qaH ?_;refine qas ?_;refine Ct ?_;refine qau ?_;exact zb rfl rfl (za rfl (ya8))
 refine A1 (oFp zfD) ?_;refine A1 (oLb zfM ty_3) ?_;refine A1 zcq ?_;refine qaj ?_;refine Sp (d:=17) (p:=20<p.m) (fun g17=>?_) (fun g17=>?_)
 ·
  refine qac ?_;refine qaH ?_;refine qas ?_;refine Ct ?_;refine qau ?_;exact zb rfl rfl (za rfl (ya8))
 refine A1 (oFp zek) ?_;refine A1 (oLb zd5 ty_3) ?_;refine A1 zbu ?_;refine qaj ?_;refine Sp (d:=22) (p:=p.k<1) (fun g22=>?_) (fun g22=>?_)
 ·
  refine qac ?_;refine qas ?_;refine Ct ?_;refine qau ?_;exact zb rfl rfl (za rfl (ya8))
 refine A1 (oFp zek) ?_;refine A1 (oLb zd5 ty_3) ?_;refine A1 zcq ?_;refine qas ?_;refine Cf (p:=20<p.k) (fun ht26=>?_) (fun ht26=>?_)
 ·
  refine qau ?_;exact zb rfl rfl (za rfl (ya8))
 refine CSQQR ?_;refine A0 (oFp za4) ?_;refine A0 (oLb zaW zef) ?_;refine A0 (zO rfl rfl zdA) ?_;refine A0 zcq ?_;refine qaw ?_;refine Sp (d:=31) (p:=100<p.p.length) (fun g31=>?_) (fun g31=>?_)
 ·
  refine qac ?_;refine qac ?_;refine qas ?_;refine Ct ?_;refine qau ?_;exact zb rfl rfl (za rfl ((by unfold zdD;rw[if_neg ya,if_pos ya])))
 refine A1 (oFp za4) ?_;refine A1 (oLb zaW zef) ?_;refine A1 (zO rfl rfl zdA) ?_;refine A1 (oFp zek) ?_;refine A1 (oLb zd5 ty_3) ?_;refine A1 zh2 ?_;refine qas ?_;refine Cf (p:=(p.p.length:Int)≤p.k) (fun ht38=>?_) (fun ht38=>?_)
 ·
  refine qau ?_;exact zb rfl rfl (za rfl ((by unfold zdD;rw[if_neg ya,if_pos ya])))
 obtain⟨a,ha⟩:∃a,p.p[0]?=some a:=yo;have hag:p.p.getD 0 zjE=a:=by simp[ha]
 refine CSQR ?_;refine A0 (oFp za4) ?_;refine A0 (oLb zaW zef) ?_;refine A0 (zR (i:=0) rfl rfl rfl ya zjN yj) ?_;refine A0 (oFr zc4 zcd) ?_;refine A0 (oFr zdr zaX) ?_;refine A0 (ze rfl rfl zbS) ?_;refine A0 (oCl (zjn a.h.bits) rfl fn_18 ybz) ?_;refine qa1 ?_;refine qaA ?_;refine qbc ?_;refine G0 mV ?_;refine G0 oN ?_;refine G0 mV ?_;refine zaH (d:=51) (p:=za6 a.h.bits=false) rfl (by cases za6 a.h.bits<;>rfl) (fun g51=>?_) (fun g51=>?_)
 ·
  refine qab ?_;refine G2 ?_;refine qbk ?_;refine qab ?_;refine qaY ?_;refine qaM ?_;refine Ct ?_;refine qau ?_;exact zb rfl rfl (za rfl ((by unfold zdD;rw[if_neg ya,if_neg ya,hag,if_pos (.inl g51)])))
 refine G1 (oFp za4) ?_;refine G1 (oLb zaW zef) ?_;refine G1 (zR (i:=0) rfl rfl rfl ya zjN yj) ?_;refine G1 (oFr zdq zcS) ?_;refine G1 (ze rfl rfl zcy) ?_;refine G1 yR ?_;refine G1 zcq ?_;refine qbk ?_;refine zaH (d:=60) (p:=0<a.l.length) rfl yv (fun g60=>?_) (fun g60=>?_)
 ·
  refine qab ?_;refine qaY ?_;refine qaM ?_;refine Ct ?_;refine qau ?_;exact zb rfl rfl (za rfl ((by unfold zdD;rw[if_neg ya,if_neg ya,hag,if_pos (.inr (.inl g60))])))
 refine G1 (oFp za4) ?_;refine G1 (oLb zaW zef) ?_;refine G1 (zR (i:=0) rfl rfl rfl ya zjN yj) ?_;refine G1 (oFr zc4 zcd) ?_;refine G1 (ze rfl rfl zaF) ?_;refine G1 (oFp zc5) ?_;refine G1 (oFp zaU) ?_;refine G1 (oLb (zc6.comp zal) zaF) ?_;refine G1 (zhy rfl rfl rfl (zpz)) ?_;refine qaM ?_;refine zo (p:=¬a.h=(zar a.h.bits).b.h) rfl yB (fun ht70=>?_) (fun ht70=>?_)
 ·
  refine qau ?_;exact zb rfl rfl (za rfl ((by unfold zdD;rw[if_neg ya,if_neg ya,hag,if_pos (.inr (.inr ht70))])))
 have hcp:zdD p=zgj p (idsP p) (p.p.length-1) 1:=by unfold zdD;rw[if_neg ya,if_neg ya,hag,if_neg (fun h=>h.elim g51 (fun h=>h.elim g60 ht70))]
 have hids:=zB (ids_ok p ya);obtain⟨ids,hid⟩:∃ids,ids=idsP p:=⟨_,rfl⟩;rw[←hid] at hids hcp;have hidl:ids.length=p.p.length:=by rw[hid];unfold idsP;simp
 refine CS ?_;refine CQ ?_;refine zC [some 1,some 1,some 1,some 1,none,some 1] mixed yc ?_;refine X0 (oLs rfl rfl rfl zbw) ?_;refine X0 (oLs rfl rfl rfl zbw) ?_;refine X0 (oCl (hids) rfl fn_31 yd) ?_;refine X0 (zu rfl ze_89 bd_89 (.cons zjp zep zbw rfl (.cons zqL zgi zcy rfl .nil)) rfl) ?_;refine XK.e (fun fr' hfr kk H=>by exact zgU rfl rfl rfl rfl ((hfr 74 yc).trans rfl) (zr H)) ?_;refine X0 aP ?_;refine XK.nil' ?_;refine CQQR ?_;refine qbE ?_;refine A0 (oFp zfC) ?_;refine zg rfl rfl rfl rfl rfl zbk ty_3 rfl ?_;refine CNB ?_;refine z8 (n:=2) (y:=(⟨p,ids,((1:Nat):Int)⟩:CTrial)) rfl rfl ?_;refine Lp (ι:=Nat) 3 (fun i=>(Fr.none.set 1 (.ptr 0 0)).set 5 (.ptr 2 0)) (fun i=>(Hp.none.set 0 (.box 46 za1 p)).set 2 (.box 89 zfG ⟨p,ids,(i:Int)⟩)) (fun i=>1≤i∧i≤p.p.length∧zdD p=zgj p ids (p.p.length-i) i) (fun i=>p.p.length-i) (1) (⟨ug _,by omega,hcp⟩) ?_;intro i hinv;refine CQ ?_;refine qbc ?_;refine qbG ?_;refine G0 (oFp zfC) ?_;refine G0 (oLb zbk ty_3) ?_;refine G0 (oFp za4) ?_;refine G0 (oLb zaW zef) ?_;refine G0 (zO rfl rfl zdA) ?_;refine G0 zbu ?_;refine GK.nil ?_;refine Cf (p:=i<p.p.length) (fun ht86=>?_) (fun ht86=>?_)
 ·
  have htr:TrOk ⟨p,ids,(i:Int)⟩:=⟨by show(1:Int)≤i;omega,by show(i:Int)<p.p.length;omega,hidl,by show p.p.length≤100;omega,by show 1≤p.k;omega,by show p.k≤20;omega⟩;refine CSQBQR ?_;refine A0 (zvA (xs:=[_,_,_]) rfl ar_92 ze_92 ⟨rfl,⟨_,rfl,rfl⟩,rfl,⟨_,rfl,rfl⟩,rfl,⟨_,rfl,rfl⟩,trivial⟩ rfl) ?_;refine zj (d:=94) (y:=three) rfl rfl ?_;refine qa0 ?_;refine Lp (ι:=Nat) 3 (fun (j:Nat)=>((((Fr.none).set 1 (.ptr 0 0)).set 5 (.ptr 2 0)).set 94 (.val (arrT 3 yn fnoT) three)).set 95 (.val i64T (j:Int))) (fun (j:Nat)=>((Hp.none).set 0 (.box 46 za1 p)).set 2 (.box 89 zfG ⟨p,ids,(i:Int)⟩)) (fun (j:Nat)=>j≤3∧zdV three ⟨p,ids,i⟩=zdV (three.drop j) ⟨p,ids,i⟩) (fun (j:Nat)=>3-j) (0) (⟨by omega,rfl⟩) ?_;intro j hj;refine qal ?_;refine Cf (p:=j<3) (fun ht96=>?_) (fun ht96=>?_)
  ·
   obtain⟨e,he⟩:∃e,three[j]?=some e:=⟨_,ub (show j<three.length from ht96)⟩;have hask:e=some 32∨e=some 33∨e=some 34:=by have h:=ud he;unfold three at h;simpa using h
   rcases hask with hk|hk|hk
   ·
    refine CSQBQR ?_;refine A0 (znK rfl rfl rfl rfl ar_92 ty_90 yj) ?_;refine zj (d:=97) rfl hk ?_;refine ze8 (d:=97) (f:=32) rfl ?_;refine A0 aC ?_;refine CNQR ?_;refine A0 mC ?_;refine A0 mP ?_;refine A0 (zgp (As:=[_]) (Cs:=[]) (cprev_ok ⟨p,ids,i⟩ htr) rfl rfl fn_32 ybC yC trivial rfl) ?_;refine qaR ?_;refine qav ?_;refine zo (p:=¬askC e ⟨p,ids,i⟩=0) rfl (by simp[askC,hk,IntL.toI]) (fun ht102=>?_) (fun ht102=>?_)
    ·
     refine qbb ?_;exact zb rfl rfl (za rfl yak)
    refine qaU ?_;exact Nx (j+1) (⟨by omega,hj.2.trans (zjo he (ua ht102))⟩) ya
   ·
    refine CSQBQR ?_;refine A0 (znK rfl rfl rfl rfl ar_92 ty_90 yj) ?_;refine zj (d:=97) rfl hk ?_;refine ze8 (d:=97) (f:=33) rfl ?_;refine A0 aC ?_;refine CNQR ?_;refine A0 mC ?_;refine A0 mP ?_;refine A0 (zgp (As:=[_]) (Cs:=[]) (clink_ok ⟨p,ids,i⟩ htr) rfl rfl fn_33 ybC yC trivial rfl) ?_;refine qaR ?_;refine qav ?_;refine zo (p:=¬askC e ⟨p,ids,i⟩=0) rfl (by simp[askC,hk,IntL.toI]) (fun ht102=>?_) (fun ht102=>?_)
    ·
     refine qbb ?_;exact zb rfl rfl (za rfl yak)
    refine qaU ?_;exact Nx (j+1) (⟨by omega,hj.2.trans (zjo he (ua ht102))⟩) ya
   refine CSQBQR ?_;refine A0 (znK rfl rfl rfl rfl ar_92 ty_90 yj) ?_;refine zj (d:=97) rfl hk ?_;refine ze8 (d:=97) (f:=34) rfl ?_;refine A0 aC ?_;refine CNQR ?_;refine A0 mC ?_;refine A0 mP ?_;refine A0 (zgp (As:=[_]) (Cs:=[]) (cwork_ok ⟨p,ids,i⟩ htr) rfl rfl fn_34 ybC yC trivial rfl) ?_;refine qaR ?_;refine qav ?_;refine zo (p:=¬askC e ⟨p,ids,i⟩=0) rfl (by simp[askC,hk,IntL.toI]) (fun ht102=>?_) (fun ht102=>?_)
   ·
    refine qbb ?_;exact zb rfl rfl (za rfl yak)
   refine qaU ?_;exact Nx (j+1) (⟨by omega,hj.2.trans (zjo he (ua ht102))⟩) ya
  refine CE ?_;refine CI ?_;refine CR ?_;refine qbE ?_;refine A0 (oFp zfC) ?_;refine A0 (oLb zbk ty_3) ?_;refine A0 zdo ?_;refine xb ?_;refine A0 (oFp zfC) ?_;refine zg rfl rfl rfl rfl rfl zbk ty_3 rfl ?_;refine CN ?_;refine z8 (n:=2) (y:=(⟨p,ids,((i+1:Nat):Int)⟩:CTrial)) rfl rfl ?_;exact Nx (i+1) (⟨by omega,by omega,by rw[hinv.2.2];exact trials_go ht86 (hj.2.trans (by rw[List.drop_of_length_le (show three.length≤j by show 3≤j;omega)];rfl))⟩) ya
 refine CE ?_;refine qau ?_;exact zb rfl rfl (za rfl (by rw[hinv.2.2,show p.p.length-i=0 by omega];rfl))
theorem fewC_no {l:List Block} {k:Nat} {x:Block} (hx:l[k]?=some x) (h:¬fewB x=true):fewC l=false:=by
  unfold fewC;rw[Bool.and_eq_false_iff]
  left
  rw[List.all_eq_false];exact⟨x,ud hx,h⟩
theorem fewB_all {x:Block} (h:¬(x.t.all few&&decide ((x.t.length:Int)≤6))=true):¬fewB x=true:=fun h2=>by unfold fewB at h2;rw[uk] at h2;exact h h2.1
theorem fewB_links {x:Block} (h:40<x.l.length):¬fewB x=true:=fun h2=>by unfold fewB at h2;rw[uk,uj] at h2;omega
theorem fewB_yes {x:Block} (h:(x.t.all few&&decide ((x.t.length:Int)≤6))=true) (h2:¬40<x.l.length):fewB x=true:=by unfold fewB;rw[h,Bool.true_and];exact ui ya
theorem zri {α:Type} {p:α→Bool} {l:List α} {k:Nat} {x:α} (h:(l.take k).all p=true) (hx:l[k]?=some x) (hp:p x=true):(l.take (k+1)).all p=true:=by
  rw[un,hx,List.all_append,h];simp[hp]
theorem fewC_end {l:List Block} {k:Nat} (h:(l.take k).all fewB=true) (hk:l.length≤k):fewC l=decide ((l.length:Int)≤50):=by
  rw[uc hk] at h;unfold fewC;rw[h,Bool.true_and]
theorem easy_newOf:newOf 545259519=[zcZ]:=by unfold newOf;rw[if_pos zqV,zqT];rfl
theorem fewC_ok (l:List Block):Tells P 5 [.val (bsl zH) l] (.val zn (fewC l)):=by
 refine zc Tryz.func5 rfl rfl rfl (fun ext w hext=>?_);refine zf (d:=0) rfl zl (fun hsl0=>?_);refine CQR ?_;refine qce ?_;refine A0 aV ?_;refine CNB ?_;refine Lp (ι:=Nat) 0 (fun (k:Nat)=>((Fr.none).set 0 (.val (bsl zH) l)).set 3 (.val i64T (k:Int))) (fun (k:Nat)=>Hp.none) (fun (k:Nat)=>k≤l.length∧(l.take k).all fewB=true) (fun (k:Nat)=>l.length-k) (0) (⟨uf _,by simp⟩) ?_;intro k hinv;refine CQQR ?_;refine qaq ?_;refine xB ?_;refine qaT ?_;refine Cf (p:=k<l.length) (fun ht8=>?_) (fun ht8=>?_)
 ·
  obtain⟨x,hx⟩:∃x,l[k]?=some x:=⟨_,ub ht8⟩;refine CSQBQR ?_;refine qaq ?_;refine A0 (zR (i:=k) rfl rfl rfl ya zfQ yj) ?_;refine A0 (oFr zeQ zcN) ?_;refine A0 (ze rfl rfl zl7) ?_;refine A0 (oCl (fewAll_ok _ _) rfl fn_17 ybB) ?_;refine qag ?_;refine A0 oN ?_;refine qaw ?_;refine zbj (d:=19) (p:=¬(x.t.all few&&decide ((x.t.length:Int)≤6))=true) rfl (by cases (x.t.all few&&decide ((x.t.length:Int)≤6))<;>rfl) (fun g19=>?_) (fun g19=>?_)
  ·
   refine qac ?_;refine qbA ?_;refine qas ?_;refine Ct ?_;refine qau ?_;exact zb rfl rfl (za rfl (fewC_no hx (fewB_all g19)).symm)
  refine A1 mV ?_;refine A1 mV ?_;refine A1 (zR (i:=k) rfl rfl rfl ya zfQ yj) ?_;refine A1 (oFr zdW zb2) ?_;refine A1 (ze rfl rfl zcy) ?_;refine A1 yR ?_;refine A1 zcq ?_;refine qas ?_;refine Cf (p:=40<x.l.length) (fun ht27=>?_) (fun ht27=>?_)
  ·
   refine qau ?_;exact zb rfl rfl (za rfl (fewC_no hx (fewB_links ht27)).symm)
  refine CSIR ?_;refine qaW ?_;refine qad ?_;exact Nx (k+1) (⟨by omega,zri hinv.2 hx (fewB_yes (ua g19) ht27)⟩) ya
 refine CE ?_;refine qa6 ?_;refine xB ?_;refine A0 zh2 ?_;refine qad ?_;exact zb rfl rfl (za rfl (by rw[fewC_end hinv.2 ya,uo];rfl))
def zgN:Proof:=⟨1,1,[⟨ziT,[]⟩,⟨zbv.h,[id0]⟩]⟩
theorem zpG (y:Int):∀i:Nat,i≤32→zaG [31,y] 1 1 i=(0,if i=0 then [] else [0])
  | 0,_=>rfl
  | i+1,h=>by
    have ih:=zpG y i ya;have hu:upOf [31,y] 0 ((([31,y]:List Int).length:Int)-1) (31-(i:Int))=[0]:=by
      show upR [31,y] (31-(i:Int)) 0 (0+1)=[0];rw[upR_yes (v:=[31,y]) (n:=31-(i:Int)) (x:=31) (a:=0) (i:=0) rfl (ug _) ya,zuD];rfl
    have e1:(zaG [31,y] 1 1 i).1=0:=by rw[ih]
    have e2:(zaG [31,y] 1 1 i).2=if i=0 then [] else [0]:=by rw[ih]
    show(if _ then _ else _,_)=_;have h0:(if i+1=0 then ([]:List Int) else [0])=[0]:=if_neg ya;rw[e1,e2,hu,h0,if_neg yn];by_cases c:i=0<;>simp[c,zcU]
theorem easy_lvs:zk [zcZ,zbv]=[31,zK zbv.h]:=by
  show [zK ziT,zK zbv.h]=_;rw[easy_level]
theorem easy_le1:decide (zK zbv.h≤31)=true:=yq
theorem easy_mayP:mayP [31,zK zbv.h] 1 1=true:=by
  have h1:=of_decide_eq_true zt4;have h2:=of_decide_eq_true easy_le1;unfold mayP mayV;generalize zK zbv.h=y at h1 h2;simp;omega
theorem zt2:zai (zk [zcZ,zbv]) 1 1=([0],true):=by
  unfold zai;rw[easy_lvs,if_pos easy_mayP,zpG _ 32 (ug _),if_neg yn];simp[zaM]
theorem zvQ:prE [zcZ,zbv] 1 1=0:=by
  unfold prE;rw[zt5,if_neg yn,if_neg yn]
theorem easy_pr:prOf [zcZ,zbv] 1 1=zgN:=by
  unfold prOf;rw[if_pos zvQ];unfold zy;rw[zt2];rfl
theorem zt3:zct [id0]=zbv.h.links:=(zuY _).trans easy_lk
theorem easy_check:zdD zgN=0:=by
  have ei:idsP zgN=[id0,zag zbv.h]:=by show [zag ziT,zag zbv.h]=_;rw[zqW]
  unfold zdD;rw[if_neg yn,if_neg yn,if_neg (by
    rintro (h|h|h)
    · exact absurd (show za6 545259519=true from zqV) (by rw[show za6 545259519=false from h];decide)
    · exact absurd h yn
    exact h (show ziT=(zar 545259519).b.h by rw[zqT];rfl)),ei]
  show(if _ then _ else _)=_;have hf:zdV three ⟨zgN,[id0,zag zbv.h],((1:Nat):Int)⟩=0:=by
    rw[zlV];have e1:zkV ⟨zgN,[id0,zag zbv.h],((1:Nat):Int)⟩=0:=zql (y:=⟨zbv.h,[id0]⟩) (z:=⟨ziT,[]⟩) (d:=id0) rfl rfl rfl (by
      rintro (h|h|⟨_,h|h⟩)
      · exact absurd h yn
      · exact h rfl
      · exact h rfl
      exact h rfl)
    have e2:zk1 ⟨zgN,[id0,zag zbv.h],((1:Nat):Int)⟩=0:=zvh (y:=⟨zbv.h,[id0]⟩) (c:=id0) (d:=id0) rfl rfl rfl (by
      rintro (h|h|h|h|h)
      · exact absurd h yn
      · exact absurd h yn
      · exact h rfl
      · rw[show zgH [id0] zbv.h.prev id0=true by unfold zgH;rw[ui (show zbv.h.prev=id0 from rfl)];rfl] at h;cases h
      exact h zt3)
    have e3:zmL ⟨zgN,[id0,zag zbv.h],((1:Nat):Int)⟩=0:=by
      unfold zmL zrt;rw[ziU (y:=⟨zbv.h,[id0]⟩) rfl,if_neg (fun h=>h znY)]
    rw[if_neg (fun h=>h e1),if_neg (fun h=>h e2),e3]
  rw[if_pos hf];rfl
def yAt (p:Proof) (i:Nat):Part:=p.p.getD i zjE
def stepOk (p:Proof) (i:Nat):Prop :=
  zsa (yAt p i) (yAt p (i-1)) ((p.p.length:Int)-p.k≤(i:Int)) (zag (yAt p (i-1)).h)=0∧zsl (yAt p i) (zag (yAt p 0).h) (zag (yAt p (i-1)).h)=0∧zrt (yAt p i)=0
def beginOk (a:Part):Prop:=za6 a.h.bits=true∧a.l.length=0∧a.h=(zar a.h.bits).b.h
structure HoldsP (p:Proof):Prop where
  m1:1≤p.m
  m2:p.m≤20
  k1:1≤p.k
  k2:p.k≤20
  l1:p.k<p.p.length
  l2:p.p.length≤100
  fst:beginOk (yAt p 0)
  steps:∀i,1≤i→i<p.p.length→stepOk p i
theorem zpi {y z:Part} {last:Prop} [Decidable last] {d:Ab.Id}:zsa y z last d=0↔z.h.height<y.h.height∧y.h.bits=z.h.bits∧(last→y.h.height=IntKind.i64.wrap (z.h.height+1)∧y.h.prev=d):=by
  unfold zsa
  constructor
  · intro h
    have hn:¬(y.h.height≤z.h.height∨¬y.h.bits=z.h.bits∨last∧(¬y.h.height=IntKind.i64.wrap (z.h.height+1)∨¬y.h.prev=d)):=fun c=>by rw[if_pos c] at h;cases h
    refine⟨Int.not_le.1 fun c=>hn (.inl c),ua fun c=>hn (.inr (.inl c)),fun hl=>⟨ua fun c=>hn (.inr (.inr ⟨hl,.inl c⟩)),ua fun c=>hn (.inr (.inr ⟨hl,.inr c⟩))⟩⟩
  rintro ⟨h1,h2,h3⟩
  rw[if_neg]
  rintro (c|c|⟨hl,c|c⟩)
  · omega
  · exact c h2
  · exact c (h3 hl).1
  exact c (h3 hl).2
theorem linkF_zero {y:Part} {c d:Ab.Id}:zsl y c d=0↔1≤y.l.length∧y.l.length≤32∧y.l.getD 0 zId=c∧zgH y.l y.h.prev d=true∧zct y.l=y.h.links:=by
  unfold zsl
  constructor
  · intro h
    have hn:¬(y.l.length=0∨32<y.l.length∨¬y.l.getD 0 zId=c∨zgH y.l y.h.prev d=false∨¬zct y.l=y.h.links):=fun c=>by rw[if_pos c] at h;cases h
    refine⟨Nat.one_le_iff_ne_zero.2 fun e=>hn (.inl e),Nat.not_lt.1 fun e=>hn (.inr (.inl e)),ua fun e=>hn (.inr (.inr (.inl e))),?_,ua fun e=>hn (.inr (.inr (.inr (.inr e))))⟩;cases e:zgH y.l y.h.prev d
    · exact absurd (.inr (.inr (.inr (.inl e)))) hn
    rfl
  rintro ⟨h1,h2,h3,h4,h5⟩
  rw[if_neg]
  rintro (e|e|e|e|e)
  · omega
  · omega
  · exact e h3
  · rw[h4] at e;cases e
  exact e h5
theorem workF_zero {y:Part}:zrt y=0↔zat y.h=true:=by
  unfold zrt;by_cases h:zat y.h=true
  · rw[if_neg (show ¬¬zat y.h=true from fun c=>c h)];simp[h]
  rw[if_pos (show ¬zat y.h=true from h)];simp[h]
theorem zi8 {p:Proof} {ids:List Ab.Id}:∀(n i:Nat),zgj p ids n i=0↔∀j,i≤j→j<i+n→zdV three ⟨p,ids,j⟩=0
  | 0,i=>by simp[zgj];intro j h1 h2;omega
  | n+1,i=>by
    show(if zdV three ⟨p,ids,i⟩=0 then zgj p ids n (i+1) else zdV three ⟨p,ids,i⟩)=0↔_;by_cases c:zdV three ⟨p,ids,i⟩=0
    · rw[if_pos c,zi8 n (i+1)]
      constructor
      · intro h j h1 h2
        by_cases e:j=i
        · rw[e];exact c
        exact h j ya ya
      intro h j h1 h2;exact h j ya ya
    rw[if_neg c];exact⟨fun h=>absurd h c,fun h=>h i (ug _) ya⟩
theorem ids_at (p:Proof) {i:Nat} (h:i<p.p.length):(idsP p)[i]?=some (zag (yAt p i).h):=by
  unfold idsP yAt;rw[List.getElem?_map,ub h];simp[h]
theorem at_ (p:Proof) {i:Nat} (h:i<p.p.length):p.p[i]?=some (yAt p i):=by unfold yAt;rw[ub h];simp[h]
theorem zpw (p:Proof) {i:Nat} (h1:1≤i) (h:i<p.p.length):zdV three ⟨p,idsP p,(i:Int)⟩=0↔stepOk p i:=by
  rw[zlV];have e1:zkV ⟨p,idsP p,(i:Int)⟩=zsa (yAt p i) (yAt p (i-1)) ((p.p.length:Int)-p.k≤(i:Int)) (zag (yAt p (i-1)).h):=by
    unfold zkV;rw[ziU (y:=yAt p i) (at_ p h),zOf_at (y:=yAt p (i-1)) (at_ p (i:=i-1) ya),zpC (ids_at p (i:=i-1) ya)]
  have e2:zk1 ⟨p,idsP p,(i:Int)⟩=zsl (yAt p i) (zag (yAt p 0).h) (zag (yAt p (i-1)).h):=by
    unfold zk1;rw[ziU (y:=yAt p i) (at_ p h),cOf_at (ids_at p (i:=0) ya),zpC (ids_at p (i:=i-1) ya)]
  have e3:zmL ⟨p,idsP p,(i:Int)⟩=zrt (yAt p i):=by
    unfold zmL;rw[ziU (y:=yAt p i) (at_ p h)]
  rw[e1,e2,e3];unfold stepOk;generalize zsa (yAt p i) (yAt p (i-1)) ((p.p.length:Int)-p.k≤(i:Int)) (zag (yAt p (i-1)).h)=a;generalize zsl (yAt p i) (zag (yAt p 0).h) (zag (yAt p (i-1)).h)=b;by_cases ha:a=0
  · by_cases hb:b=0
    · simp[ha,hb]
    simp[ha,hb]
  simp[ha]
theorem zsT {p:Proof}:zdD p=0↔HoldsP p:=by
  have ey:p.p.getD 0 zjE=yAt p 0:=rfl;unfold zdD;rw[ey]
  constructor
  · intro h
    by_cases c1:p.m<1∨20<p.m∨p.k<1∨20<p.k
    · rw[if_pos c1] at h;cases h
    rw[if_neg c1] at h;by_cases c2:100<p.p.length∨(p.p.length:Int)≤p.k
    · rw[if_pos c2] at h;cases h
    rw[if_neg c2] at h;by_cases c3:za6 (yAt p 0).h.bits=false∨0<(yAt p 0).l.length∨¬(yAt p 0).h=(zar (yAt p 0).h.bits).b.h
    · rw[if_pos c3] at h;cases h
    rw[if_neg c3,zi8] at h;refine⟨by omega,by omega,by omega,by omega,by omega,by omega,⟨?_,by omega,ua fun e=>c3 (.inr (.inr e))⟩,fun i h1 h2=>(zpw p h1 h2).1 (h i h1 ya)⟩;cases e:za6 (yAt p 0).h.bits
    · exact absurd (.inl e) c3
    rfl
  intro h
  have:=h.m1;have:=h.m2;have:=h.k1;have:=h.k2;have:=h.l1;have:=h.l2
  rw[if_neg ya,if_neg ya,if_neg (by
    rintro (e|e|e)
    · rw[h.fst.1] at e;cases e
    · have:=h.fst.2.1;omega
    exact e h.fst.2.2),zi8]
  exact fun i h1 h2=>(zpw p h1 ya).2 (h.steps i h1 ya)
theorem HoldsP.step {p:Proof} (h:HoldsP p) {i:Nat} (h1:1≤i) (h2:i<p.p.length) :
    (yAt p (i-1)).h.height<(yAt p i).h.height∧(yAt p i).h.bits=(yAt p (i-1)).h.bits∧((p.p.length:Int)-p.k≤(i:Int)→(yAt p i).h.height=IntKind.i64.wrap ((yAt p (i-1)).h.height+1)∧(yAt p i).h.prev=zag (yAt p (i-1)).h):=zpi.1 (h.steps i h1 h2).1
theorem zsI (bits:UInt32):(zar bits).b.h.height=0:=by
  unfold zar
  split<;>rfl
theorem HoldsP.zero {p:Proof} (h:HoldsP p):(yAt p 0).h.height=0:=by rw[h.fst.2.2];exact zsI _
theorem HoldsP.rise {p:Proof} (h:HoldsP p):∀i,i<p.p.length→0≤(yAt p i).h.height
  | 0,_=>by rw[h.zero];exact Int.le_refl _
  | i+1,hi=>by
    have:=h.rise i ya
    have:=(h.step (i:=i+1) ya hi).1
    rw[Nat.add_sub_cancel] at this;omega
theorem HoldsP.bits {p:Proof} (h:HoldsP p):∀i,i<p.p.length→(yAt p i).h.bits=(yAt p 0).h.bits
  | 0,_=>rfl
  | i+1,hi=>by
    have:=(h.step (i:=i+1) ya hi).2.1
    rw[Nat.add_sub_cancel] at this;rw[this];exact h.bits i ya
theorem two_ok:Tells P 15 [] (.val (sl zH) [zcZ,zbv]):=by
 refine zc Tryz.func15 rfl rfl rfl (fun ext w hext=>?_);refine qbv ?_;refine A0 (oCl (newC_ok 545259519) rfl fn_46 yd) ?_;refine qbL ?_;refine zj (d:=7) (y:=[zcZ]) rfl easy_newOf ?_;refine A0 y5 ?_;refine A0 aV ?_;refine qag ?_;refine A0 (oCl (zcO (growC_ok [zcZ] [] 0 zrQ ⟨by decide,fun t ht=>by cases ht⟩)) rfl fn_47 ⟨yl,yb,yl,trivial⟩) ?_;refine qbL ?_;refine zj (d:=12) (y:=[zcZ,zbv]) rfl easy_grown ?_;refine A0 y5 ?_;refine A0 aV ?_;refine qag ?_;refine qad ?_;exact zb rfl rfl (za rfl (rfl))
theorem mayH_ok {h:Head} (hm:zat h=true):hOk h=true:=by
  unfold zat zK at hm;by_cases c:za6 h.bits=true∧hOk h=true
  · exact c.2
  rw[if_neg c] at hm;exact absurd hm yn
theorem zhr {l:List Block} {t:Tip} {k:Nat} {c:Block} (h:Chain l t) (hc:l[k]?=some c):c.h.height=k∧hOk c.h=true∧(k=0→c.l=[])∧(1≤k→c.h.links=zct c.l):=by
  obtain⟨hk,_⟩:=ul.1 hc;by_cases k0:k=0
  · subst k0
    obtain⟨t',h1,_⟩:=zgQ h (i:=1) (ug _) ya;have e:l.take 1=[c]:=by rw[show(1:Nat)=0+1 from rfl,un,hc];rfl
    rw[e] at h1;obtain⟨_,hb,_⟩:=zim h1;rw[hb];exact⟨rfl,rfl,fun _=>rfl,fun c=>by omega⟩
  obtain⟨g,hg⟩:∃g,l[0]?=some g:=yo;obtain⟨a,ha⟩:∃a,l[k-1]?=some a:=yo;obtain⟨s1,_,_,_,_,_,s7,s8⟩:=zb5 h ya hc ha hg;exact⟨s1,mayH_ok s8,fun c=>absurd c k0,fun _=>s7⟩
theorem zvX (n:UInt64) {k:Nat} (hk:k≤64):(zbH (IntL.toI u64T (zaN n k))).toNat=n.toNat/2^k%256:=by
  unfold zbH;show(UInt8.ofNat ((((zaN n k).toNat:Nat):Int)%256).toNat).toNat=_;rw[zfq n hk,UInt8.toNat_ofNat_of_lt' ybk];omega
theorem zj4 (n:UInt64) (s:Nat):zw n (s+1)=zbH (IntL.toI u64T (zaN n (8*s)))::zw n s:=by
  unfold zw;rw[List.range_succ_eq_map,List.map_cons,List.map_map];have e1:s+1-1-0=s:=ya;rw[e1];congr 1;apply List.map_congr_left;intro j _;show zbH (IntL.toI u64T (zaN n (8*(s+1-1-(j+1)))))=_;rw[show s+1-1-(j+1)=s-1-j by omega]
theorem zlN {n m:UInt64}:∀s:Nat,s≤8→zw n s=zw m s→n.toNat%2^(8*s)=m.toNat%2^(8*s)
  | 0,_,_=>by simp[Nat.mod_one]
  | s+1,hs,h=>by
    rw[zj4,zj4] at h;injection h with h1 h2;have ih:=zlN s ya h2;have h1:=congrArg UInt8.toNat h1;rw[zvX n ya,zvX m ya] at h1;rw[Nat.mul_add,Nat.pow_add,Nat.mod_mul,Nat.mod_mul (x:=m.toNat),ih,show 2^(8*1)=256 from rfl,h1]
theorem zf0 {n m:UInt64} (h:zw n 8=zw m 8):n=m:=by
  have h1:=zlN 8 (ug _) h;have hn:n.toNat<18446744073709551616:=n.toNat_lt;have hm:m.toNat<18446744073709551616:=m.toNat_lt;rw[show(2:Nat)^(8*8)=18446744073709551616 from rfl,Nat.mod_eq_of_lt hn,Nat.mod_eq_of_lt hm] at h1;exact UInt64.toNat_inj.1 h1
theorem zjx (a b c d:UInt64):zfH [a,b,c,d]=zw d 8++(zw c 8++(zw b 8++zw a 8)):=by rfl
theorem bytesW_inj {a b:Wide} (ha:a.length=4) (hb:b.length=4) (h:zfH a=zfH b):a=b:=by
  match a,ha with
  | [a0,a1,a2,a3],_=>match b,hb with
    | [b0,b1,b2,b3],_ =>
      rw[zjx,zjx] at h;obtain⟨h3,h⟩:=List.append_inj h (by rw[zP,zP]);obtain⟨h2,h⟩:=List.append_inj h (by rw[zP,zP]);obtain⟨h1,h0⟩:=List.append_inj h (by rw[zP,zP]);rw[zf0 h0,zf0 h1,zf0 h2,zf0 h3]
def HW (h:Head):Prop:=h.prev.length=32∧h.links.length=32∧h.txs.length=32∧h.past.length=32∧h.work.length=4
theorem zgw {n:Int} (h0:0≤n) (h1:n<4294967296):(zac n).toNat=n.toNat:=by
  unfold zac;rw[UInt64.toNat_ofNat_of_lt' yY];omega
theorem hOk_iff {h:Head}:hOk h=true↔0≤h.height∧h.height≤1048576:=by unfold hOk;rw[uj]
theorem zny (h:Head):-1≤zK h∧zK h≤31:=by
  unfold zK
  split
  · split
    · exact⟨by omega,by omega⟩
    have:=zjP (f:=zsn (ziS (zag h)) (tgtW h.bits)) 0 32 yn
    unfold levelW;exact⟨by omega,by omega⟩
  exact⟨by omega,by omega⟩
theorem mayH_level {h:Head} (hm:zat h=true):0≤zK h:=by
  have:=(zny h).1
  unfold zat at hm;rw[Bool.not_eq_true',decide_eq_false_iff_not] at hm;omega
theorem lvl_at {l:List Block} {k:Nat} {b:Block} (hb:l[k]?=some b):(zk l)[k]?=some (zK b.h):=by unfold zk;rw[List.getElem?_map,hb];rfl
theorem zob {l:List Block} {t:Tip} {k:Nat} {b:Block} (h:Chain l t) (hb:l[k]?=some b):0≤zK b.h∧(k=0→zK b.h=31):=by
  obtain⟨hk,_⟩:=ul.1 hb;by_cases k0:k=0
  · subst k0
    obtain⟨t',h1,_⟩:=zgQ h (i:=1) (ug _) ya;have e:l.take 1=[b]:=by rw[show(1:Nat)=0+1 from rfl,un,hb];rfl
    rw[e] at h1;obtain⟨ht,hb,_⟩:=zim h1;have e2:zK b.h=31:=by
      rw[hb];unfold zK;rw[if_pos ⟨ht,rfl⟩];rfl
    exact⟨by omega,fun _=>e2⟩
  obtain⟨g,hg⟩:∃g,l[0]?=some g:=yo;obtain⟨a,ha⟩:∃a,l[k-1]?=some a:=yo;exact⟨mayH_level (zb5 h ya hb ha hg).2.2.2.2.2.2.2,fun c=>absurd c k0⟩
theorem zlj {l:List Block} {t:Tip} (h:Chain l t):mayV (zk l)=true:=by
  have hlen:=(zch h).2.2.1;have hpos:0<l.length:=List.length_pos_iff.2 (zkv (congrArg (·.2) h));obtain⟨g,hg⟩:∃g,l[0]?=some g:=⟨_,ub hpos⟩;have hl:(zk l).length=l.length:=zca l;unfold mayV;rw[uk,uj,Bool.not_eq_true',List.any_eq_false];refine⟨⟨by omega,by omega,?_⟩,fun n hn=>?_⟩
  · rw[lvl_at hg,(zob h hg).2 rfl]
  unfold zk at hn;obtain⟨b,hb,rfl⟩:=List.mem_map.1 hn;obtain⟨k,hk⟩:=List.getElem?_of_mem hb;have h1:=(zob h hk).1;have h2:=(zny b.h).2;rw[uj];omega
theorem zpF {v:List Int} {m k:Int}:∀i:Nat,∀n,n≤i→∀x∈(zaG v m k n).2,x∈(zaG v m k i).2
  | 0,n,hn,x,hx=>by rw[show n=0 by omega] at hx;exact hx
  | i+1,n,hn,x,hx=>by
    by_cases e:n=i+1
    · rw[e] at hx;exact hx
    have:=zpF i n ya x hx
    show x∈List.foldl zcU _ _;rw[zfB];exact .inl this
theorem climb_zero {v:List Int} {m k:Int} (h:mayP v m k=true):(0:Int)∈(zaG v m k 32).2:=by
  refine zpF 32 1 ya 0 ?_;show(0:Int)∈List.foldl zcU _ _;rw[zfB];refine .inr (zpo.2 ⟨0,rfl,Int.le_refl _,?_,?_,?_⟩)
  · have:=zf2 h;omega
  · have:=zf2 h;omega
  have h0:=(zj9 (zgG h).1).2.2.1;simp[h0]
theorem ztv {l:List Int} (h:l.Nodup):(zaM l).Pairwise (· < ·):=by
  have h1:=zg8 l;have h2:(zaM l).Nodup:=(List.mergeSort_perm l _).symm.nodup h;exact(h1.and h2).imp fun h=>by have:=h.1;have:=h.2;omega
theorem zjV (v:List Int) (m k:Int):(zai v m k).1.Pairwise (· < ·):=by
  unfold zai
  split
  · rename_i c;exact ztv (zks c 32 (ug _)).2.1
  exact List.Pairwise.nil
theorem ztF {v:List Int} {m k:Int} (h:mayP v m k=true):(0:Int)∈(zai v m k).1:=by
  unfold zai;rw[if_pos h];exact zmm.2 (climb_zero h)
theorem zfZ {L M:List Int} (hL:L.Pairwise (· < ·)) (hM:M.Pairwise (· < ·)) (hsub:∀x∈M,x∈L):M.length≤L.length:=by
  induction L generalizing M with
  | nil =>
    match M with
    | []=>exact ug _
    | x::_=>exact absurd (hsub x (List.mem_cons_self ..)) yB
  | cons a L ih =>
    rw[List.pairwise_cons] at hL;have hf:(M.filter fun x=>decide (x≠a)).length≤L.length:=ih hL.2 (hM.sublist List.filter_sublist) (fun x hx=>by
      rw[List.mem_filter] at hx;have h1:=hsub x hx.1;have h2:=of_decide_eq_true hx.2;exact(List.mem_cons.1 h1).resolve_left h2)
    have h1:(M.filter fun x=>!decide (x≠a)).length≤1:=by
      have hs:=hM.sublist (List.filter_sublist (p:=fun x=>!decide (x≠a)))
      match he:M.filter (fun x=>!decide (x≠a)) with
      | []=>simp
      | [_]=>simp
      | b::c::r =>
        rw[he,List.pairwise_cons] at hs;have hb:b∈M.filter (fun x=>!decide (x≠a)):=by rw[he];simp
        have hc:c∈M.filter (fun x=>!decide (x≠a)):=by rw[he];simp
        simp only[List.mem_filter,Bool.not_eq_true',decide_eq_false_iff_not,Decidable.not_not] at hb hc
        have:=hs.1 c yB
        omega
    have:=zlb (fun x=>decide (x≠a)) M
    rw[List.length_cons];omega
theorem zc9 {L:List Int} (hL:L.Pairwise (· < ·)) {i j:Nat} {x y:Int} (hi:L[i]?=some x) (hj:L[j]?=some y):x<y↔i<j:=by
  obtain⟨h1,e1⟩:=ul.1 hi;obtain⟨h2,e2⟩:=ul.1 hj;have hp:=List.pairwise_iff_getElem.1 hL
  constructor
  · intro h
    rcases Nat.lt_trichotomy i j with c|c|c
    · exact c
    · subst c;omega
    have:=hp j i h2 h1 c;omega
  intro h
  have:=hp i j h1 h2 h;omega
structure BuildOk (l:List Block) (m k:Int):Prop where
  c:(zM l).2=0
  m1:1≤m
  m2:m≤20
  k1:1≤k
  k2:k≤20
  kl:k<l.length
theorem zht {l:List Block} {m k:Int} (h:prE l m k=0):BuildOk l m k:=by
  unfold prE at h;by_cases hc:(zM l).2=0
  · rw[if_neg (fun q=>q hc)] at h
    by_cases q:m<1∨20<m∨k<1∨20<k∨(l.length:Int)≤k
    · rw[if_pos q] at h;cases h
    exact⟨hc,by omega,by omega,by omega,by omega,by omega⟩
  rw[if_pos hc] at h;exact absurd h hc
section
variable {l:List Block} {m k:Int}
theorem zsZ (h:BuildOk l m k):mayP (zk l) m k=true:=by
  have h1:=h.m1;have h2:=h.k1;have h3:=h.kl;unfold mayP;rw[zlj (ze6 h.c),ui (by rw[zca];omega)];rfl
theorem zvY {l:List Block} {m k:Int} (h:prE l m k=0):prOf l m k=⟨m,k,(zy l m k).map (zaQ l)⟩:=by unfold prOf;rw[if_pos h]
theorem zlP (l:List Block) (k:Int):((List.range k.toNat).map fun j:Nat=>(l.length:Int)-k+(j:Int)).Pairwise (· < ·):=by
  rw[List.pairwise_map];exact(List.pairwise_lt_range ..).imp fun h=>by omega
theorem ze0 (h:BuildOk l m k):(zy l m k).Pairwise (· < ·):=by
  have hl:=zca l;unfold zy;rw[List.pairwise_append];refine⟨zjV ..,zlP ..,fun a ha b hb=>?_⟩;have h1:=(zkW ha).2;obtain⟨j,_,rfl⟩:=List.mem_map.1 hb;rw[hl] at h1;omega
theorem places_at (h:BuildOk l m k) {i:Nat} {x:Int} (hx:(zy l m k)[i]?=some x) :
    (0≤x∧x<l.length)∧((i<(zai (zk l) m k).1.length∧(zai (zk l) m k).1[i]?=some x)∨((zai (zk l) m k).1.length≤i∧(l.length:Int)-k≤x)):=by
  refine⟨zcl ⟨h.k1,h.kl⟩ (ud hx),?_⟩;unfold zy at hx;by_cases c:i<(zai (zk l) m k).1.length
  · rw[List.getElem?_append_left c] at hx
    exact .inl ⟨c,hx⟩
  rw[List.getElem?_append_right ya] at hx;obtain⟨j,_,rfl⟩:=List.mem_map.1 (ud hx);exact .inr ⟨by omega,by omega⟩
theorem places_len (h:BuildOk l m k):(zy l m k).length=(zai (zk l) m k).1.length+k.toNat:=by unfold zy;simp
theorem zlL (h:BuildOk l m k):(zy l m k)[0]?=some 0:=by
  have h0:=ztF (zsZ h);have hs:=zjV (zk l) m k;unfold zy
  match hp:(zai (zk l) m k).1 with
  | []=>rw[hp] at h0;cases h0
  | a::r =>
    rw[hp] at h0 hs;have ha:=(zkW (v:=zk l) (m:=m) (k:=k) (x:=a) (by rw[hp];exact List.mem_cons_self ..)).1;rcases List.mem_cons.1 h0 with e|e
    · rw[←e];rfl
    have:=(List.pairwise_cons.1 hs).1 0 e
    omega
theorem ztJ (h:BuildOk l m k):(zy l m k)[(zy l m k).length-1]?=some ((l.length:Int)-1):=by
  have h1:=h.k1;rw[places_len h];unfold zy;rw[List.getElem?_append_right ya,List.getElem?_map,List.getElem?_range ya];simp only[Option.map_some,Option.some.injEq];omega
theorem zqo (h:BuildOk l m k) {i:Nat} {x:Int} (hx:(zy l m k)[i]?=some x) :
    ∃b:Block,l[x.toNat]?=some b∧b.h.height=x∧((zy l m k).map (zaQ l))[i]?=some ⟨b.h,b.l⟩:=by
  have hr:=(places_at h hx).1;obtain⟨b,hb⟩:∃b,l[x.toNat]?=some b:=yo;refine⟨b,hb,?_,?_⟩
  · have:=(zhr (ze6 h.c) hb).1
    omega
  rw[List.getElem?_map,hx];have e:l.getD x.toNat default=b:=by rw[uq,hb];rfl
  show some (zaQ l x)=_;unfold zaQ;rw[e]
theorem zpQ (n:Nat):((List.range n).map fun j:Nat=>(j:Int)).Pairwise (· < ·):=by
  rw[List.pairwise_map];exact(List.pairwise_lt_range ..).imp fun h=>by omega
end
set_option maxRecDepth 20000
theorem zjL {α:Type} {p:List α→Prop} (h0:p []) (h1:∀l x,p l→p (l++[x])):∀l,p l:=fun l=>by
  have:∀r:List α,p r.reverse:=fun r=>by
    induction r with
    | nil=>exact h0
    | cons x r ih=>rw[List.reverse_cons];exact h1 _ _ ih
  have:=this l.reverse
  rwa [List.reverse_reverse] at this
theorem i64_sub (x y:Int):decide (x<y)=decide (x-y<0):=by rw[uo];omega
def cstep (out:List Int) (x:Int):List Int:=if out.getLast?=some x then out else out++[x]
def zG (l:List Int):List Int:=l.foldl cstep []
theorem zeF (l:List Int) (x:Int):zG (l++[x])=cstep (zG l) x:=by unfold zG;rw[List.foldl_append];rfl
theorem zsN {l:List Int} {k:Nat} {x:Int} (h:l[k]?=some x):zG (l.take (k+1))=cstep (zG (l.take k)) x:=by
  rw[un,h];exact zeF _ x
theorem zlW:∀l:List Int,(zG l).getLast?=l.getLast?:=fun l=>by
  refine zjL (p:=fun l=>(zG l).getLast?=l.getLast?) rfl (fun l x ih=>?_) l
  · show(zG (l++[x])).getLast?=(l++[x]).getLast?
    rw[zeF];unfold cstep
    split
    · rename_i c;rw[c];simp
    simp
theorem zju (l:List Int):(zG l).length≤l.length:=by
  refine zjL (p:=fun l=>(zG l).length≤l.length) (ug _) (fun l x ih=>?_) l
  · show(zG (l++[x])).length≤(l++[x]).length
    rw[zeF];unfold cstep
    split<;>simp<;>omega
theorem last_take {l:List Int} {k:Nat} {x:Int} (h:l[k]?=some x):(l.take (k+1)).getLast?=some x:=by
  rw[un,h];simp
theorem zfh {l:List Int} {k:Nat} {x y:Int} (hx:l[k]?=some x) (hy:l[k+1]?=some y):zG (l.take (k+2))=if x=y then zG (l.take (k+1)) else zG (l.take (k+1))++[y]:=by
  rw[zsN (k:=k+1) hy];unfold cstep;rw[zlW,last_take hx];simp only[Option.some.injEq]
def swpI {α:Type} [Inhabited α] (l:List α) (k:Nat):List α:=(List.range l.length).map fun j=>if j<k∨l.length-k≤j then l.getD (l.length-1-j) default else l.getD j default
theorem zg5 {α:Type} [Inhabited α] {l:List α} {k:Nat}:(swpI l k).length=l.length:=by unfold swpI;simp
theorem zkQ {α:Type} [Inhabited α] {l:List α} {k j:Nat} (h:j<l.length):(swpI l k)[j]?=some (if j<k∨l.length-k≤j then l.getD (l.length-1-j) default else l.getD j default):=by
  unfold swpI;rw[List.getElem?_map,List.getElem?_range h];rfl
theorem swpI_zero {α:Type} [Inhabited α] {l:List α}:swpI l 0=l:=by
  apply List.ext_getElem?;intro j;by_cases h:j<l.length
  · rw[zkQ h,if_neg ya,uq,ub h];rfl
  rw[List.getElem?_eq_none (by rw[zg5];omega),List.getElem?_eq_none ya]
theorem swpI_step {α:Type} [Inhabited α] {l:List α} {k:Nat} {x y:α} (hk:2*(k+1)≤l.length) (hx:(swpI l k)[k]?=some x) (hy:(swpI l k)[l.length-1-k]?=some y):((swpI l k).set k y).set (l.length-1-k) x=swpI l (k+1):=by
  rw[zkQ ya,if_neg ya] at hx;rw[zkQ ya,if_neg ya] at hy;injection hx with hx;injection hy with hy;apply List.ext_getElem?;intro j;by_cases h:j<l.length
  · rw[zkQ h,List.getElem?_set]
    by_cases c:l.length-1-k=j
    · rw[if_pos c,if_pos (by rw[List.length_set,zg5];omega),if_pos ya,←hx]
      congr 2;omega
    rw[if_neg c,List.getElem?_set];by_cases d:k=j
    · rw[if_pos d,if_pos (by rw[zg5];omega),if_pos ya,←hy]
      congr 2;omega
    rw[if_neg d,zkQ h];by_cases e:j<k∨l.length-k≤j
    · rw[if_pos e,if_pos ya]
    rw[if_neg e,if_neg ya]
  rw[List.getElem?_eq_none (by rw[List.length_set,List.length_set,zg5];omega),List.getElem?_eq_none (by rw[zg5];omega)]
theorem swpI_end {α:Type} [Inhabited α] {l:List α} {k:Nat} (h1:2*k≤l.length) (h2:¬(k:Int)<(l.length:Int)-1-k):swpI l k=l.reverse:=by
  apply List.ext_getElem?;intro j;by_cases h:j<l.length
  · rw[zkQ h,List.getElem?_reverse h,ub ya]
    congr 1
    split
    · rw[uq,ub ya];rfl
    have e:j=l.length-1-j:=ya;rw[uq,ub ya];show l[j]=_;congr 1
  rw[List.getElem?_eq_none (by rw[zg5];omega),List.getElem?_eq_none (by rw[List.length_reverse];omega)]
def Fresh (l:List Int) (k:Nat):Prop:=zG (l.take k)=l.take k
theorem fresh_one (l:List Int) (h:1≤l.length):Fresh l 1:=by
  cases l with
  | nil=>simp at h
  | cons x l=>rfl
theorem fresh_go {l:List Int} {k:Nat} {x y:Int} (h:Fresh l (k+1)) (hx:l[k]?=some x) (hy:l[k+1]?=some y) (hn:¬y=x):Fresh l (k+2):=by
  unfold Fresh at h ⊢;rw[zfh hx hy,if_neg (fun e=>hn e.symm),h];have e:l.take (k+1+1)=l.take (k+1)++(l[k+1]?).toList:=un;rw[hy] at e;exact e.symm
theorem fresh_dup {l:List Int} {k:Nat} {x y:Int} (h:Fresh l (k+1)) (hx:l[k]?=some x) (hy:l[k+1]?=some y) (hn:y=x):zG (l.take (k+2))=l.take (k+1):=by
  rw[zfh hx hy,if_pos hn.symm,h]
def zgE (l:List Int) (i:Nat):List Int:=zG (l.take i)++l.drop (zG (l.take i)).length
theorem rowAt_len {l:List Int} {i:Nat} (h:i≤l.length):(zgE l i).length=l.length:=by
  unfold zgE
  have:=zju (l.take i)
  rw[um] at this;rw[ue,List.length_drop];omega
theorem zr3 {l:List Int} {i j:Nat} (h:(zG (l.take i)).length≤j):(zgE l i)[j]?=l[j]?:=by
  unfold zgE;rw[List.getElem?_append_right h,List.getElem?_drop];congr 1;omega
theorem rowAt_same {l:List Int} {i:Nat} {x y:Int} (hx:l[i]?=some x) (hy:l[i+1]?=some y) (h:x=y):zgE l (i+2)=zgE l (i+1):=by
  unfold zgE;rw[zfh hx hy,if_pos h]
theorem set_app {α:Type} (a b:List α) (y:α) (h:0<b.length):(a++b).set a.length y=a++[y]++b.drop 1:=by
  cases b with
  | nil=>simp at h
  | cons z b=>rw[List.set_append_right _ _ (ug _),Nat.sub_self];simp
theorem rowAt_new {l:List Int} {i:Nat} {x y:Int} (hx:l[i]?=some x) (hy:l[i+1]?=some y) (h:¬x=y) (hc:(zG (l.take (i+1))).length<l.length):(zgE l (i+1)).set (zG (l.take (i+1))).length y=zgE l (i+2):=by
  unfold zgE;rw[zfh hx hy,if_neg h,set_app _ _ _ yaU,List.drop_drop,ue];rfl
theorem ztA {l:List Int} {k:Nat} (h:zG (l.take (k+2))=l.take (k+1)) (hk:k+1≤l.length):zgE l (k+2)=l:=by
  unfold zgE;rw[h,um,Nat.min_eq_left hk,List.take_append_drop]
theorem zqY {l:List Int} (h:l.length<2):zG l=l:=by
  match l,h with
  | [],_=>rfl
  | [x],_=>rfl
theorem sNaN_ok (x:Int):Tells P 80 [.val i64T x] (.val zn false):=by
 refine zc Tryz.func80 rfl rfl rfl (fun ext w hext=>?_);refine zf (d:=0) rfl zt (fun hin0=>?_);refine qbV ?_;refine qaw ?_;refine A0 ze1 ?_;refine qad ?_;exact zb rfl rfl (zcA (by simp[Fr.set]))
theorem lessInt_ok (x y:Int):Tells P 79 [.val i64T x,.val i64T y] (.val zn (decide (x<y))):=by
 refine zc Tryz.func79 rfl rfl rfl (fun ext w hext=>?_);refine zf (d:=0) rfl zt (fun hin0=>?_);refine zf (d:=1) rfl zt (fun hin1=>?_);refine qbV ?_;refine A0 (oCl (zqE x) rfl fn_131 yd) ?_;refine qaw ?_;refine zed (d:=7) rfl (rfl) ?_;refine qac ?_;refine qbP ?_;refine A1 mV ?_;refine A1 zbu ?_;refine qaD ?_;exact zb rfl rfl (za rfl (rfl))
theorem growInt (n:Nat) (hn:n≤1000000000):Tells P 183 [.lit (.slice none 0 0),.val i64T (n:Int)] (.fresh 3 i64T []):=by
 refine zc Tryz.func183 rfl rfl rfl (fun ext w hext=>?_);refine zf (d:=1) rfl zt (fun hin1=>?_);refine qap ?_;refine qaN ?_;refine qaT ?_;refine zgs rfl (uh (by show ¬((n:Int)<0);omega)) ?_;refine qb2 ?_;refine A0 mL ?_;refine A0 (zgL rfl rfl zdz) ?_;refine A0 mL ?_;refine A0 yat ?_;refine A0 zbh ?_;refine A0 zbh ?_;refine qag ?_;refine qcs ?_;refine zo (p:=0<n) rfl yaJ (fun ht16=>?_) (fun ht16=>?_)
 ·
  refine CR ?_;refine A0 mL ?_;refine A0 mL ?_;refine A0 (zgL rfl rfl zdz) ?_;refine A0 (by first|exact zer rfl rfl rfl yah zcv|exact zi1 rfl rfl rfl zcv yh) ?_;refine qaw ?_;refine zlr (T:=i64T) (n:=n) rfl rfl rfl rfl rfl rfl yah ziX ze_3 (ui_3) (⟨by assumption,by omega,by omega⟩) ?_;refine A0 mL ?_;refine A0 yat ?_;refine A0 (znJ (q:=0) rfl rfl rfl rfl zcv ym yh) ?_;refine A0 aS ?_;refine CNQR ?_;refine A0 mS ?_;refine A0 aS ?_;refine CN ?_;exact zb rfl rfl (zje rfl rfl yA rfl)
 refine CSQR ?_;refine A0 mL ?_;refine A0 aL ?_;refine CN ?_;exact zb rfl rfl (zm rfl)
theorem concatInt (ls:List (List Int)) (hl:ls.flatten.length≤1000000000):Tells P 135 [.val (bsl (bsl i64T)) ls] (.fresh 3 i64T ls.flatten):=by
 refine zc Tryz.func135 rfl rfl rfl (fun ext w hext=>?_);refine zf (d:=0) rfl zl (fun hsl0=>?_);refine qbv ?_;refine qam ?_;refine A0 (zO rfl rfl isl_284) ?_;refine qa0 ?_;refine Lp (ι:=Nat) 0 (fun (k:Nat)=>(((((Fr.none).set 0 (.val (bsl (bsl i64T)) ls)).set 3 (.val i64T ((ls.take k).flatten.length:Int))).set 9 (.val (bsl (bsl i64T)) ls)).set 10 (.val i64T (ls.length:Int))).set 11 (.val i64T (k:Int))) (fun (k:Nat)=>Hp.none) (fun (k:Nat)=>k≤ls.length) (fun (k:Nat)=>ls.length-k) (0) (uf _) ?_;intro k hinv;refine qal ?_;refine Cf (p:=k<ls.length) (fun ht12=>?_) (fun ht12=>?_)
 ·
  obtain⟨x,hx⟩:∃x,ls[k]?=some x:=⟨_,ub ht12⟩;have hle:=zdC ls (k+1);rw[zaE hx,ue] at hle;refine CSQBQR ?_;refine A0 (zbM rfl rfl rfl sl_284 yj) ?_;refine A0 (ze rfl rfl zeX) ?_;refine qaR ?_;refine qaw ?_;refine A0 mX ?_;refine A0 yat ?_;refine A0 zdo ?_;refine qag ?_;refine qaT ?_;refine zgs rfl (uh ybb) ?_;refine qaU ?_;refine zj (d:=3) (y:=((ls.take (k+1)).flatten.length:Int)) rfl (by rw[zaE hx,ue];omega) ?_;exact Nx (k+1) ya ya
 refine zj (d:=3) (y:=((ls.flatten.length:Nat):Int)) rfl yN ?_;refine CE ?_;refine qa6 ?_;refine zaT (growInt ls.flatten.length hl) rfl fn_183 ybB rfl rfl rfl ?_;refine A0 aO ?_;refine qaN ?_;refine A0 (zO rfl rfl isl_284) ?_;refine qa0 ?_;refine Lp (ι:=Nat) 1 (fun k=>(((Fr.none.set 6 (.own 0)).set 25 (.val (bsl (bsl i64T)) ls)).set 26 (.val i64T (ls.length:Int))).set 27 (.val i64T (k:Int))) (fun k=>Hp.none.set 0 (.row 3 i64T (ls.take k).flatten)) (fun k=>k≤ls.length) (fun k=>ls.length-k) (0) (uf _) ?_;intro k hinv;refine qal ?_;refine Cf (p:=k<ls.length) (fun ht28=>?_) (fun ht28=>?_)
 ·
  obtain⟨x,hx⟩:∃x,ls[k]?=some x:=⟨_,ub ht28⟩;have hle:=zdC ls (k+1);rw[zaE hx,ue] at hle;refine CSQBQR ?_;refine A0 (zbM rfl rfl rfl sl_284 yj) ?_;refine A0 (ze rfl rfl zeX) ?_;refine A0 aX ?_;refine CNR ?_;refine A0 mO ?_;refine A0 mX ?_;refine zN rfl rfl rfl rfl rfl rfl rfl ziX ya ?_;refine A0 aO ?_;refine qaV ?_;refine xk ?_;refine zz (n:=0) rfl (zaE hx).symm ?_;exact Nx (k+1) ya ya
 refine qa3 ?_;exact zb rfl rfl (zh rfl rfl yN)
theorem revInt (l:List Int) (hl:l.length≤1000000000000):zee P 83 (.row 3 i64T l) [.own 0] (.lit (.tuple #[])) (.row 3 i64T l.reverse):=by
 refine zeD trivial Tryz.func83 rfl rfl ⟨Nat.one_pos,trivial⟩ (fun ext pg w hext hgr=>?_);refine zgT (n:=0) rfl (fun hrl=>?_);refine qb3 ?_;refine A0 (zaV rfl rfl rfl zdz) ?_;refine A0 zbh ?_;refine A0 aV ?_;refine A0 aV ?_;refine CNB ?_;refine zz (n:=0) (y:=swpI l 0) rfl swpI_zero.symm ?_;refine zj (d:=3) (y:=(l.length:Int)-1-((0:Nat):Int)) rfl ya ?_;refine Lp (ι:=Nat) 1 (fun (k:Nat)=>(((Fr.none).set 0 (.own 0)).set 2 (.val i64T (k:Int))).set 3 (.val i64T ((l.length:Int)-1-k))) (fun (k:Nat)=>(Hp.none).set 0 (.row 3 i64T (swpI l k))) (fun (k:Nat)=>2*k≤l.length) (fun (k:Nat)=>l.length-k) (0) (uf _) ?_;intro k hinv;refine CQQR ?_;refine qaq ?_;refine qaT ?_;refine Cf (p:=(k:Int)<(l.length:Int)-1-k) (fun ht9=>?_) (fun ht9=>?_)
 ·
  have hsl:=zg5 (l:=l) (k:=k);obtain⟨x,hx⟩:∃x,(swpI l k)[k]?=some x:=yo;obtain⟨y,hy⟩:∃y,(swpI l k)[l.length-1-k]?=some y:=yo;have hsl2:((swpI l k).set k y).length=l.length:=by rw[List.length_set,hsl]
  have hy2:((swpI l k).set k y)[l.length-1-k]?=some y:=by rw[List.getElem?_set_ne ya];exact hy
  refine CS ?_;refine CQ ?_;refine CB ?_;refine zC [some 1,some 1,some 1000001,some 1000001,some 1,some 1,some 1,some 1,some 1,some 1,some 1,some 1,some 1,none,some 1,none] mixed yc ?_;refine qcf ?_;refine XK.ga (fun _=>g_mo (.inl rfl) rfl) rfl rfl rfl ?_;refine XK.ga (fun _=>g_mv (.inl rfl) rfl) rfl rfl rfl ?_;refine qcf ?_;refine X0 (zdc (i:=l.length-1-k) rfl rfl rfl rfl ym zcv yh) ?_;refine X0 (zbR rfl rfl rfl rfl yj (Lens.self _) ty_3) ?_;refine qcf ?_;refine X0 (zdc (i:=k) rfl rfl rfl rfl ym zcv yh) ?_;refine X0 (zbR rfl rfl rfl rfl yj (Lens.self _) ty_3) ?_;refine X0 (zdc (i:=k) rfl rfl rfl rfl ym zcv yh) ?_;refine XK.e (x:=.idk) (fun fr' hfr kk H=>by exact zdF rfl rfl rfl ((hfr 26 yc).trans rfl) rfl rfl yj (Lens.self _) ty_3 ((hfr 21 yc).trans rfl) (zr H)) ?_;refine X0 (zdc (i:=l.length-1-k) rfl rfl rfl rfl ym zcv yh) ?_;refine XK.e (x:=.idk) (fun fr' hfr kk H=>by exact zdF rfl rfl rfl ((hfr 27 yc).trans rfl) rfl rfl yj (Lens.self _) ty_3 ((hfr 25 yc).trans rfl) (zr H)) ?_;refine XK.nil' ?_;refine CI ?_;refine CR ?_;refine qaW ?_;refine qbI ?_;refine qbu ?_;refine zz (n:=0) (y:=swpI l (k+1)) rfl (swpI_step ya hx hy) ?_;refine zj (d:=3) (y:=(l.length:Int)-1-((k+1:Nat):Int)) rfl ya ?_;exact Nx (k+1) ya ya
 refine CE ?_;exact zoh rfl rfl rfl rfl rfl (zvs rfl (swpI_end hinv ht9))
theorem bsInt_ok (l:List Int) (y:Int) (hl:l.length<4611686018427387904):Tells P 35 [.val (bsl i64T) l,.val i64T y] (.tup2 (.val i64T (halves (fun x=>x-y) l 0 l.length:Nat)) (.val zn (zeP (fun x=>x-y) l (halves (fun x=>x-y) l 0 l.length)))):=by
 refine zc Tryz.func35 rfl rfl rfl (fun ext w hext=>?_);refine zf (d:=0) rfl zl (fun hsl0=>?_);refine zf (d:=1) rfl zt (fun hin1=>?_);refine CQR ?_;refine A0 aV ?_;refine qag ?_;refine qcp ?_;refine qag ?_;refine A0 aV ?_;refine qaA ?_;refine CB ?_;refine Lp (ι:=Nat×Nat) 0 (fun (i:Nat×Nat)=>match i with|(lo,hi)=>(((((Fr.none).set 0 (.val (bsl i64T) l)).set 1 (.val i64T y)).set 6 (.val i64T (l.length:Int))).set 7 (.val i64T (lo:Int))).set 8 (.val i64T (hi:Int))) (fun (i:Nat×Nat)=>match i with|(lo,hi)=>Hp.none) (fun (i:Nat×Nat)=>match i with|(lo,hi)=>lo≤hi∧hi≤l.length∧halves (fun x=>x-y) l 0 l.length=halves (fun x=>x-y) l lo hi) (fun (i:Nat×Nat)=>match i with|(lo,hi)=>hi-lo) ((0,l.length)) (⟨uf _,ug _,rfl⟩) ?_;intro⟨lo,hi⟩ hinv;dsimp only at hinv;refine CQQR ?_;refine qaq ?_;refine qaT ?_;refine Cf (p:=lo<hi) (fun ht15=>?_) (fun ht15=>?_)
 ·
  obtain⟨x,hx⟩:∃x,l[(lo+hi)/2]?=some x:=yo;refine CS ?_;refine CB ?_;refine CQR ?_;refine qaq ?_;refine A0 zdo ?_;refine qcm ?_;refine xi ?_;refine A0 (zmh rfl (ui_3) (zuB) rfl (mid_eq ya)) ?_;refine qag ?_;refine qaw ?_;refine A0 (zR (i:=(lo+hi)/2) rfl rfl rfl ya zcv yj) ?_;refine xh ?_;refine qaw ?_;refine A0 (oCl (lessInt_ok x y) rfl fn_79 ybB) ?_;refine CN ?_;refine zo (p:=x-y<0) rfl ((i64_sub _ _)) (fun ht27=>?_) (fun ht27=>?_)
  ·
   refine CR ?_;refine qaW ?_;refine qad ?_;refine CI ?_;exact Nx (((lo+hi)/2+1,hi)) yaD yap
  refine CR ?_;refine qaw ?_;refine qad ?_;refine CI ?_;exact Nx ((lo,(lo+hi)/2)) yaD yap
 refine CE ?_;refine CQR ?_;refine qaq ?_;refine qaw ?_;refine A0 zbu ?_;refine Sp (d:=34) (p:=lo<l.length) (fun g34=>?_) (fun g34=>?_)
 ·
  obtain⟨x,hx⟩:∃x,l[lo]?=some x:=⟨_,ub g34⟩;refine qaw ?_;refine A1 mV ?_;refine A1 mV ?_;refine A1 (zR (i:=lo) rfl rfl rfl ya zcv yj) ?_;refine A1 (ze rfl rfl ty_3) ?_;refine A1 mV ?_;refine A1 zcw ?_;refine Sp (d:=41) (p:=x=y) (fun g41=>?_) (fun g41=>?_)
  ·
   refine A1 mV ?_;refine qac ?_;refine qac ?_;refine A3 ?_;refine A3 ?_;refine A2 ?_;refine A1 oK ?_;refine A0 oK ?_;refine qbu ?_;exact zU rfl rfl (za rfl yas) (za rfl (by rw[hinv.2.2,show hi=lo by omega,zbW];unfold zeP;rw[hx];symm;exact ui (show x-y=0 by omega)))
  refine A1 mV ?_;refine A1 mV ?_;refine A1 mV ?_;refine A1 (zR (i:=lo) rfl rfl rfl ya zcv yj) ?_;refine A1 (ze rfl rfl ty_3) ?_;refine A1 (oCl (sNaN_ok x) rfl fn_80 ybz) ?_;refine zed (d:=47) rfl (rfl) ?_;refine A1 mV ?_;refine A2 ?_;refine A2 ?_;refine A1 oK ?_;refine A1 oK ?_;refine A0 oK ?_;refine qbu ?_;exact zU rfl rfl (za rfl yas) (za rfl (by rw[hinv.2.2,show hi=lo by omega,zbW];unfold zeP;rw[hx];symm;exact uh (show ¬x-y=0 by omega)))
 refine qaw ?_;refine qac ?_;refine qbA ?_;refine qbd ?_;refine qbd ?_;refine qbd ?_;refine A2 ?_;refine A0 oK ?_;refine qbu ?_;exact zU rfl rfl (za rfl yas) (za rfl (by rw[hinv.2.2,show hi=lo by omega,zbW];unfold zeP;rw[List.getElem?_eq_none ya]))
theorem compactInt (l:List Int) (hl:l.length≤1000000000):zee P 137 (.row 3 i64T l) [.own 0] (.fresh 3 i64T (zG l)) (.none_):=by
 refine zeD trivial Tryz.func137 rfl rfl ⟨Nat.one_pos,trivial⟩ (fun ext pg w hext hgr=>?_);refine zgT (n:=0) rfl (fun hrl=>?_);refine qap ?_;refine CNQQR ?_;refine A0 mO ?_;refine A0 (zaV rfl rfl rfl zdz) ?_;refine qaT ?_;refine Cf (p:=l.length<2) (fun ht8=>?_) (fun ht8=>?_)
 ·
  refine qb3 ?_;refine qbm ?_;exact zdk rfl rfl rfl rfl rfl zcF (zkT zcF (fun h=>h.elim) rfl rfl (zqY ht8).symm)
 refine CSQQR ?_;refine A0 aV ?_;refine CNB ?_;refine Lp (ι:=Nat) 1 (fun (k:Nat)=>((Fr.none).set 0 (.own 0)).set 3 (.val i64T ((k:Int)+1))) (fun (k:Nat)=>(Hp.none).set 0 (.row 3 i64T l)) (fun (k:Nat)=>k+1≤l.length∧Fresh l (k+1)) (fun (k:Nat)=>l.length-k) (0) (⟨by omega,fresh_one l ya⟩) ?_;intro k hinv;refine qb5 ?_;refine A0 mO ?_;refine A0 (zaV rfl rfl rfl zdz) ?_;refine qaT ?_;refine Cf (p:=k+1<l.length) (fun ht13=>?_) (fun ht13=>?_)
 ·
  obtain⟨x,hx⟩:∃x,l[k]?=some x:=yo;obtain⟨y,hy⟩:∃y,l[k+1]?=some y:=⟨_,ub ht13⟩;refine CS ?_;refine CQ ?_;refine CB ?_;refine qbc ?_;refine G0 mO ?_;refine G0 mV ?_;refine G0 (zdc (i:=k+1) rfl rfl rfl rfl ym zcv yh) ?_;refine xH ?_;refine G0 mO ?_;refine G0 mV ?_;refine G0 zbh ?_;refine G0 (zdc (i:=k) rfl rfl rfl rfl ym zcv yh) ?_;refine xH ?_;refine G0 zcw ?_;refine GK.nil ?_;refine Cf (p:=y=x) (fun ht25=>?_) (fun ht25=>?_)
  ·
   have hdup:=fresh_dup hinv.2 hx hy ht25;have hdl:(zG (l.take (k+2))).length=k+1:=by rw[hdup,um];omega
   refine qb3 ?_;refine qaw ?_;refine A0 (zvw (p:=k+1) rfl rfl rfl rfl zcv ym yh) ?_;refine A0 aS ?_;refine CNQQR ?_;refine A0 aV ?_;refine CNB ?_;refine zz (n:=0) (y:=zgE l (k+1+1)) rfl (ztA hdup ya).symm ?_;refine zj (d:=3) (y:=((zG (l.take (k+1+1))).length:Int)) rfl (by rw[hdl];omega) ?_;refine zj (d:=5) (y:=((k+1:Nat):Int)-k) rfl ya ?_;refine Lp (ι:=Nat) 1 (fun j=>(((Fr.none.set 0 (.own 0)).set 3 (.val i64T ((zG (l.take (j+1))).length:Int))).set 4 (.osub 0 i64T.size (k+1) (l.length-(k+1)))).set 5 (.val i64T ((j:Int)-k))) (fun j=>Hp.none.set 0 (.row 3 i64T (zgE l (j+1)))) (fun j=>k+1≤j∧j<l.length∧(zG (l.take (j+1))).length≤j) (fun j=>l.length-j) (k+1) (⟨ug _,by omega,by rw[hdl];omega⟩) ?_;intro j hj;refine qb5 ?_;refine A0 mS ?_;refine A0 (g_len_s rfl rfl ya zdz) ?_;refine qaT ?_;refine Cf (p:=j+1<l.length) (fun ht32=>?_) (fun ht32=>?_)
   ·
    have hrw:=rowAt_len (l:=l) (i:=j+1) ya;obtain⟨x2,hx2⟩:∃x,l[j]?=some x:=yo;obtain⟨y2,hy2⟩:∃y,l[j+1]?=some y:=⟨_,ub ht32⟩;have hxr:(zgE l (j+1))[k+1+(j-k-1)]?=some x2:=by rw[show k+1+(j-k-1)=j by omega,zr3 hj.2.2];exact hx2
    have hyr:(zgE l (j+1))[k+1+(j-k)]?=some y2:=by rw[show k+1+(j-k)=j+1 by omega,zr3 ya];exact hy2
    refine CS ?_;refine CQ ?_;refine CB ?_;refine qbc ?_;refine G0 mS ?_;refine G0 mV ?_;refine G0 (g_ia_s (i:=j-k) rfl rfl rfl ym zcv yh) ?_;refine xH ?_;refine G0 mS ?_;refine G0 mV ?_;refine G0 zbh ?_;refine G0 (g_ia_s (i:=j-k-1) rfl rfl rfl ym zcv yh) ?_;refine xH ?_;refine G0 ze1 ?_;refine GK.nil ?_;refine Cf (p:=¬y2=x2) (fun ht44=>?_) (fun ht44=>?_)
    ·
     obtain⟨z,hz⟩:∃z,(zgE l (j+1))[(zG (l.take (j+1))).length]?=some z:=yo;have hcl:(zG (l.take (j+1+1))).length=(zG (l.take (j+1))).length+1:=by rw[zfh hx2 hy2,if_neg (fun e=>ht44 e.symm),ue];rfl
     refine qb3 ?_;refine qaw ?_;refine A0 mS ?_;refine qaw ?_;refine A0 (g_ia_s (i:=j-k) rfl rfl rfl ym zcv yh) ?_;refine A0 (zbR rfl rfl rfl rfl yj (Lens.self _) ty_3) ?_;refine A0 (zdc (i:=(zG (l.take (j+1))).length) rfl rfl rfl rfl ym zcv yh) ?_;refine zdF rfl rfl rfl rfl rfl rfl yj (Lens.self _) ty_3 rfl ?_;refine CNR ?_;refine qaW ?_;refine A0 aV ?_;refine CNIR ?_;refine qaW ?_;refine qad ?_;refine zz (n:=0) (y:=zgE l (j+1+1)) rfl (rowAt_new hx2 hy2 (fun e=>ht44 e.symm) ya) ?_;refine zj (d:=3) (y:=((zG (l.take (j+1+1))).length:Int)) rfl (by rw[hcl];omega) ?_;refine zj (d:=5) (y:=((j+1:Nat):Int)-k) rfl ya ?_;exact Nx (j+1) (⟨by omega,by omega,by omega⟩) ya
    have hcl:(zG (l.take (j+1+1))).length=(zG (l.take (j+1))).length:=by rw[zfh hx2 hy2,if_pos (ua ht44).symm]
    refine CSIR ?_;refine qaW ?_;refine qad ?_;refine zz (n:=0) (y:=zgE l (j+1+1)) rfl (rowAt_same hx2 hy2 (ua ht44).symm).symm ?_;refine zj (d:=3) (y:=((zG (l.take (j+1+1))).length:Int)) rfl (by rw[hcl]) ?_;refine zj (d:=5) (y:=((j+1:Nat):Int)-k) rfl ya ?_;exact Nx (j+1) (⟨by omega,by omega,by omega⟩) ya
   refine CE ?_;refine CQ ?_;have hjl:l.take (j+1)=l:=uc ya;have hcl:=zju l;have hcj:=hj.2.2;rw[hjl] at hcj;refine zz (n:=0) (y:=zG l++l.drop (zG l).length) rfl (by unfold zgE;rw[hjl]) ?_;refine zj (d:=3) (y:=((zG l).length:Int)) rfl (by rw[hjl]) ?_;refine CR ?_;refine A0 mO ?_;refine qaw ?_;refine A0 (zvw (p:=(zG l).length) rfl rfl rfl rfl zcv ym yh) ?_;refine zv4 rfl rfl rfl rfl rfl ziX ze_3 yA ?_;refine CNQR ?_;refine A0 mO ?_;refine qaw ?_;refine A0 (znJ (q:=(zG l).length) rfl rfl rfl rfl zcv ym yh) ?_;refine A0 aS ?_;refine CN ?_;exact zdk rfl rfl rfl rfl rfl zcF (zlI rfl rfl yA (by rw[List.take_append_of_le_length yB];simp))
  refine CSIR ?_;refine qaW ?_;refine qad ?_;refine zj (d:=3) (y:=((k+1:Nat):Int)+1) rfl ya ?_;exact Nx (k+1) (⟨by omega,fresh_go hinv.2 hx hy ht25⟩) ya
 refine qa3 ?_;exact zdk rfl rfl rfl rfl rfl zcF (zkT zcF (fun h=>h.elim) rfl rfl (by have h:=hinv.2;unfold Fresh at h;rw[uc ya] at h;exact h.symm))
def zbi (v:List Int) (n:Int):Nat→Nat
  | 0=>0
  | j+1=>if 0<n∧v.getD (j+1) 0<n then zbi v n j else j+1
theorem zhu (v:List Int) (n:Int):∀j,zbi v n j≤j
  | 0=>ug _
  | j+1=>by
    unfold zbi
    split
    · have:=zhu v n j;omega
    exact ug _
theorem back_go {v:List Int} {n x:Int} {j:Nat} (hj:0<j) (hx:v[j]?=some x) (h0:0<n) (h:x<n):zbi v n j=zbi v n (j-1):=by
  cases j with
  | zero=>omega
  | succ j =>
    have e:v.getD (j+1) 0=x:=by simp[hx]
    show(if 0<n∧v.getD (j+1) 0<n then zbi v n j else j+1)=zbi v n j;rw[e,if_pos ⟨h0,h⟩]
theorem zs4 {v:List Int} {n:Int} {j:Nat} (h:∀x,v[j]?=some x→¬(0<n∧x<n)) (hj:j<v.length):zbi v n j=j:=by
  cases j with
  | zero=>rfl
  | succ j =>
    show(if 0<n∧v.getD (j+1) 0<n then zbi v n j else j+1)=j+1;have e:v[j+1]?=some (v.getD (j+1) 0):=by rw[uq,ub hj];rfl
    rw[if_neg (h _ e)]
theorem zs3 (v:List Int) (j:Nat):zbi v 0 j=j:=by
  cases j with
  | zero=>rfl
  | succ j=>show(if (0:Int)<0∧_ then _ else _)=_;rw[if_neg (fun h=>by have:=h.1;omega)]
def zfO (v:List Int) (low at_ n:Nat):List Int :=
  if h:low<at_ then
    if hx:zbi v n (at_-1)<low then
      match n with
      | 0=>[]
      | n+1=>zfO v low at_ n
    else ((zbi v n (at_-1):Nat):Int)::zfO v low (zbi v n (at_-1)) n
  else []
termination_by at_+n
decreasing_by
  · omega
  have:=zhu v n (at_-1);omega
theorem zg4 (v:List Int) {low at_ n:Nat} (h:¬low<at_):zfO v low at_ n=[]:=by rw[zfO,dif_neg h]
theorem zhI {v:List Int} {low at_ n:Nat} (h:low<at_) (hx:zbi v ((n+1:Nat):Int) (at_-1)<low):zfO v low at_ (n+1)=zfO v low at_ n:=by
  rw[zfO,dif_pos h,dif_pos hx]
theorem zhH {v:List Int} {low at_ n:Nat} (h:low<at_) (hx:¬zbi v n (at_-1)<low):zfO v low at_ n=((zbi v n (at_-1):Nat):Int)::zfO v low (zbi v n (at_-1)) n:=by
  rw[zfO,dif_pos h,dif_neg hx]
def zaq (v:List Int) (high low:Int):Bool:=mayV v&&decide (0≤low∧low≤high∧high<v.length)
def zay (v:List Int) (high low:Int):List Int:=if zaq v high low=true then (high::zfO v low.toNat high.toNat 31).reverse else []
theorem zki {v:List Int} {high low:Int} (h:zaq v high low=false):zay v high low=[]:=by unfold zay;rw[h];rfl
structure WalkAt (v:List Int) (high low:Nat) (s:Nat×Nat×List Int):Prop where
  lo:low≤s.1
  hi:s.1≤high
  n:s.2.1≤31
  l:s.2.2++zfO v low s.1 s.2.1=(high:Int)::zfO v low high 31
  len:s.2.2.length+s.1≤high+1
theorem zrx {v:List Int} {high low a n:Nat} {l:List Int} (h:WalkAt v high low (a,n,l)) (ha:¬a=low) (hx:zbi v n (a-1)<low):1≤n∧WalkAt v high low (a,n-1,l):=by
  have h1:=h.lo;simp only at h1;cases n with
  | zero =>
    rw[show((0:Nat):Int)=0 from rfl,zs3] at hx;omega
  | succ n =>
    have h3:=h.n;simp only at h3;refine⟨by omega,h.lo,h.hi,by show n≤31;omega,?_,h.len⟩
    have:=h.l
    simp only at this;rw[zhI ya hx] at this;exact this
theorem zrw {v:List Int} {high low a n:Nat} {l:List Int} (h:WalkAt v high low (a,n,l)) (ha:¬a=low) (hx:¬zbi v n (a-1)<low):WalkAt v high low (zbi v n (a-1),n,l++[((zbi v n (a-1):Nat):Int)]):=by
  have h1:=h.lo;have h2:=h.hi;have h5:=h.len;have h4:=h.l;simp only at h1 h2 h4 h5;have hb:=zhu v n (a-1);refine⟨by show low≤zbi v n (a-1);omega,by show zbi v n (a-1)≤high;omega,h.n,?_,by show(l++_).length+zbi v n (a-1)≤high+1;rw[ue];simp only[List.length_singleton];omega⟩;show(l++[((zbi v n (a-1):Nat):Int)])++zfO v low (zbi v n (a-1)) n=_;rw[List.append_assoc,List.singleton_append,←zhH ya hx];exact h4
theorem zdT {v:List Int} {high low:Int} (h:zaq v high low=true):0<v.length∧v.length≤200∧v[0]?=some 31∧0≤low∧low≤high∧high<v.length:=by
  unfold zaq mayV at h;rw[uk,uk,uj,uj] at h;exact⟨h.1.1.1,h.1.1.2.1,h.1.1.2.2,h.2⟩
theorem follow_end {v:List Int} {H L a n:Nat} {l:List Int} (hok:zaq v H L=true) (h:WalkAt v H L (a,n,l)) (ha:a=L):l.reverse=zay v H L:=by
  have:=h.l
  simp only at this;rw[zg4 v ya,List.append_nil] at this;unfold zay;rw[if_pos hok,this];rfl
theorem build_walk {o:Oper} {y0 y1 y2 y3:Operand} (ho:o.op = .build 163 #[(0,y0),(1,y1),(2,y2),(3,y3)]) (e:Operand→Value) (w:World) (h:∀y∈[y0,y1,y2,y3],(e y).oneCell'=true∧(e y).cells.size=1):(execOp e o).run P w = .ok (.value (.agg ([y0,y1,y2,y3].map e).toArray)) w :=
  run_build4 (z0:=.slice none 0 0) (z1:=.int .i64 0) (z2:=.int .i64 0) (z3:=.slice none 0 0) (fun w=>by kernel_rfl) yq yq ho e w h
def ziV (a b:List Int):List Int:=zG (zaM (a++b))
theorem zm3 (l:List Int):(zaM l).length=l.length:=(List.mergeSort_perm l _).length_eq
theorem zmU (a b:List Int):(ziV a b).length≤a.length+b.length:=by
  have:=zju (zaM (a++b))
  rw[zm3,ue] at this;exact this
theorem zp4 (v:List Int) (low:Nat):∀s at_ n,at_+n≤s→(zfO v low at_ n).length≤at_
  | 0,at_,n,h=>by rw[zg4 v ya];exact uf _
  | s+1,at_,n,h=>by
    by_cases c:low<at_
    · by_cases d:zbi v n (at_-1)<low
      · cases n with
        | zero=>rw[zfO,dif_pos c,dif_pos d];exact uf _
        | succ n=>rw[zhI c d];exact zp4 v low s at_ n ya
      rw[zhH c d,List.length_cons];have hb:=zhu v n (at_-1)
      have:=zp4 v low s (zbi v n (at_-1)) n ya
      omega
    rw[zg4 v c];exact uf _
theorem zfg (v:List Int) (high low:Int):(zay v high low).length≤201:=by
  unfold zay
  split
  · rename_i c
    obtain⟨_,h2,_,h4,h5,h6⟩:=zdT c
    have:=zp4 v low.toNat _ high.toNat 31 (ug _)
    rw[List.length_reverse,List.length_cons];omega
  simp
theorem back_ok (v:List Int) (i:Nat) (n:Int) (h0:∀z,v[0]?=some z→n≤z) (h1:1≤i) (hi:i≤v.length):Tells P 134 [.val (bsl i64T) v,.val i64T (i:Int),.val i64T n] (.val i64T (zbi v n (i-1):Nat)):=by
 refine zc Tryz.func134 rfl rfl rfl (fun ext w hext=>?_);refine zf (d:=0) rfl zl (fun hsl0=>?_);refine zf (d:=1) rfl zt (fun hin1=>?_);refine zf (d:=2) rfl zt (fun hin2=>?_);refine qbV ?_;refine A0 zbh ?_;refine qaA ?_;refine CB ?_;refine zj (d:=7) (y:=((i-1:Nat):Int)) rfl ya ?_;refine Lp (ι:=Nat) 0 (fun (j:Nat)=>(((Fr.none).set 0 (.val (bsl i64T) v)).set 2 (.val i64T n)).set 7 (.val i64T (j:Int))) (fun (j:Nat)=>Hp.none) (fun (j:Nat)=>j≤i-1∧zbi v n (i-1)=zbi v n j) (fun (j:Nat)=>j) (i-1) (⟨ug _,rfl⟩) ?_;intro j hinv;refine qb5 ?_;refine A0 zcq ?_;refine Sp (d:=11) (p:=0<n) (fun g11=>?_) (fun g11=>?_)
 ·
  obtain⟨x,hx⟩:∃x,v[j]?=some x:=yo;refine qaw ?_;refine A1 mV ?_;refine A1 mV ?_;refine A1 (zR (i:=j) rfl rfl rfl ya zcv yj) ?_;refine A1 (ze rfl rfl ty_3) ?_;refine A1 mV ?_;refine A1 zbu ?_;refine qas ?_;refine Cf (p:=x<n) (fun ht19=>?_) (fun ht19=>?_)
  ·
   have hj0:0<j:=Nat.pos_of_ne_zero fun e=>by subst e;have:=h0 x hx;omega
   refine CS ?_;refine CB ?_;refine CR ?_;refine qbI ?_;refine qad ?_;refine CI ?_;refine zj (d:=7) (y:=((j-1:Nat):Int)) rfl ya ?_;exact Nx (j-1) (⟨by omega,hinv.2.trans (back_go hj0 hx g11 ht19)⟩) ya
  refine CE ?_;refine qcd ?_;exact zb rfl rfl (za rfl (by rw[hinv.2,zs4 (fun y hy h=>by rw[hx] at hy;injection hy with hy;omega) ya]))
 refine qaw ?_;refine qac ?_;refine qac ?_;refine qas ?_;refine Cg ?_;refine CE ?_;refine qcd ?_;exact zb rfl rfl (za rfl (by rw[hinv.2,zs4 (fun y hy h=>g11 h.1) ya]))
theorem zsD (v:List Int) (high low:Int):Tells P 36 [.val (bsl i64T) v,.val i64T high,.val i64T low] (.tup2 (.fresh 3 i64T (zay v high low)) (.val zn (zaq v high low))):=by
 refine zc Tryz.func36 rfl rfl rfl (fun ext w hext=>?_);refine zf (d:=0) rfl zl (fun hsl0=>?_);refine zf (d:=1) rfl zt (fun hin1=>?_);refine zf (d:=2) rfl zt (fun hin2=>?_);refine qbe ?_;refine zq8 (ι:=Unit) 2 0 rfl rfl rfl (fun (_u:Unit)=>(((Fr.none).set 2 (.val i64T low)).set 8 (.ptr 1 0)).set 9 (.bnd 82 1)) (fun (_u:Unit)=>((Hp.none).set 0 (.row 3 i64T [high])).set 1 (.parts 163 [.val (bsl i64T) v,.val i64T (high:Int),.val i64T (31:Int),.own 0])) (fun (_u:Unit)=>zaq v high low=true) (fun (_u:Unit)=>0) ?_ (fun hreach=>?_)
 ·
  intro _u hinv;have hok:=hinv;obtain⟨hv1,hv2,hv3,ho1,ho2,ho3⟩:=zdT hok;obtain⟨H,hH⟩:∃H:Nat,high=H:=⟨high.toNat,by omega⟩;obtain⟨L,hL⟩:∃L:Nat,low=L:=⟨low.toNat,by omega⟩;subst hH;subst hL;refine CQ ?_;refine CB ?_;refine Lp (ι:=Nat×Nat×List Int) 2 (fun (i:Nat×Nat×List Int)=>match i with|(a,n,l)=>(((Fr.none).set 2 (.val i64T (L:Int))).set 8 (.ptr 1 0)).set 9 (.bnd 82 1)) (fun (i:Nat×Nat×List Int)=>match i with|(a,n,l)=>((Hp.none).set 0 (.row 3 i64T l)).set 1 (.parts 163 [.val (bsl i64T) v,.val i64T (a:Int),.val i64T (n:Int),.own 0])) (fun (i:Nat×Nat×List Int)=>match i with|(a,n,l)=>WalkAt v H L (a,n,l)) (fun (i:Nat×Nat×List Int)=>match i with|(a,n,l)=>a+n) ((H,31,[(H:Int)])) (⟨by show L≤H;omega,ug _,ug _,rfl,by show 1+H≤H+1;omega⟩) ?_;intro⟨a,n,l⟩ hinv;dsimp only at hinv;have hlo:=hinv.lo;have hhi:=hinv.hi;have hn31:=hinv.n;have hlen:=hinv.len;simp only at hlo hhi hn31 hlen;have hb0:∀z,v[0]?=some z→(n:Int)≤z:=fun z hz=>by rw[hv3] at hz;injection hz with hz;omega
  refine CB ?_;refine CB ?_;refine CQR ?_;refine qbE ?_;refine A0 (oFp zqQ) ?_;refine A0 (z6 rfl rfl rfl rfl rfl ty_3) ?_;refine qaw ?_;refine A0 zcw ?_;refine qad ?_;refine Cf (p:=a=L) (fun ht36=>?_) (fun ht36=>?_)
  ·
   refine CE ?_;refine CQR ?_;refine qbE ?_;refine A0 (oFp zmz) ?_;refine xd ?_;refine zgf (revInt l ya) rfl fn_83 rfl trivial trivial rfl ⟨ye,trivial⟩ rfl rfl rfl ?_;refine CNQR ?_;refine qbE ?_;refine A0 (oFp zmz) ?_;refine xd ?_;refine qcc ?_;exact zU rfl rfl (zh rfl rfl (follow_end hok hinv ht36)) (za rfl hok.symm)
  refine CQR ?_;refine A0 (g_mb (.inl rfl) rfl) ?_;refine qaw ?_;refine aw_inlineb rfl rfl rfl rfl rfl Tryz.func82 fn_82 rfl rfl (fun ia2 iok2=>?_);refine CQR ?_;refine qcj ?_;refine qbG ?_;refine G0 (oFp fd_163_0) ?_;refine G0 (z6 rfl rfl rfl rfl rfl zeX) ?_;refine qbG ?_;refine G0 (oFp zqQ) ?_;refine G0 (z6 rfl rfl rfl rfl rfl ty_3) ?_;refine qbG ?_;refine G0 (oFp zqP) ?_;refine G0 (z6 rfl rfl rfl rfl rfl ty_3) ?_;refine G0 (oCl (back_ok v a (n:Int) hb0 ya ya) rfl fn_134 yJ) ?_;refine qbB ?_;refine CQQR ?_;refine qaq ?_;refine qaT ?_;refine Cf (p:=zbi v n (a-1)<L) (fun ht21=>?_) (fun ht21=>?_)
  ·
   obtain⟨hn1,hwn⟩:=zrx hinv ht36 ht21;refine qau ?_;refine zet rfl ?_;refine A0 oN ?_;refine qad ?_;refine Ct ?_;refine CR ?_;refine qbE ?_;refine A0 (oFp zqP) ?_;refine A0 (z6 rfl rfl rfl rfl rfl ty_3) ?_;refine A0 (zsy rfl rfl rfl (show _=(((n-1:Nat):Int):Int) from(zaz ya).trans ya)) ?_;refine xb ?_;refine A0 (oFp zqP) ?_;refine zaB rfl rfl rfl rfl rfl rfl rfl rfl rfl rfl ty_3 ?_;refine CN ?_;refine CI ?_;refine CI ?_;exact Nx ((a,n-1,l)) (hwn) ybl
  have hwn:=zrw hinv ht36 ht21;refine CSQR ?_;refine A0 mP ?_;refine qbE ?_;refine A0 (oFp zmz) ?_;refine xd ?_;refine qaw ?_;refine qaJ ?_;refine xb ?_;refine A0 (oFp zmz) ?_;refine zaB rfl rfl rfl rfl rfl rfl rfl rfl rfl rfl zeX ?_;refine CNQR ?_;refine A0 mP ?_;refine qaw ?_;refine xb ?_;refine A0 (oFp zqQ) ?_;refine zaB rfl rfl rfl rfl rfl rfl rfl rfl rfl rfl ty_3 ?_;refine CNQR ?_;refine qad ?_;refine zet rfl ?_;refine A0 oN ?_;refine qad ?_;refine Cg ?_;refine CS ?_;refine CI ?_;refine CI ?_;refine zaS 2 0 3 rfl rfl rfl rfl rfl rfl ?_;exact Nx ((zbi v n (a-1),n,l++[((zbi v n (a-1):Nat):Int)])) (hwn) ybl
 refine qb5 ?_;refine A0 (oCl (mayV_ok v) rfl fn_81 yd) ?_;refine Sp (d:=11) (p:=mayV v=true) (fun g11=>?_) (fun g11=>?_)
 ·
  refine A0 oN ?_;refine qaw ?_;refine A1 mV ?_;refine A1 zbu ?_;refine Sp (d:=15) (p:=low<0) (fun g15=>?_) (fun g15=>?_)
  ·
   refine qaH ?_;refine qaH ?_;refine A2 ?_;refine qas ?_;refine Ct ?_;refine qbe ?_;exact zU rfl rfl yae (za rfl (show zaq v high low=false from by unfold zaq;rw[uh ya,Bool.and_false]).symm)
  refine qbP ?_;refine qbx ?_;refine Sp (d:=20) (p:=high<low) (fun g20=>?_) (fun g20=>?_)
  ·
   refine qaH ?_;refine A2 ?_;refine qas ?_;refine Ct ?_;refine qbe ?_;exact zU rfl rfl yae (za rfl (show zaq v high low=false from by unfold zaq;rw[uh ya,Bool.and_false]).symm)
  refine qbP ?_;refine A1 mV ?_;refine A1 (zO rfl rfl zdz) ?_;refine A1 zfR ?_;refine qas ?_;refine Cf (p:=(v.length:Int)≤high) (fun ht27=>?_) (fun ht27=>?_)
  ·
   refine qbe ?_;exact zU rfl rfl yae (za rfl (show zaq v high low=false from by unfold zaq;rw[uh ya,Bool.and_false]).symm)
  have hok:zaq v high low=true:=by unfold zaq;rw[g11,Bool.true_and];exact ui ya
  refine CSQR ?_;refine qaq ?_;refine qaw ?_;refine zb0 (T:=i64T) (xs:=[_]) rfl rfl rfl rfl zcv ziX yx rfl rfl ?_;refine zui [.tmp 28,.tmp 29,.const (.int .i64 (31)),.tmp 31] (fun e w h=>build_walk rfl e w h) rfl rfl rfl rfl rfl rfl rfl rfl rfl ?_;refine A0 aP ?_;refine CNQR ?_;refine A0 mP ?_;refine A0 (g_mkbp rfl rfl) ?_;refine A0 (g_mb (.inr rfl) rfl) ?_;refine CNQ ?_;exact zra hreach (()) rfl (hok) rfl (by (repeat refine Fr.le_set ?_ yaY);exact Fr.le_none _) (by (repeat refine Hp.le_set ?_ rfl);exact Hp.le_none _) (by (repeat refine Fr.below_setB ?_ rfl);exact Fr.below_none _) (by (repeat refine Hp.below_set ?_ yn);exact Hp.below_none _)
 refine A0 oN ?_;refine qaw ?_;refine A2 ?_;refine A2 ?_;refine qaH ?_;refine qaH ?_;refine A2 ?_;refine qas ?_;refine Ct ?_;refine qbe ?_;exact zU rfl rfl (by rw[zki (show zaq v high low=false from by unfold zaq;rw[Bool.eq_false_iff.2 g11];rfl)];exact zm rfl) (za rfl (show zaq v high low=false from by unfold zaq;rw[Bool.eq_false_iff.2 g11];rfl).symm)
theorem union_ok (a b:List Int) (h:a.length+b.length≤1000000):Tells P 84 [.val (bsl i64T) a,.val (bsl i64T) b] (.fresh 3 i64T (ziV a b)):=by
 refine zc Tryz.func84 rfl rfl rfl (fun ext w hext=>?_);refine zf (d:=0) rfl zl (fun hsl0=>?_);refine zf (d:=1) rfl zl (fun hsl1=>?_);refine qbv ?_;refine qaq ?_;refine A0 (zL (T:=(bsl i64T)) (xs:=[_,_]) rfl sl_284 row_284 yal rfl rfl) ?_;refine zaT (concatInt [a,b] yA) rfl fn_135 yd rfl rfl rfl ?_;refine A0 aO ?_;refine CNQ ?_;refine zz (n:=0) (y:=a++b) rfl yB ?_;refine CR ?_;refine A0 mO ?_;refine zgf (zo2 (a++b) yA) rfl fn_136 rfl trivial trivial rfl ⟨ye,trivial⟩ rfl rfl rfl ?_;refine CNQR ?_;refine A0 mO ?_;refine zv5 (compactInt (zaM (a++b)) (by rw[zm3];simp;omega)) rfl fn_137 rfl trivial ⟨ye,trivial⟩ rfl rfl rfl ?_;refine qbm ?_;exact zb rfl rfl (zh rfl rfl rfl)
theorem both_ok (a b:List Int) (h:a.length+b.length≤1000000):Tells P 37 [.val (bsl i64T) a,.val (bsl i64T) b] (.fresh 3 i64T (ziV a b)):=by
 refine zc Tryz.func37 rfl rfl rfl (fun ext w hext=>?_);refine zf (d:=0) rfl zl (fun hsl0=>?_);refine zf (d:=1) rfl zl (fun hsl1=>?_);refine qbv ?_;refine qaq ?_;refine zaT (union_ok a b h) rfl fn_84 yi rfl rfl rfl ?_;refine qbm ?_;exact zb rfl rfl (zh rfl rfl rfl)
end Go.Proofs.YticippfoekpkhaaGreat
