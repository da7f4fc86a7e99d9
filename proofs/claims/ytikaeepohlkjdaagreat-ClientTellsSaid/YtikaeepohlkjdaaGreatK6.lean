/- Parts of the proof: the layer that reads Go values as data, and what the functions of the program tell. -/
import Derived.Test.YtikaeepohlkjdaaGreatK5
open List (getD_cons_succ getD_cons_zero length_cons length_set set_cons_succ set_cons_zero)
open Nat (add_comm add_mul add_sub_cancel div_div_eq_div_mul div_eq_of_lt div_le_self div_one mod_eq_of_lt mod_lt mul_add mul_assoc mul_comm mul_left_comm mul_one one_mul pow_add pow_mul pow_succ pow_zero two_pow_pos zero_add zero_mul)
open UInt64 (lt_iff_toNat_lt toNat_add toNat_div toNat_inj toNat_lt toNat_mod toNat_mul toNat_ofNat' toNat_ofNat_of_lt' toNat_or)
set_option linter.unusedVariables false
set_option linter.unusedSimpArgs false
set_option maxRecDepth 20000
namespace Go.Proofs.YtikaeepohlkjdaaGreat
open Go.Ab Go.RowKit
def zjP (h:Head):Total:=leafT (zaN h) (zfy h)
def zhQ (t:Tip):List Ab.Id:=zd9 t.b.l (zaN t.b.h) (zaa t.b.h)
def zcS (t:Tip) (l:List Tx) (nonce:UInt64):Head:=⟨IntKind.i64.wrap (t.b.h.height+1),zaN t.b.h,zc5 (zhQ t),zpp l,(zfb t.p).h,(zfb t.p).w,t.b.h.bits,nonce⟩
def zjv (bits:UInt32):Head:=⟨0,zId,zc5 [],zpp [],(zfb []).h,zaG,bits,0⟩
def zaq (bits:UInt32):Tip:=if zaV bits=true then ⟨⟨zjv bits,[],[]⟩,zb9 [] (zjP (zjv bits)),[]⟩ else zTip
def zfh (h:Head):Head:={ zlm with height:=h.height,prev:=h.prev,bits:=h.bits }
theorem zsQ {l:List Ab.Id} {id:Ab.Id} {level:Int}:(zd9 l id level).length<=64:=by
  unfold zd9
  split
  . simp
  split
  . simp
  split
  . omega
  simp;omega
def zlu (t:Tx):Prop:=t.ins.length*40<=140737488351232/\t.outs.length*16<=140737488351232
def zsj (l:List Tx):Prop:=l.length*48<=140737488351232/\∀t∈l,zlu t
def zkj (b:Block):Prop:=b.l.length*32<=140737488351232/\zsj b.t
def zgc (t:Tip):Prop:=zkj t.b/\t.p.length<=1000/\t.c.length<=1000
theorem set_same {α:Type} {l:List α} {k:Nat} {x:α} (h:l[k]?=some x):l.set k x=l:=by
  obtain⟨hk,rfl⟩:=ul.1 h;exact List.set_getElem_self hk
theorem zv2 (h:Head):Tells P 118 [.val zbk h] (.val zar (zjP h)):=by
 refine zc Tryz.func118 rfl rfl rfl (fun ext w hext=>?_);refine qae ?_;refine qcm ?_;refine CNQ ?_;refine zA [some 1,some 1,some 1,some 1,some 1,none] mixed yc ?_;refine qeg ?_;refine qfZ ?_;refine qeg ?_;refine X0 (oCl (zuw _) rfl fn_184 yd) ?_;refine X0 (oCl (mleaf_ok _ _) rfl fn_183 ye) ?_;refine XK.e (x:=.idk) (fun fr' hfr kk H=>by exact zg rfl rfl rfl ((hfr 2 yc).trans rfl) rfl (Lens.self _) za9 ((hfr 7 yc).trans rfl) (zD H)) ?_;refine qe6 ?_;exact zE rfl rfl rfl rfl za9 (rfl)
theorem zn5 (t:Tip):Tells P 190 [.val tipT t] (.fresh 49 idT (zhQ t)):=by
 refine zc Tryz.func190 rfl rfl rfl (fun ext w hext=>?_);refine qbN ?_;refine CNQ ?_;refine zA [some 1,some 1,some 1,some 1,some 1,some 1,some 1,some 1,some 1,some 1,some 1,none,some 1] mixed yc ?_;refine X0 (oFp zfV) ?_;refine X0 (oFp zgE) ?_;refine X0 (oLb (zdR.comp zdx) zcl) ?_;refine qe1 ?_;refine X0 (oLb (zdR.comp zaU) zbZ) ?_;refine qfZ ?_;refine qe1 ?_;refine X0 (oLb (zdR.comp zaU) zbZ) ?_;refine X0 (oCl (zgk _) rfl zwr yd) ?_;refine XK.e (fun fr' hfr kk H=>by exact zao (zus t.b.l (zaN t.b.h) (zaa t.b.h)) rfl fn_245 ⟨(zd ((hfr 5 yc).trans rfl)),(zd ((hfr 9 yc).trans rfl)),(zd ((hfr 13 yc).trans rfl)),trivial⟩ rfl rfl rfl (zD H)) ?_;refine X0 aO ?_;refine qe6 ?_;exact zb rfl rfl (zf rfl rfl rfl)
theorem zvV (t:Tip) (l:List Tx) (nonce:UInt64) (hl:l.length<=4000000000000) (hp:t.p.length<=1000000):Tells P 127 [.val tipT t,.val (bsl txT) l,.val u64T nonce] (.val zbk (zcS t l nonce)):=by
 have hlk:(zhQ t).length<=64:=zsQ;refine zc Tryz.func127 rfl rfl rfl (fun ext w hext=>?_);refine ze (d:=1) rfl zk (fun hsl1=>?_);refine qae ?_;refine qce ?_;refine CNQR ?_;refine A0 (oFp zjV) ?_;refine A0 (oLb zj4 zqC) ?_;refine A0 (oCl (zpK t.p hp) rfl fn_116 yd) ?_;refine qcm ?_;refine qbk ?_;refine CNQ ?_;refine zA [some 1,some 1,some 1,some 1,some 1,some 1,some 1,some 1,some 1,some 1,some 1,some 1,some 1,some 1,some 1,some 1,some 1,some 1,some 1,some 1,some 1,some 1,some 1,some 1,none] mixed yc ?_;refine qe1 ?_;refine X0 (oFp zcI) ?_;refine X0 (oLb ((zdR.comp zaU).comp zal) ty_3) ?_;refine X0 zhZ ?_;refine qe1 ?_;refine X0 (oLb (zdR.comp zaU) zbZ) ?_;refine qfZ ?_;refine X0 (oLs rfl rfl rfl zfr) ?_;refine X0 (oCl (zu (zn5 t)) rfl fn_190 yd) ?_;refine X0 (oCl (zjO (zhQ t) ya) rfl fn_114 yd) ?_;refine X0 mV ?_;refine X0 (oCl (zr3 l hl) rfl fn_115 yd) ?_;refine X0 (oFp zeg) ?_;refine X0 (oLb zcY zY) ?_;refine X0 (oFp ziX) ?_;refine X0 (oLb zhd zag) ?_;refine qe1 ?_;refine X0 (oFp zdg) ?_;refine X0 (oLb ((zdR.comp zaU).comp zaX) zbC) ?_;refine X0 mV ?_;refine X0 (zJ rfl zlj zrI (.cons zcI zal ty_3 rfl (.cons zez zbB zY rfl (.cons zey zbc zY rfl (.cons zfW zcF zY rfl (.cons zhw zcZ zY rfl (.cons zjW zeH zag rfl (.cons zdg zaX zbC rfl (.cons zgF zcd za2 rfl .nil)))))))) rfl) ?_;refine XK.e (x:=.idk) (fun fr' hfr kk H=>by exact zg rfl rfl rfl ((hfr 6 yc).trans rfl) rfl (Lens.self _) zbZ ((hfr 34 yc).trans rfl) (zD H)) ?_;refine qe6 ?_;exact zE rfl rfl rfl rfl zbZ (rfl)
theorem zjT (bits:UInt32):Tells P 52 [.val u32T bits] (.tup2 (.val tipT (zaq bits)) (.val zo (zaV bits))):=by
 refine zc Tryz.func52 rfl rfl rfl (fun ext w hext=>?_);refine CQR ?_;refine qgb ?_;refine qag ?_;refine qfi ?_;refine qaR ?_;refine qaT ?_;refine zl (p:=¬zaV bits=true) rfl (by cases zaV bits<;>rfl) (fun ht13=>?_) (fun ht13=>?_)
 .
  refine CQR ?_;refine xr ?_;refine qaN ?_;refine qad ?_;exact zi rfl rfl (zm rfl rfl zfr (by unfold zaq;rw[ur ht13])) (zC (za rfl (by simpa using ht13)))
 refine CSQR ?_;refine A0 (oCl (zjO [] yl) rfl fn_114 yb1) ?_;refine A0 (oCl (zr3 [] yl) rfl fn_115 yb1) ?_;refine A0 (oCl (zpK [] yl) rfl fn_116 yb1) ?_;refine A0 (g_field rfl rfl zeg zcY zY) ?_;refine qaz ?_;refine A0 (zJ rfl zlj zrI (.cons zey zbc zY rfl (.cons zfW zcF zY rfl (.cons zhw zcZ zY rfl (.cons zdg zaX zbC rfl .nil)))) rfl) ?_;refine qce ?_;refine qaK ?_;refine CNQ ?_;refine xc ?_;refine qeg ?_;refine X0 (zJ rfl ztY bd_59 (.cons zcV zaU zbZ rfl .nil) rfl) ?_;refine qeg ?_;refine X0 (oCl (zv2 (zjv bits)) rfl fn_118 yd) ?_;refine X0 (oCl (zu (zl9 [] (zjP (zjv bits)) yl)) rfl fn_117 yb3) ?_;refine X0 (zJ rfl znk zrH (.cons zfV zdR zgu rfl (.cons zjV zj4 zqC rfl .nil)) rfl) ?_;refine XK.e (x:=.idk) (fun fr' hfr kk H=>by exact zg rfl rfl rfl ((hfr 2 yc).trans rfl) rfl (Lens.self _) zfr ((hfr 26 yc).trans rfl) (zD H)) ?_;refine X0 aV ?_;refine qe6 ?_;exact zi rfl rfl (zm rfl rfl zfr (by unfold zaq;rw[ut (ua ht13)];rfl)) (zC (za rfl ((ua ht13).symm)))
theorem zqk (h:Head):Tells P 191 [.val zbk h] (.val zbk (zfh h)):=by
 refine zc Tryz.func191 rfl rfl rfl (fun ext w hext=>?_);refine qae ?_;refine qce ?_;refine CNQR ?_;refine qb7 ?_;refine A0 (oFp zez) ?_;refine A0 (oLb zbB zY) ?_;refine qdG ?_;refine A0 (zJ rfl zlj zrI (.cons zcI zal ty_3 rfl (.cons zez zbB zY rfl (.cons zdg zaX zbC rfl .nil))) rfl) ?_;refine qaK ?_;refine CN ?_;exact zE rfl rfl rfl rfl zbZ (rfl)
theorem txs_ok (l:List Tx) (hl:zsj l):Tells P 194 [.val (bsl txT) l] (.fresh 101 txT l):=by
 obtain⟨hl1,hl2⟩:=hl;refine zc Tryz.func194 rfl rfl rfl (fun ext w hext=>?_);refine ze (d:=0) rfl zk (fun hsl0=>?_);refine qbQ ?_;refine qaz ?_;refine zao (cloneTx l yV) rfl fn_251 yd rfl rfl rfl ?_;refine A0 aO ?_;refine CNQQR ?_;refine A0 mO ?_;refine A0 (zbS rfl rfl rfl isl_57) ?_;refine qaF ?_;refine Lp (ι:=Nat) 1 (fun (k:Nat)=>((((Fr.none).set 3 (.own 0)).set 8 (.own 0)).set 9 (.val i64T (l.length:Int))).set 10 (.val i64T (k:Int))) (fun (k:Nat)=>(Hp.none).set 0 (.row 101 txT l)) (fun (k:Nat)=>k<=l.length) (fun (k:Nat)=>l.length-k) (0) (uf _) ?_;intro k hinv;refine qap ?_;refine Cf (p:=k<l.length) (fun ht11=>?_) (fun ht11=>?_)
 .
  obtain⟨x,hx⟩:∃x,l[k]?=some x:=ybv;have hxm:=ud hx;refine qbp ?_;refine A0 (zau (i:=k) rfl rfl rfl rfl yi zsk yh) ?_;refine A0 (zc8 rfl rfl rfl rfl yj (Lens.self _) zjm) ?_;refine zN zrV rfl rfl rfl rfl ?_;refine A0 aV ?_;refine qdb ?_;refine CN ?_;refine zA [some 1,some 1,some 1,some 1,some 1,some 1,some 1,some 1,some 1,some 1,none] mixed yc ?_;refine qdm ?_;refine X0 (oFp zdA) ?_;refine X0 (oLb zdE zmr) ?_;refine X0 (oCl (zu (cloneIn x.ins (by have:=hl2 x hxm;unfold zlu at this;constructor<;>omega))) rfl fn_229 yd) ?_;refine X0 (oFp zi0) ?_;refine X0 (oLb zhc ty_99) ?_;refine X0 (oCl (zu (zwH x.outs (by have:=hl2 x hxm;unfold zlu at this;constructor<;>omega))) rfl fn_230 yd) ?_;refine X0 (zJ rfl zrV bd_101 (.cons zdA zdE zmr rfl (.cons zi0 zhc ty_99 rfl .nil)) rfl) ?_;refine X0 (zau (i:=k) rfl rfl rfl rfl yi zsk yh) ?_;refine XK.e (x:=.idk) (fun fr' hfr kk H=>by exact zda rfl rfl rfl ((hfr 24 yc).trans rfl) rfl rfl yj (Lens.self _) zjm ((hfr 23 yc).trans rfl) (zD H)) ?_;refine qdL ?_;refine zq (n:=0) (y:=l) rfl (by rw[show(⟨x.ins,x.outs⟩:Tx)=x from rfl];exact set_same hx) ?_;exact Nx (k+1) ya ya
 refine qa8 ?_;exact zb rfl rfl (zf rfl rfl rfl)
theorem ztp (b:Block) (hb:zkj b):Tells P 136 [.val zaz b] (.val zaz b):=by
 obtain⟨hb1,hb2⟩:=hb;refine zc Tryz.func136 rfl rfl rfl (fun ext w hext=>?_);refine qae ?_;refine qey ?_;refine CNQR ?_;refine A0 (oFp zgE) ?_;refine A0 (oLb zdx zcl) ?_;refine A0 (oCl (zu (ziB b.l yV)) rfl zs9 yd) ?_;refine A0 (oFp zgE) ?_;refine zg rfl rfl rfl rfl rfl zdx zcl rfl ?_;refine CNQR ?_;refine A0 (oFp zgD) ?_;refine A0 (oLb zdw zo4) ?_;refine A0 (oCl (zu (txs_ok b.t hb2)) rfl fn_194 yd) ?_;refine A0 (oFp zgD) ?_;refine zg rfl rfl rfl rfl rfl zdw zo4 rfl ?_;refine CNQR ?_;refine qfO ?_;refine qcd ?_;refine CN ?_;exact zE rfl rfl rfl rfl zgu (rfl)
theorem own_ok (t:Tip) (ht:zgc t):Tells P 135 [.val tipT t] (.val tipT t):=by
 obtain⟨ht1,ht2,ht3⟩:=ht;refine zc Tryz.func135 rfl rfl rfl (fun ext w hext=>?_);refine qae ?_;refine qgb ?_;refine CNQ ?_;refine zA [some 1,some 1,some 1,some 1,some 1,some 1,some 1,some 1,some 1,some 1,none,some 1,none,some 1,none] mixed yc ?_;refine X0 (oFp zfV) ?_;refine X0 (oLb zdR zgu) ?_;refine X0 (oCl (ztp t.b ht1) rfl fn_136 yd) ?_;refine X0 (oFp zjV) ?_;refine X0 (oLb zj4 zqC) ?_;refine X0 (oCl (zu (zqe t.p yV)) rfl fn_182 yd) ?_;refine X0 (oFp zru) ?_;refine X0 (oLb zrS zms) ?_;refine X0 (oCl (zu (ziC t.c yV)) rfl zte yd) ?_;refine X0 (oFp zfV) ?_;refine XK.e (x:=.idk) (fun fr' hfr kk H=>by exact zg rfl rfl rfl ((hfr 12 yc).trans rfl) rfl zdR zgu ((hfr 5 yc).trans rfl) (zD H)) ?_;refine X0 (oFp zjV) ?_;refine XK.e (x:=.idk) (fun fr' hfr kk H=>by exact zg rfl rfl rfl ((hfr 13 yc).trans rfl) rfl zj4 zqC ((hfr 8 yc).trans rfl) (zD H)) ?_;refine X0 (oFp zru) ?_;refine XK.e (x:=.idk) (fun fr' hfr kk H=>by exact zg rfl rfl rfl ((hfr 14 yc).trans rfl) rfl zrS zms ((hfr 11 yc).trans rfl) (zD H)) ?_;refine qe6 ?_;refine CQR ?_;refine qfo ?_;refine qaN ?_;refine CN ?_;exact zE rfl rfl rfl rfl zfr (rfl)
theorem sameB_ok (a b:Block):Tells P 67 [.val zaz a,.val zaz b] (.val zo (decide (a=b))):=by
 refine zc Tryz.func67 rfl rfl rfl (fun ext w hext=>?_);refine qeJ ?_;refine A0 (oFp zcV) ?_;refine A0 (oLb zaU zbZ) ?_;refine A0 (oFp zcV) ?_;refine A0 (oLb zaU zbZ) ?_;refine A0 (zgZ rfl rfl rfl (zmd)) ?_;refine Sp (d:=9) (p:=a.h=b.h) (fun g9=>?_) (fun g9=>?_)
 .
  refine qaz ?_;refine A1 (oFp zgE) ?_;refine A1 (oLb zdx zcl) ?_;refine A1 (oFp zgE) ?_;refine A1 (oLb zdx zcl) ?_;refine A1 (oCl (zuG _ _) rfl fn_57 ye) ?_;refine Sp (d:=15) (p:=a.l=b.l) (fun g15=>?_) (fun g15=>?_)
  .
   refine qai ?_;refine A1 (oFp zgD) ?_;refine A1 (oLb zdw zo4) ?_;refine A1 (oFp zgD) ?_;refine A1 (oLb zdw zo4) ?_;refine A1 (oCl (equalFTx _ _) rfl fn_125 ⟨yk,yk,(by first|exact zdO (Cs:=[]) rfl fn_126 yC trivial rfl (fun x=>zoE x y)|exact zdN (Cs:=[]) rfl fn_126 yC trivial rfl (fun x y=>zoE x y)|exact zdP rfl),trivial⟩) ?_;refine qaE ?_;exact zb rfl rfl (za rfl yaj)
  refine qaH ?_;refine qaZ ?_;refine qaE ?_;exact zb rfl rfl (za rfl (by symm;apply uh;intro h;exact g15 yaY))
 refine qaz ?_;refine qda ?_;refine qd2 ?_;exact zb rfl rfl (za rfl (by symm;apply uh;intro h;exact g9 yaY))
set_option maxRecDepth 20000
theorem refIds_ok (l m:List Ab.Id):Tells P 27 [.val (bsl idT) l,.val (bsl idT) m] (.val zo (decide (l=m))):=by
 refine zc Tryz.func27 rfl rfl rfl (fun ext w hext=>?_);refine ze (d:=0) rfl zk (fun hsl0=>?_);refine ze (d:=1) rfl zk (fun hsl1=>?_);refine qcK ?_;refine qbj ?_;refine qaz ?_;refine qbj ?_;refine qaG ?_;refine zl (p:=¬l.length=m.length) rfl yag (fun ht10=>?_) (fun ht10=>?_)
 .
  refine qar ?_;exact zb rfl rfl (za rfl (uh (fun e=>ht10 ybI)).symm)
 refine CSQQR ?_;refine qco ?_;refine Lp (ι:=Nat) 0 (fun (k:Nat)=>(((Fr.none).set 0 (.val (bsl idT) l)).set 1 (.val (bsl idT) m)).set 5 (.val i64T (k:Int))) (fun (k:Nat)=>Hp.none) (fun (k:Nat)=>k<=l.length/\l.take k=m.take k) (fun (k:Nat)=>l.length-k) (0) (⟨uf _,rfl⟩) ?_;intro k hinv;refine qb6 ?_;refine qbj ?_;refine qa7 ?_;refine Cf (p:=k<l.length) (fun ht14=>?_) (fun ht14=>?_)
 .
  obtain⟨x,hx⟩:∃x,l[k]?=some x:=⟨_,ub ht14⟩;obtain⟨y,hy⟩:∃y,m[k]?=some y:=yr;refine qff ?_;refine qbl ?_;refine G0 (zx (i:=k) rfl rfl rfl ya zce yj) ?_;refine qcE ?_;refine qbl ?_;refine G0 (zx (i:=k) rfl rfl rfl ya zce yj) ?_;refine qcE ?_;refine G0 (zgY rfl rfl rfl (zix)) ?_;refine GK.nil ?_;refine zl (p:=¬x=y) rfl yw (fun ht25=>?_) (fun ht25=>?_)
  .
   refine qar ?_;exact zb rfl rfl (za rfl (uh (zd8 hx hy ht25)).symm)
  refine qcG ?_;exact Nx (k+1) (⟨by omega,zbN hx hy hinv.2 (ua ht25)⟩) ya
 refine qcs ?_;exact zb rfl rfl (za rfl (ui yI).symm)
theorem half_of {n p:Nat} (h:2<=n) (hp:∃j,p=2^j) (h1:p=1\/p<n) (h2:¬2*p<n):p=halfN n:=by
  obtain⟨j,rfl⟩:=hp;unfold halfN zam;rw[ur ya,add_sub_cancel];congr 1;symm;refine(Nat.log2_eq_iff ya).2 ⟨by omega,?_⟩;rw[pow_succ];omega
theorem zsy (n:Nat) (h:2<=n) (hn:n<4398046511104):Tells P 202 [.val i64T (n:Int)] (.val i64T (halfN n:Nat)):=by
 refine zc Tryz.func202 rfl rfl rfl (fun ext w hext=>?_);refine ze (d:=0) rfl zz (fun hin0=>?_);refine qf5 ?_;refine qaL ?_;refine CB ?_;refine Lp (ι:=Nat) 0 (fun (p:Nat)=>((Fr.none).set 0 (.val i64T (n:Int))).set 3 (.val i64T (p:Int))) (fun (p:Nat)=>Hp.none) (fun (p:Nat)=>(∃j,p=2^j)/\1<=p/\(p=1\/p<n)) (fun (p:Nat)=>n-p) (1) (⟨⟨0,rfl⟩,ug _,.inl rfl⟩) ?_;intro p hinv;refine qbd ?_;refine A0 (zkT rfl rfl rfl (show _=(((2*p:Nat):Int):Int) from(z8 ya).trans ya)) ?_;refine qaz ?_;refine qa7 ?_;refine Cf (p:=2*p<n) (fun ht7=>?_) (fun ht7=>?_)
 .
  refine CS ?_;refine CB ?_;refine qe5 ?_;refine A0 (zkT rfl rfl rfl (show _=(((2*p:Nat):Int):Int) from(z8 ya).trans ya)) ?_;refine qad ?_;refine CI ?_;exact Nx (2*p) (⟨let ⟨j,hj⟩:=hinv.1;⟨j+1,by rw[hj,pow_succ,mul_comm]⟩,by omega,.inr ht7⟩) ya
 refine qdl ?_;exact zb rfl rfl (za rfl (by rw[half_of h hinv.1 hinv.2.2 ht7]))
theorem zsp (a b:Ab.Id) (ha:a.length=32) (hb:b.length=32):Tells P 263 [.val idT a,.val idT b] (.fresh 5 u8T (zfw a b)):=by
 refine zc Tryz.func263 rfl rfl rfl (fun ext w hext=>?_);refine qav ?_;refine A0 aL ?_;refine CNQ ?_;refine zel (d:=2) rfl rfl (Lens.self _) ?_;refine zel (d:=3) rfl rfl (Lens.self _) ?_;refine CR ?_;refine zbg (T:=u8T) (xs:=[_]) rfl rfl rfl rfl zb0 zat yA rfl rfl ?_;refine qbJ ?_;refine zp rfl rfl rfl rfl rfl rfl rfl zat (by simp[ha,hb]) ?_;refine qby ?_;refine qbJ ?_;refine zp rfl rfl rfl rfl rfl rfl rfl zat (by simp[ha,hb]) ?_;refine qbG ?_;exact zb rfl rfl (zf rfl rfl (by simp[zfw]))
theorem zqW (a b:Ab.Id):Tells P 203 [.val idT a,.val idT b] (.val idT (zsM a b)):=by
 refine zc Tryz.func203 rfl rfl rfl (fun ext w hext=>?_);refine ze (d:=0) rfl zhE (fun ha=>?_);refine ze (d:=1) rfl zhE (fun hb=>?_);refine qav ?_;refine qaC ?_;refine CNQR ?_;refine qbf ?_;refine qbf ?_;refine A0 (oCl (zu (zsp a b ha hb)) rfl fn_263 ye) ?_;refine A0 (oCl (zmP (zfw a b) (by unfold zfw;simp;omega)) rfl zwo yd) ?_;refine qbP ?_;exact zE rfl rfl rfl rfl zY (rfl)
theorem zmR (l:List Ab.Id) (hl:l.length<4398046511104):Tells P 342 [.val (bsl idT) l] (.val idT (zfm l)):=by
 refine zc Tryz.func342 rfl rfl rfl (fun ext w hext=>?_);refine ze (d:=0) rfl zk (fun hsl0=>?_);refine CQR ?_;refine qaC ?_;refine qbD ?_;refine qbj ?_;refine qdh ?_;refine Cf (p:=l.length=0) (fun ht6=>?_) (fun ht6=>?_)
 .
  refine CQR ?_;refine qa6 ?_;refine A0 (oCl (zmP [2] yl) rfl zwo yd) ?_;refine qbP ?_;exact zE rfl rfl rfl rfl zY (by rw[zfm,ut ht6])
 refine qcb ?_;refine qbj ?_;refine qdh ?_;refine Cf (p:=l.length=1) (fun ht11=>?_) (fun ht11=>?_)
 .
  obtain⟨x,hx⟩:∃x,l[0]?=some x:=yr;refine qb1 ?_;refine A0 (zx (i:=0) rfl rfl rfl ya zce yj) ?_;refine qeQ ?_;refine qbP ?_;exact zE rfl rfl rfl rfl zY ybd
 have hp:=zgl l.length;have hh:=ziq (n:=l.length) ya;refine qbY ?_;refine qbj ?_;refine A0 (oCl (zsy l.length ya ya) rfl fn_202 yd) ?_;refine qaL ?_;refine xd ?_;refine qbC ?_;refine qcS ?_;refine X0 (oCl (zmR (l.take (halfN l.length)) yB) rfl zwn yd) ?_;refine qbC ?_;refine X0 (zjt rfl rfl rfl zce yh) ?_;refine X0 (oCl (zmR (l.drop (halfN l.length)) yB) rfl zwn yd) ?_;refine X0 (oCl (zqW _ _) rfl fn_203 ye) ?_;refine XK.e (x:=.idk) (fun fr' hfr kk H=>by exact zg rfl rfl rfl ((hfr 2 yc).trans rfl) rfl (Lens.self _) zY ((hfr 26 yc).trans rfl) (zD H)) ?_;refine qe6 ?_;exact zE rfl rfl rfl rfl zY (by conv=>rhs;rw[zfm,ur ht6,dif_neg ya])
termination_by l.length
decreasing_by
  all_goals (simp;omega)
theorem rtxIds_ok (l:List Tx) (hl:l.length<=4000000000000):Tells P 344 [.val (bsl txT) l] (.fresh 49 idT (l.map idOf)):=by
 refine zc Tryz.func344 rfl rfl rfl (fun ext w hext=>?_);refine ze (d:=0) rfl zk (fun hsl0=>?_);refine qeR ?_;refine qa4 ?_;refine qfL ?_;refine Lp (ι:=Nat) 1 (fun (k:Nat)=>(((Fr.none).set 0 (.val (bsl txT) l)).set 3 (.own 0)).set 4 (.val i64T (k:Int))) (fun (k:Nat)=>(Hp.none).set 0 (.row 49 idT ((l.take k).map idOf))) (fun (k:Nat)=>k<=l.length) (fun (k:Nat)=>l.length-k) (0) (uf _) ?_;intro k hinv;refine qb6 ?_;refine qdH ?_;refine qa7 ?_;refine Cf (p:=k<l.length) (fun ht8=>?_) (fun ht8=>?_)
 .
  obtain⟨x,hx⟩:∃x,l[k]?=some x:=⟨_,ub ht8⟩;refine qaS ?_;refine qcU ?_;refine qal ?_;refine A0 (zx (i:=k) rfl rfl rfl ya zsk yj) ?_;refine A0 (zh rfl rfl zjm) ?_;refine A0 (oCl (rid_ok _) rfl fn_374 yb1) ?_;refine qaJ ?_;refine qan ?_;refine qbI ?_;refine zq (n:=0) (y:=(l.take (k+1)).map idOf) rfl (by rw[un,hx];simp) ?_;exact Nx (k+1) ya ya
 refine qa8 ?_;exact zb rfl rfl (zf rfl rfl yO)
theorem rtxRoot_ok (l:List Tx) (hl:l.length<=4000000000000):Tells P 299 [.val (bsl txT) l] (.val idT (zpp l)):=by
 refine zc Tryz.func299 rfl rfl rfl (fun ext w hext=>?_);refine ze (d:=0) rfl zk (fun hsl0=>?_);refine qbH ?_;refine qaz ?_;refine A0 (oCl (zu (rtxIds_ok l hl)) rfl fn_344 yd) ?_;refine A0 (oCl (zmR (l.map idOf) yB) rfl zwn yd) ?_;refine qbP ?_;exact zE rfl rfl rfl rfl zY (rfl)
theorem fact_idsL {l:List Ab.Id} {ρ:Nat->Value} {B:Nat->Prop} {U N:Nat->Prop} {w:World} {v:Value} (h:(AV.val (bsl idT) l).rel ρ B U N w v):∀x∈l,x.length=32:=fun x hx=>by
  obtain⟨cs,⟨ad,cap,_,_,_,h3⟩,_⟩:=h;obtain⟨_,ds,_,_,hr,_⟩:=h3 (List.ne_nil_of_mem hx);obtain⟨c,hc⟩:=ziS hr x hx;exact hc.1
theorem rleaf_ok (b:List UInt8) (hb:b.length<=1000000):Tells P 373 [.val (bsl u8T) b] (.val idT (zpQ b)):=by
 refine zc Tryz.func373 rfl rfl rfl (fun ext w hext=>?_);refine ze (d:=0) rfl zk (fun hsl0=>?_);refine qbH ?_;refine qa6 ?_;refine zfi (S:=bsl u8T) (d:=3) rfl ?_;refine qaz ?_;refine qbW ?_;refine A0 (oCl (zvE [[0],b] yB) rfl zwm yd) ?_;refine qbP ?_;exact zE rfl rfl rfl rfl zY (by unfold zpQ;simp)
theorem rleaves_ok (l:List Ab.Id) (hl:l.length<=4000000000000):Tells P 343 [.val (bsl idT) l] (.fresh 49 idT (l.map zfx)):=by
 refine zc Tryz.func343 rfl rfl rfl (fun ext w hext=>?_);refine ze (d:=0) rfl zk (fun hsl0=>?_);refine ze (d:=0) rfl fact_idsL (fun hids=>?_);refine qeR ?_;refine qa4 ?_;refine qfL ?_;refine Lp (ι:=Nat) 1 (fun (k:Nat)=>(((Fr.none).set 0 (.val (bsl idT) l)).set 3 (.own 0)).set 4 (.val i64T (k:Int))) (fun (k:Nat)=>(Hp.none).set 0 (.row 49 idT ((l.take k).map zfx))) (fun (k:Nat)=>k<=l.length) (fun (k:Nat)=>l.length-k) (0) (uf _) ?_;intro k hinv;refine qb6 ?_;refine qbj ?_;refine qa7 ?_;refine Cf (p:=k<l.length) (fun ht8=>?_) (fun ht8=>?_)
 .
  obtain⟨x,hx⟩:∃x,l[k]?=some x:=⟨_,ub ht8⟩;have hx32:=hids x (ud hx);refine qaS ?_;refine qcU ?_;refine qal ?_;refine A0 (zx (i:=k) rfl rfl rfl ya zce yj) ?_;refine qbJ ?_;refine A0 (oCl (rleaf_ok x ya) rfl fn_373 yd) ?_;refine qaJ ?_;refine qan ?_;refine qbI ?_;refine zq (n:=0) (y:=(l.take (k+1)).map zfx) rfl (by rw[un,hx];simp[zfx]) ?_;exact Nx (k+1) ya ya
 refine qa8 ?_;exact zb rfl rfl (zf rfl rfl yO)
theorem zl2 (l:List Ab.Id) (hl:l.length<=4000000000000):Tells P 298 [.val (bsl idT) l] (.val idT (zc5 l)):=by
 refine zc Tryz.func298 rfl rfl rfl (fun ext w hext=>?_);refine ze (d:=0) rfl zk (fun hsl0=>?_);refine qbH ?_;refine qaz ?_;refine A0 (oCl (zu (rleaves_ok l hl)) rfl fn_343 yd) ?_;refine A0 (oCl (zmR (l.map zfx) yB) rfl zwn yd) ?_;refine qbP ?_;exact zE rfl rfl rfl rfl zY (rfl)
def nW (a:Wide):Nat:=(a.getD 0 0).toNat+18446744073709551616*(a.getD 1 0).toNat+340282366920938463463374607431768211456*(a.getD 2 0).toNat+6277101735386680763835789423207666416102355444464034512896*(a.getD 3 0).toNat
abbrev W256:Nat:=115792089237316195423570985008687907853269984665640564039457584007913129639936
theorem ztS (a b c:UInt64):(addS a b c).toNat=(a.toNat+b.toNat+c.toNat)%18446744073709551616:=by unfold addS;rw[toNat_ofNat']
theorem ztT (a b:UInt64) {c:UInt64} (h:c.toNat<=1):(addC a b c).toNat=(a.toNat+b.toNat+c.toNat)/18446744073709551616:=by
  have ha:a.toNat<18446744073709551616:=a.toNat_lt;have hb:b.toNat<18446744073709551616:=b.toNat_lt;unfold addC;rw[toNat_ofNat_of_lt' yQ]
theorem ztA (a0 a1 a2 a3 b0 b1 b2 b3:UInt64):zbn addS addC [a0,a1,a2,a3] [b0,b1,b2,b3] 4=([addS a0 b0 0,addS a1 b1 (addC a0 b0 0),addS a2 b2 (addC a1 b1 (addC a0 b0 0)),addS a3 b3 (addC a2 b2 (addC a1 b1 (addC a0 b0 0)))],addC a3 b3 (addC a2 b2 (addC a1 b1 (addC a0 b0 0)))):=rfl
theorem zsN {a:Wide} (_h:a.length=4):nW a<W256:=by
  have h0:(a.getD 0 0).toNat<18446744073709551616:=toNat_lt _;have h1:(a.getD 1 0).toNat<18446744073709551616:=toNat_lt _;have h2:(a.getD 2 0).toNat<18446744073709551616:=toNat_lt _;have h3:(a.getD 3 0).toNat<18446744073709551616:=toNat_lt _;unfold nW W256;omega
theorem zhP {a b:Wide} (ha:a.length=4) (hb:b.length=4) (h:nW a=nW b):a=b:=by
  match a,ha with
  | [a0,a1,a2,a3],_=>match b,hb with
    | [b0,b1,b2,b3],_ =>
      have h0:a0.toNat<18446744073709551616:=a0.toNat_lt;have h1:a1.toNat<18446744073709551616:=a1.toNat_lt;have h2:a2.toNat<18446744073709551616:=a2.toNat_lt;have h3:a3.toNat<18446744073709551616:=a3.toNat_lt;have k0:b0.toNat<18446744073709551616:=b0.toNat_lt;have k1:b1.toNat<18446744073709551616:=b1.toNat_lt;have k2:b2.toNat<18446744073709551616:=b2.toNat_lt;have k3:b3.toNat<18446744073709551616:=b3.toNat_lt;have h:a0.toNat+18446744073709551616*a1.toNat+340282366920938463463374607431768211456*a2.toNat+6277101735386680763835789423207666416102355444464034512896*a3.toNat=b0.toNat+18446744073709551616*b1.toNat+340282366920938463463374607431768211456*b2.toNat+6277101735386680763835789423207666416102355444464034512896*b3.toNat:=h;rw[toNat_inj.1 (show a0.toNat=b0.toNat by omega),toNat_inj.1 (show a1.toNat=b1.toNat by omega),toNat_inj.1 (show a2.toNat=b2.toNat by omega),toNat_inj.1 (show a3.toNat=b3.toNat by omega)]
theorem zbd {a b:Wide} (ha:a.length=4) (hb:b.length=4):(addW a b).length=4:=by
  match a,ha with
  | [a0,a1,a2,a3],_=>match b,hb with
    | [b0,b1,b2,b3],_=>unfold addW;rw[ztA];rfl
theorem zuq {a b:Wide} (ha:a.length=4) (hb:b.length=4):nW (addW a b)=(nW a+nW b)%W256/\(zhb a b=true↔nW a+nW b<W256):=by
  match a,ha with
  | [a0,a1,a2,a3],_=>match b,hb with
    | [b0,b1,b2,b3],_ =>
      have h0:a0.toNat<18446744073709551616:=a0.toNat_lt;have h1:a1.toNat<18446744073709551616:=a1.toNat_lt;have h2:a2.toNat<18446744073709551616:=a2.toNat_lt;have h3:a3.toNat<18446744073709551616:=a3.toNat_lt;have k0:b0.toNat<18446744073709551616:=b0.toNat_lt;have k1:b1.toNat<18446744073709551616:=b1.toNat_lt;have k2:b2.toNat<18446744073709551616:=b2.toNat_lt;have k3:b3.toNat<18446744073709551616:=b3.toNat_lt;have z:(0:UInt64).toNat<=1:=yl;have z0:(0:UInt64).toNat=0:=rfl;have c1:=ztT a0 b0 z;have l1:=zj3 a0 b0 z;have c2:=ztT a1 b1 l1;have l2:=zj3 a1 b1 l1;have c3:=ztT a2 b2 l2;have l3:=zj3 a2 b2 l2;have c4:=ztT a3 b3 l3;have s0:=ztS a0 b0 0;have s1:=ztS a1 b1 (addC a0 b0 0);have s2:=ztS a2 b2 (addC a1 b1 (addC a0 b0 0));have s3:=ztS a3 b3 (addC a2 b2 (addC a1 b1 (addC a0 b0 0)));unfold addW zhb;rw[ztA];unfold nW W256;simp only[getD_cons_zero,getD_cons_succ,uj];rw[z0] at c1 s0;generalize addC a3 b3 (addC a2 b2 (addC a1 b1 (addC a0 b0 0)))=x4 at *;generalize addS a3 b3 (addC a2 b2 (addC a1 b1 (addC a0 b0 0)))=y3 at *;generalize addS a2 b2 (addC a1 b1 (addC a0 b0 0))=y2 at *;generalize addC a2 b2 (addC a1 b1 (addC a0 b0 0))=x3 at *;generalize addS a1 b1 (addC a0 b0 0)=y1 at *;generalize addC a1 b1 (addC a0 b0 0)=x2 at *;generalize addS a0 b0 0=y0 at *;generalize addC a0 b0 0=x1 at *
      constructor
      . omega
      constructor<;>intro h<;>omega
theorem zl8 {a b:Wide} (ha:a.length=4) (hb:b.length=4):nW (addW a b)=(nW a+nW b)%W256:=(zuq ha hb).1
theorem zfO {r:Nat} (h:r<=64):2^r*2^(64-r)=18446744073709551616:=by
  rw[<-pow_add,show r+(64-r)=64 by omega]
theorem shl_n {x:UInt64} {r:Nat} (h:r<64):(zgv x r).toNat=x.toNat*2^r%18446744073709551616:=by
  unfold zgv;rw[toNat_ofNat',Nat.min_eq_left ya]
theorem shr_n {x:UInt64} {r:Nat} (h:r<64):(zax x r).toNat=x.toNat/2^r:=by
  unfold zax;have hx:x.toNat<18446744073709551616:=x.toNat_lt;rw[Nat.min_eq_left ya,toNat_ofNat_of_lt' (by show _<18446744073709551616;have:=div_le_self x.toNat (2^r);omega)]
def upU (x y:UInt64) (r:Nat):UInt64:=zgv x r|||zax (zax y 1) (63-r)
def zmG (x y:UInt64) (r:Nat):UInt64:=zax x r|||zgv (zgv y 1) (63-r)
theorem zvQ {a b i:Nat} (h:b<2^i):(a*2^i)|||b=a*2^i+b:=by
  rw[<-Nat.shiftLeft_eq,Nat.shiftLeft_add_eq_or_of_lt h]
theorem upU_n {x y:UInt64} {r:Nat} (h:r<64):(upU x y r).toNat=x.toNat%2^(64-r)*2^r+y.toNat/2^(64-r):=by
  have hy:y.toNat<18446744073709551616:=y.toNat_lt;unfold upU;rw[toNat_or,shl_n h,shr_n ya,shr_n ya,div_div_eq_div_mul,<-pow_add,show 1+(63-r)=64-r by omega];have e:x.toNat*2^r%18446744073709551616=x.toNat%2^(64-r)*2^r:=by
    rw[<-zfO (r:=r) ya,mul_comm (2^r) (2^(64-r)),Nat.mul_mod_mul_right]
  rw[e,zvQ];rw[Nat.div_lt_iff_lt_mul (two_pow_pos _),zfO ya];exact hy
theorem zrA {x y:UInt64} {r:Nat} (h:r<64):(zmG x y r).toNat=x.toNat/2^r+y.toNat%2^r*2^(64-r):=by
  have hx:x.toNat<18446744073709551616:=x.toNat_lt;unfold zmG;rw[toNat_or,shr_n h,shl_n ya,shl_n ya];have e:y.toNat*2^1%18446744073709551616*2^(63-r)%18446744073709551616=y.toNat%2^r*2^(64-r):=by
    rw[Nat.mod_mul_mod,mul_assoc,<-pow_add,show 1+(63-r)=64-r by omega,<-zfO (r:=r) ya,Nat.mul_mod_mul_right]
  rw[e,Nat.or_comm,zvQ,add_comm];rw[Nat.div_lt_iff_lt_mul (two_pow_pos _),mul_comm,zfO ya];exact hx
theorem up_small {a0 a1 a2 a3:UInt64} {r:Nat} (h:r<64):nW [upU a0 0 r,upU a1 a0 r,upU a2 a1 r,upU a3 a2 r]=nW [a0,a1,a2,a3]*2^r%W256:=by
  have hs:=zfO (r:=r) ya;unfold nW;simp only[getD_cons_zero,getD_cons_succ];rw[upU_n h,upU_n h,upU_n h,upU_n h];have hz:(0:UInt64).toNat=0:=rfl;rw[hz,Nat.zero_div];obtain⟨p,hp⟩:∃p,p=2^r:=⟨_,rfl⟩;obtain⟨s,hs'⟩:∃s,s=2^(64-r):=⟨_,rfl⟩;rw[<-hp,<-hs'] at hs ⊢;have key:∀x:UInt64,∃t c:Nat,x.toNat*p=t+18446744073709551616*c/\x.toNat%s*p=t/\x.toNat/s=c/\c<18446744073709551616:=fun x=>by
    have hx:x.toNat<18446744073709551616:=x.toNat_lt;refine⟨_,_,?_,rfl,rfl,?_⟩
    . have e:=Nat.mod_add_div x.toNat s
      conv=>lhs;rw[<-e]
      rw[add_mul,<-hs,mul_comm s (x.toNat/s),mul_assoc,mul_comm s p,mul_comm (x.toNat/s)]
    exact Nat.lt_of_le_of_lt (div_le_self _ _) hx
  obtain⟨t0,c0,e0,f0,g0,l0⟩:=key a0;obtain⟨t1,c1,e1,f1,g1,l1⟩:=key a1;obtain⟨t2,c2,e2,f2,g2,l2⟩:=key a2;obtain⟨t3,c3,e3,f3,g3,l3⟩:=key a3;have b3:t3<18446744073709551616:=by
    rw[<-f3,<-hs,mul_comm p s];exact Nat.mul_lt_mul_of_pos_right (mod_lt _ ybk) (by rw[hp];exact two_pow_pos _)
  have b:∀{x:UInt64} {t:Nat},x.toNat%s*p=t->t<18446744073709551616:=fun {x t} f=>by
    rw[<-f,<-hs,mul_comm p s];exact Nat.mul_lt_mul_of_pos_right (mod_lt _ ybk) (by rw[hp];exact two_pow_pos _)
  have b0:=b f0;have b1:=b f1;have b2:=b f2;have hd:∀{x:UInt64} {c:Nat},x.toNat/s=c->c<p:=fun {x c} f=>by
    rw[<-f,Nat.div_lt_iff_lt_mul ybk,hs];exact x.toNat_lt
  have hm:∀{x:UInt64} {t:Nat},x.toNat%s*p=t->t+p<=18446744073709551616:=fun {x t} f=>by
    rw[<-f,<-hs,mul_comm p s];have h1:x.toNat%s+1<=s:=mod_lt _ ybk;have h2:=Nat.mul_le_mul_right p h1;rw[add_mul,one_mul] at h2;exact h2
  have d0:=hd g0;have d1:=hd g1;have d2:=hd g2;have m1:=hm f1;have m2:=hm f2;have m3:=hm f3;rw[f0,f1,f2,f3,g0,g1,g2];have e:(a0.toNat+18446744073709551616*a1.toNat+340282366920938463463374607431768211456*a2.toNat+6277101735386680763835789423207666416102355444464034512896*a3.toNat)*p=a0.toNat*p+18446744073709551616*(a1.toNat*p)+340282366920938463463374607431768211456*(a2.toNat*p)+6277101735386680763835789423207666416102355444464034512896*(a3.toNat*p):=by
    rw[add_mul,add_mul,add_mul,mul_assoc,mul_assoc,mul_assoc]
  rw[e,e0,e1,e2,e3];unfold W256;omega
theorem down_small {a0 a1 a2 a3:UInt64} {r:Nat} (h:r<64):nW [zmG a0 a1 r,zmG a1 a2 r,zmG a2 a3 r,zmG a3 0 r]=nW [a0,a1,a2,a3]/2^r:=by
  have hs:=zfO (r:=r) ya;unfold nW;simp only[getD_cons_zero,getD_cons_succ];rw[zrA h,zrA h,zrA h,zrA h];have hz:(0:UInt64).toNat=0:=rfl;rw[hz,Nat.zero_mod,zero_mul];have hpos:=two_pow_pos r;obtain⟨p,hp⟩:∃p,p=2^r:=⟨_,rfl⟩;obtain⟨s,hs'⟩:∃s,s=2^(64-r):=⟨_,rfl⟩;rw[<-hp,<-hs'] at hs ⊢;rw[<-hp] at hpos;have key:∀x:UInt64,∃c d:Nat,x.toNat=p*c+d/\x.toNat/p=c/\x.toNat%p=d/\d<p:=fun x=>⟨_,_,(Nat.div_add_mod _ _).symm,rfl,rfl,mod_lt _ hpos⟩
  obtain⟨c0,d0,e0,f0,g0,l0⟩:=key a0;obtain⟨c1,d1,e1,f1,g1,l1⟩:=key a1;obtain⟨c2,d2,e2,f2,g2,l2⟩:=key a2;obtain⟨c3,d3,e3,f3,g3,l3⟩:=key a3;rw[f0,f1,f2,f3,g1,g2,g3];symm;have e:a0.toNat+18446744073709551616*a1.toNat+340282366920938463463374607431768211456*a2.toNat+6277101735386680763835789423207666416102355444464034512896*a3.toNat=d0+p*(c0+d1*s+18446744073709551616*(c1+d2*s)+340282366920938463463374607431768211456*(c2+d3*s)+6277101735386680763835789423207666416102355444464034512896*(c3+0)):=by
    rw[e0,e1,e2,e3];simp only[mul_add,mul_left_comm p,hs];omega
  rw[e,Nat.add_mul_div_left _ _ hpos,div_eq_of_lt l0,zero_add]
theorem zga {a:Wide} (h:a.length=4):∃a0 a1 a2 a3,a=[a0,a1,a2,a3]:=by
  match a,h with
  | [a0,a1,a2,a3],_=>exact⟨a0,a1,a2,a3,rfl⟩
theorem zjB {a:Wide} {n:Int} (h:a.length=4):(upW a n).length=4:=by
  unfold upW;split
  . exact h
  split
  . rfl
  simp
theorem zei {a:Wide} {n:Int} (h:a.length=4):(zdh a n).length=4:=by
  unfold zdh;split
  . exact h
  split
  . rfl
  simp
theorem nW_up {a:Wide} {n:Nat} (h:a.length=4) (hn:n<256):nW (upW a n)=nW a*2^n%W256:=by
  obtain⟨a0,a1,a2,a3,rfl⟩:=zga h;obtain⟨q,r,rfl,hr⟩:∃q r,n=64*q+r/\r<64:=⟨n/64,n%64,by omega,by omega⟩;have h1:((64*q+r:Nat):Int)/64=q:=ya;have h2:(((64*q+r:Nat):Int)%64).toNat=r:=ya;have hz:=toNat_lt a0;have h3:q<4:=ya;have h4:(63-((64*q+r:Nat):Int)%64).toNat=63-r:=ya;have e:∀b:Wide,b.length=4->(∀i:Nat,i<4->atW [a0,a1,a2,a3] ((i:Int)-q)=b.getD i 0/\atW [a0,a1,a2,a3] ((i:Int)-q-1)=if i=0 then 0 else b.getD (i-1) 0)->nW b=nW [a0,a1,a2,a3]*18446744073709551616^q%W256->nW (upW [a0,a1,a2,a3] ((64*q+r:Nat):Int))=nW [a0,a1,a2,a3]*2^(64*q+r)%W256:=fun b hb hat hnb=>by
    obtain⟨b0,b1,b2,b3,rfl⟩:=zga hb;unfold upW;rw[ur ya,ur ya];have hF:(List.range 4).map (upF [a0,a1,a2,a3] ((64*q+r:Nat):Int))=[upU b0 0 r,upU b1 b0 r,upU b2 b1 r,upU b3 b2 r]:=by
      have hu:∀i,upF [a0,a1,a2,a3] ((64*q+r:Nat):Int) i=upU (atW [a0,a1,a2,a3] ((i:Int)-q)) (atW [a0,a1,a2,a3] ((i:Int)-q-1)) r:=fun i=>by unfold upF upU;rw[h1,h2,h4]
      show [upF _ _ 0,upF _ _ 1,upF _ _ 2,upF _ _ 3]=_;rw[hu,hu,hu,hu,(hat 0 yl).1,(hat 0 yl).2,(hat 1 yl).1,(hat 1 yl).2,(hat 2 yl).1,(hat 2 yl).2,(hat 3 yl).1,(hat 3 yl).2];rfl
    rw[hF,up_small hr,hnb,Nat.mod_mul_mod,pow_add,pow_mul,mul_assoc]
  have hb0:a0.toNat<18446744073709551616:=a0.toNat_lt;have hb1:a1.toNat<18446744073709551616:=a1.toNat_lt;have hb2:a2.toNat<18446744073709551616:=a2.toNat_lt;have hb3:a3.toNat<18446744073709551616:=a3.toNat_lt;have hq:q=0\/q=1\/q=2\/q=3:=ya;rcases hq with rfl|rfl|rfl|rfl
  . refine e [a0,a1,a2,a3] rfl (fun i hi=>?_) ?_
    . match i,hi with
      | 0,_=>exact⟨rfl,rfl⟩
      | 1,_=>exact⟨rfl,rfl⟩
      | 2,_=>exact⟨rfl,rfl⟩
      | 3,_=>exact⟨rfl,rfl⟩
    rw[pow_zero,mul_one,mod_eq_of_lt (zsN h)]
  . refine e [0,a0,a1,a2] rfl (fun i hi=>?_) ?_
    . match i,hi with
      | 0,_=>exact⟨rfl,rfl⟩
      | 1,_=>exact⟨rfl,rfl⟩
      | 2,_=>exact⟨rfl,rfl⟩
      | 3,_=>exact⟨rfl,rfl⟩
    unfold nW W256;simp only[getD_cons_zero,getD_cons_succ];have:(0:UInt64).toNat=0:=rfl;omega
  . refine e [0,0,a0,a1] rfl (fun i hi=>?_) ?_
    . match i,hi with
      | 0,_=>exact⟨rfl,rfl⟩
      | 1,_=>exact⟨rfl,rfl⟩
      | 2,_=>exact⟨rfl,rfl⟩
      | 3,_=>exact⟨rfl,rfl⟩
    unfold nW W256;simp only[getD_cons_zero,getD_cons_succ];have:(0:UInt64).toNat=0:=rfl;omega
  refine e [0,0,0,a0] rfl (fun i hi=>?_) ?_
  . match i,hi with
    | 0,_=>exact⟨rfl,rfl⟩
    | 1,_=>exact⟨rfl,rfl⟩
    | 2,_=>exact⟨rfl,rfl⟩
    | 3,_=>exact⟨rfl,rfl⟩
  unfold nW W256;simp only[getD_cons_zero,getD_cons_succ];have:(0:UInt64).toNat=0:=rfl;omega
theorem zjN {a:Wide} {n:Nat} (h:a.length=4) (hn:n<256):nW (zdh a n)=nW a/2^n:=by
  obtain⟨a0,a1,a2,a3,rfl⟩:=zga h;obtain⟨q,r,rfl,hr⟩:∃q r,n=64*q+r/\r<64:=⟨n/64,n%64,by omega,by omega⟩;have h1:((64*q+r:Nat):Int)/64=q:=ya;have h2:(((64*q+r:Nat):Int)%64).toNat=r:=ya;have h3:q<4:=ya;have h4:(63-((64*q+r:Nat):Int)%64).toNat=63-r:=ya;have e:∀b:Wide,b.length=4->(∀i:Nat,i<4->atW [a0,a1,a2,a3] ((i:Int)+q)=b.getD i 0/\atW [a0,a1,a2,a3] ((i:Int)+q+1)=if i=3 then 0 else b.getD (i+1) 0)->nW b=nW [a0,a1,a2,a3]/18446744073709551616^q->nW (zdh [a0,a1,a2,a3] ((64*q+r:Nat):Int))=nW [a0,a1,a2,a3]/2^(64*q+r):=fun b hb hat hnb=>by
    obtain⟨b0,b1,b2,b3,rfl⟩:=zga hb;unfold zdh;rw[ur ya,ur ya];have hF:(List.range 4).map (zpj [a0,a1,a2,a3] ((64*q+r:Nat):Int))=[zmG b0 b1 r,zmG b1 b2 r,zmG b2 b3 r,zmG b3 0 r]:=by
      have hu:∀i,zpj [a0,a1,a2,a3] ((64*q+r:Nat):Int) i=zmG (atW [a0,a1,a2,a3] ((i:Int)+q)) (atW [a0,a1,a2,a3] ((i:Int)+q+1)) r:=fun i=>by unfold zpj zmG;rw[h1,h2,h4]
      show [zpj _ _ 0,zpj _ _ 1,zpj _ _ 2,zpj _ _ 3]=_;rw[hu,hu,hu,hu,(hat 0 yl).1,(hat 0 yl).2,(hat 1 yl).1,(hat 1 yl).2,(hat 2 yl).1,(hat 2 yl).2,(hat 3 yl).1,(hat 3 yl).2];rfl
    rw[hF,down_small hr,hnb,div_div_eq_div_mul,pow_add,pow_mul]
  have hb0:a0.toNat<18446744073709551616:=a0.toNat_lt;have hb1:a1.toNat<18446744073709551616:=a1.toNat_lt;have hb2:a2.toNat<18446744073709551616:=a2.toNat_lt;have hb3:a3.toNat<18446744073709551616:=a3.toNat_lt;have hq:q=0\/q=1\/q=2\/q=3:=ya;rcases hq with rfl|rfl|rfl|rfl
  . refine e [a0,a1,a2,a3] rfl (fun i hi=>?_) (by rw[pow_zero,div_one])
    match i,hi with
      | 0,_=>exact⟨rfl,rfl⟩
      | 1,_=>exact⟨rfl,rfl⟩
      | 2,_=>exact⟨rfl,rfl⟩
      | 3,_=>exact⟨rfl,rfl⟩
  . refine e [a1,a2,a3,0] rfl (fun i hi=>?_) ?_
    . match i,hi with
      | 0,_=>exact⟨rfl,rfl⟩
      | 1,_=>exact⟨rfl,rfl⟩
      | 2,_=>exact⟨rfl,rfl⟩
      | 3,_=>exact⟨rfl,rfl⟩
    unfold nW;simp only[getD_cons_zero,getD_cons_succ];have:(0:UInt64).toNat=0:=rfl;omega
  . refine e [a2,a3,0,0] rfl (fun i hi=>?_) ?_
    . match i,hi with
      | 0,_=>exact⟨rfl,rfl⟩
      | 1,_=>exact⟨rfl,rfl⟩
      | 2,_=>exact⟨rfl,rfl⟩
      | 3,_=>exact⟨rfl,rfl⟩
    unfold nW;simp only[getD_cons_zero,getD_cons_succ];have:(0:UInt64).toNat=0:=rfl;omega
  refine e [a3,0,0,0] rfl (fun i hi=>?_) ?_
  . match i,hi with
    | 0,_=>exact⟨rfl,rfl⟩
    | 1,_=>exact⟨rfl,rfl⟩
    | 2,_=>exact⟨rfl,rfl⟩
    | 3,_=>exact⟨rfl,rfl⟩
  unfold nW;simp only[getD_cons_zero,getD_cons_succ];have:(0:UInt64).toNat=0:=rfl;omega
theorem zqd {a b:Wide} (ha:a.length=4) (hb:b.length=4):cmpW a b=if nW a<nW b then -1 else if nW b<nW a then 1 else 0:=by
  obtain⟨a0,a1,a2,a3,rfl⟩:=zga ha;obtain⟨b0,b1,b2,b3,rfl⟩:=zga hb;have h0:a0.toNat<18446744073709551616:=a0.toNat_lt;have h1:a1.toNat<18446744073709551616:=a1.toNat_lt;have h2:a2.toNat<18446744073709551616:=a2.toNat_lt;have h3:a3.toNat<18446744073709551616:=a3.toNat_lt;have k0:b0.toNat<18446744073709551616:=b0.toNat_lt;have k1:b1.toNat<18446744073709551616:=b1.toNat_lt;have k2:b2.toNat<18446744073709551616:=b2.toNat_lt;have k3:b3.toNat<18446744073709551616:=b3.toNat_lt;show orL [cmpU a3 b3,cmpU a2 b2,cmpU a1 b1,cmpU a0 b0]=if a0.toNat+18446744073709551616*a1.toNat+340282366920938463463374607431768211456*a2.toNat+6277101735386680763835789423207666416102355444464034512896*a3.toNat<b0.toNat+18446744073709551616*b1.toNat+340282366920938463463374607431768211456*b2.toNat+6277101735386680763835789423207666416102355444464034512896*b3.toNat then -1 else if b0.toNat+18446744073709551616*b1.toNat+340282366920938463463374607431768211456*b2.toNat+6277101735386680763835789423207666416102355444464034512896*b3.toNat<a0.toNat+18446744073709551616*a1.toNat+340282366920938463463374607431768211456*a2.toNat+6277101735386680763835789423207666416102355444464034512896*a3.toNat then 1 else 0
  have c:∀x y:UInt64,cmpU x y=if x.toNat<y.toNat then -1 else if y.toNat<x.toNat then 1 else 0:=fun x y=>by unfold cmpU;simp only[lt_iff_toNat_lt]
  rw[c,c,c,c];by_cases d3:a3.toNat=b3.toNat
  . by_cases d2:a2.toNat=b2.toNat
    . by_cases d1:a1.toNat=b1.toNat
      . rw[d3,d2,d1,ur (Nat.lt_irrefl _),ur (Nat.lt_irrefl _),ur (Nat.lt_irrefl _),ur (Nat.lt_irrefl _),ur (Nat.lt_irrefl _),ur (Nat.lt_irrefl _)]
        by_cases l:a0.toNat<b0.toNat
        . rw[ut l];show(-1:Int)=_;rw[ut ya]
        rw[ur l];by_cases l2:b0.toNat<a0.toNat
        . rw[ut l2];show(1:Int)=_;rw[ur ya,ut ya]
        rw[ur l2];show(0:Int)=_;rw[ur ya,ur ya]
      rw[d3,d2,ur (Nat.lt_irrefl _),ur (Nat.lt_irrefl _),ur (Nat.lt_irrefl _),ur (Nat.lt_irrefl _)];by_cases l:a1.toNat<b1.toNat
      . rw[ut l];show(-1:Int)=_;rw[ut ya]
      rw[ur l,ut (show b1.toNat<a1.toNat by omega)];show(1:Int)=_;rw[ur ya,ut ya]
    rw[d3,ur (Nat.lt_irrefl _),ur (Nat.lt_irrefl _)];by_cases l:a2.toNat<b2.toNat
    . rw[ut l];show(-1:Int)=_;rw[ut ya]
    rw[ur l,ut (show b2.toNat<a2.toNat by omega)];show(1:Int)=_;rw[ur ya,ut ya]
  by_cases l:a3.toNat<b3.toNat
  . rw[ut l];show(-1:Int)=_;rw[ut ya]
  rw[ur l,ut (show b3.toNat<a3.toNat by omega)];show(1:Int)=_;rw[ur ya,ut ya]
theorem zvp (a b:UInt64) {c:UInt64} (h:c.toNat<=1):(subS a b c).toNat=(a.toNat+18446744073709551616-b.toNat-c.toNat)%18446744073709551616:=by unfold subS;rw[toNat_ofNat']
theorem zvq (a b c:UInt64):(subC a b c).toNat=if a.toNat<b.toNat+c.toNat then 1 else 0:=by unfold subC;split<;>rfl
theorem ztz (a0 a1 a2 a3 b0 b1 b2 b3:UInt64):zbn subS subC [a0,a1,a2,a3] [b0,b1,b2,b3] 4=([subS a0 b0 0,subS a1 b1 (subC a0 b0 0),subS a2 b2 (subC a1 b1 (subC a0 b0 0)),subS a3 b3 (subC a2 b2 (subC a1 b1 (subC a0 b0 0)))],subC a3 b3 (subC a2 b2 (subC a1 b1 (subC a0 b0 0)))):=rfl
theorem zmM {a b:Wide} (ha:a.length=4) (hb:b.length=4):(subW a b).length=4:=by
  obtain⟨a0,a1,a2,a3,rfl⟩:=zga ha;obtain⟨b0,b1,b2,b3,rfl⟩:=zga hb;unfold subW;rw[ztz];rfl
theorem zvW {a b:Wide} (ha:a.length=4) (hb:b.length=4):nW (subW a b)=(nW a+W256-nW b)%W256/\(zsb a b=true↔nW b<=nW a):=by
  obtain⟨a0,a1,a2,a3,rfl⟩:=zga ha;obtain⟨b0,b1,b2,b3,rfl⟩:=zga hb;have h0:a0.toNat<18446744073709551616:=a0.toNat_lt;have h1:a1.toNat<18446744073709551616:=a1.toNat_lt;have h2:a2.toNat<18446744073709551616:=a2.toNat_lt;have h3:a3.toNat<18446744073709551616:=a3.toNat_lt;have k0:b0.toNat<18446744073709551616:=b0.toNat_lt;have k1:b1.toNat<18446744073709551616:=b1.toNat_lt;have k2:b2.toNat<18446744073709551616:=b2.toNat_lt;have k3:b3.toNat<18446744073709551616:=b3.toNat_lt;have z0:(0:UInt64).toNat=0:=rfl;have c1:=zvq a0 b0 0;have c2:=zvq a1 b1 (subC a0 b0 0);have c3:=zvq a2 b2 (subC a1 b1 (subC a0 b0 0));have c4:=zvq a3 b3 (subC a2 b2 (subC a1 b1 (subC a0 b0 0)));have s0:=zvp a0 b0 (show(0:UInt64).toNat<=1 by decide);have s1:=zvp a1 b1 (zqE a0 b0 0);have s2:=zvp a2 b2 (zqE a1 b1 (subC a0 b0 0));have s3:=zvp a3 b3 (zqE a2 b2 (subC a1 b1 (subC a0 b0 0)));unfold subW zsb;rw[ztz];unfold nW W256;simp only[getD_cons_zero,getD_cons_succ,uj];rw[z0] at c1 s0;generalize subC a3 b3 (subC a2 b2 (subC a1 b1 (subC a0 b0 0)))=x4 at *;generalize subS a3 b3 (subC a2 b2 (subC a1 b1 (subC a0 b0 0)))=y3 at *;generalize subS a2 b2 (subC a1 b1 (subC a0 b0 0))=y2 at *;generalize subC a2 b2 (subC a1 b1 (subC a0 b0 0))=x3 at *;generalize subS a1 b1 (subC a0 b0 0)=y1 at *;generalize subC a1 b1 (subC a0 b0 0)=x2 at *;generalize subS a0 b0 0=y0 at *;generalize subC a0 b0 0=x1 at *;have e0:y0.toNat+b0.toNat=a0.toNat+18446744073709551616*x1.toNat:=by split at c1<;>omega
  have e1:y1.toNat+b1.toNat+x1.toNat=a1.toNat+18446744073709551616*x2.toNat:=by split at c1<;>split at c2<;>omega
  have e2:y2.toNat+b2.toNat+x2.toNat=a2.toNat+18446744073709551616*x3.toNat:=by split at c2<;>split at c3<;>omega
  have e3:y3.toNat+b3.toNat+x3.toNat=a3.toNat+18446744073709551616*x4.toNat:=by split at c3<;>split at c4<;>omega
  have l0:y0.toNat<18446744073709551616:=y0.toNat_lt;have l1:y1.toNat<18446744073709551616:=y1.toNat_lt;have l2:y2.toNat<18446744073709551616:=y2.toNat_lt;have l3:y3.toNat<18446744073709551616:=y3.toNat_lt;have l4:x4.toNat<=1:=by split at c4<;>omega
  clear c1 c2 c3 c4 s0 s1 s2 s3
  constructor
  . omega
  constructor<;>intro h<;>omega
theorem limb_n {a:Wide} {q:Nat} (h:a.length=4) (hq:q<4):(a.getD q 0).toNat=nW a/18446744073709551616^q%18446744073709551616:=by
  obtain⟨a0,a1,a2,a3,rfl⟩:=zga h;have h0:a0.toNat<18446744073709551616:=a0.toNat_lt;have h1:a1.toNat<18446744073709551616:=a1.toNat_lt;have h2:a2.toNat<18446744073709551616:=a2.toNat_lt;have h3:a3.toNat<18446744073709551616:=a3.toNat_lt;unfold nW;simp only[getD_cons_zero,getD_cons_succ]
  match q,hq with
  | 0,_=>simp only[getD_cons_zero];omega
  | 1,_=>simp only[getD_cons_zero,getD_cons_succ];omega
  | 2,_=>simp only[getD_cons_zero,getD_cons_succ];omega
  | 3,_=>simp only[getD_cons_zero,getD_cons_succ];omega
theorem set_n {a:Wide} {q:Nat} {v:UInt64} (h:a.length=4) (hq:q<4):nW (a.set q v)+(a.getD q 0).toNat*18446744073709551616^q=nW a+v.toNat*18446744073709551616^q:=by
  obtain⟨a0,a1,a2,a3,rfl⟩:=zga h;unfold nW
  match q,hq with
  | 0,_=>simp only[set_cons_zero,getD_cons_zero,getD_cons_succ];omega
  | 1,_=>simp only[set_cons_zero,set_cons_succ,getD_cons_zero,getD_cons_succ];omega
  | 2,_=>simp only[set_cons_zero,set_cons_succ,getD_cons_zero,getD_cons_succ];omega
  | 3,_=>simp only[set_cons_zero,set_cons_succ,getD_cons_zero,getD_cons_succ];omega
theorem orBit_n {a:Wide} {n K:Nat} (h:a.length=4) (hn:n<256) (hd:nW a=K*2^(n+1)):nW (zlF a n)=nW a+2^n:=by
  obtain⟨q,r,rfl,hr⟩:∃q r,n=64*q+r/\r<64:=⟨n/64,n%64,by omega,by omega⟩;have hq:q<4:=ya;have e1:(64*q+r)/64=q:=ya;have e2:(64*q+r)%64=r:=ya;unfold zlF;rw[e1,e2];have hs:=set_n (v:=a.getD q default|||zgv 1 r) h hq;have hl:=limb_n h hq;have ep:2^(64*q+r+1)=18446744073709551616^q*2^(r+1):=by rw[Nat.add_assoc,pow_add,pow_mul]
  have epn:2^(64*q+r)=18446744073709551616^q*2^r:=by rw[pow_add,pow_mul]
  have hb:0<18446744073709551616^q:=Nat.pow_pos yl;have hl2:(a.getD q 0).toNat=K%2^(63-r)*2^(r+1):=by
    rw[hl,hd,ep,mul_left_comm,Nat.mul_div_cancel_left _ hb,<-zfO (r:=r+1) ya,show 64-(r+1)=63-r by omega,mul_comm (2^(r+1)) (2^(63-r)),Nat.mul_mod_mul_right]
  have hv:(a.getD q default|||zgv 1 r).toNat=(a.getD q 0).toNat+2^r:=by
    have h1:(zgv 1 r).toNat=2^r:=by
      rw[shl_n hr];show 1*2^r%_=_;rw[one_mul,mod_eq_of_lt];exact Nat.pow_lt_pow_right yl hr
    rw[toNat_or,h1];show(a.getD q 0).toNat|||2^r=_
    rw[hl2,zvQ (Nat.pow_lt_pow_right yl ya)]
  rw[hv,add_mul,mul_comm (2^r),<-epn] at hs;omega
theorem bitLen_n (n:Nat):n<2^zam n/\(0<n->2^(zam n-1)<=n):=by
  unfold zam
  split
  . rename_i h;subst h;exact⟨by decide,fun h=>absurd h yl⟩
  rename_i h;exact⟨Nat.lt_log2_self,fun _=>by rw[add_sub_cancel];exact Nat.log2_self_le h⟩
theorem longW_n {a:Wide} (h:a.length=4):nW a<2^longW a/\(0<nW a->1<=longW a/\2^(longW a-1)<=nW a):=by
  obtain⟨a0,a1,a2,a3,rfl⟩:=zga h;have h0:a0.toNat<18446744073709551616:=a0.toNat_lt;have h1:a1.toNat<18446744073709551616:=a1.toNat_lt;have h2:a2.toNat<18446744073709551616:=a2.toNat_lt;have h3:a3.toNat<18446744073709551616:=a3.toNat_lt;have key:∀(x k R:Nat) ,0<x->R<18446744073709551616^k->R+18446744073709551616^k*x<2^(k*64+zam x)/\1<=k*64+zam x/\2^(k*64+zam x-1)<=R+18446744073709551616^k*x:=fun x k R hx hR=>by
    obtain⟨b1,b2⟩:=bitLen_n x;have b2:=b2 hx;have b3:1<=zam x:=zqj hx;have e:2^(k*64+zam x)=18446744073709551616^k*2^zam x:=by rw[mul_comm k 64,pow_add,pow_mul]
    have e':2^(k*64+zam x-1)=18446744073709551616^k*2^(zam x-1):=by rw[Nat.add_sub_assoc b3,mul_comm k 64,pow_add,pow_mul]
    refine⟨?_,by omega,?_⟩
    . rw[e]
      have:=Nat.mul_le_mul_left (18446744073709551616^k) (show x+1<=2^zam x from b1)
      rw[mul_add,mul_one] at this;omega
    rw[e']
    have:=Nat.mul_le_mul_left (18446744073709551616^k) b2
    omega
  unfold longW;simp only[zmz,getD_cons_succ,getD_cons_zero];unfold nW;simp only[getD_cons_succ,getD_cons_zero];by_cases c3:0<a3.toNat
  . rw[ut c3]
    obtain⟨x,y,z⟩:=key a3.toNat 3 (a0.toNat+18446744073709551616*a1.toNat+340282366920938463463374607431768211456*a2.toNat) c3 ya;exact⟨x,fun _=>⟨y,z⟩⟩
  rw[ur c3];have z3:a3.toNat=0:=ya;rw[z3];by_cases c2:0<a2.toNat
  . rw[ut c2]
    obtain⟨x,y,z⟩:=key a2.toNat 2 (a0.toNat+18446744073709551616*a1.toNat) c2 ya;exact⟨x,fun _=>⟨y,z⟩⟩
  rw[ur c2];have z2:a2.toNat=0:=ya;rw[z2];by_cases c1:0<a1.toNat
  . rw[ut c1]
    obtain⟨x,y,z⟩:=key a1.toNat 1 a0.toNat c1 ya;rw[Nat.pow_one] at x z;exact⟨x,fun _=>⟨y,z⟩⟩
  rw[ur c1];have z1:a1.toNat=0:=ya;rw[z1];by_cases c0:0<a0.toNat
  . rw[ut c0]
    obtain⟨x,y,z⟩:=key a0.toNat 0 0 c0 yl;exact⟨by simpa using x,fun _=>⟨y,by simpa using z⟩⟩
  rw[ur c0];have z0:a0.toNat=0:=ya;rw[z0];exact⟨by decide,fun h=>absurd h yl⟩
theorem divN_n {b:Wide} (hb:b.length=4) {A:Nat}:∀(n:Nat) (x:Wide×Wide),x.1.length=4->x.2.length=4->nW b*2^n<=2*W256->n<=256->A=nW x.2*nW b+nW x.1->nW x.1<nW b*2^n->(∃K,nW x.2=K*2^n)->(∀k,k<n->nW b*2^k<W256)->
    (divN b n x).1.length=4/\(divN b n x).2.length=4/\A=nW (divN b n x).2*nW b+nW (divN b n x).1/\nW (divN b n x).1<nW b
  | 0,x,h1,h2,_,_,h3,h4,_,_=>⟨h1,h2,h3,by rw[pow_zero,mul_one] at h4;exact h4⟩
  | n+1,x,h1,h2,h5,h6,h3,h4,⟨K,hK⟩,h8=>by
    have hup:=nW_up (a:=b) (n:=n) hb ya;have hlt:=h8 n ya;rw[mod_eq_of_lt hlt] at hup;have hul:=zjB (n:=(n:Int)) hb;obtain⟨s1,s2⟩:=zvW h1 hul;have hx1:=zsN h1;have ep:2^(n+1)=2*2^n:=by rw[pow_succ,mul_comm]
    have eb:nW b*2^(n+1)=2*(nW b*2^n):=by rw[ep,mul_left_comm]
    rw[divN];unfold zjY;by_cases c:zsb x.1 (upW b n)=true
    . rw[ut c]
      have hle:=s2.1 c;rw[hup] at hle s1;have e1:nW (subW x.1 (upW b n))=nW x.1-nW b*2^n:=by rw[s1,show nW x.1+W256-nW b*2^n=(nW x.1-nW b*2^n)+W256 by omega,Nat.add_mod_right,mod_eq_of_lt ya]
      have e2:=orBit_n h2 (show n<256 by omega) hK;refine divN_n hb n (subW x.1 (upW b n),zlF x.2 n) (show(subW x.1 (upW b n)).length=4 from zmM h1 hul) (by show(zlF x.2 n).length=4;unfold zlF;rw[length_set];exact h2) ya ya ?_ ?_ ⟨2*K+1,?_⟩ (fun k hk=>h8 k ya)
      . show A=nW (zlF x.2 n)*nW b+nW (subW x.1 (upW b n))
        rw[e1,e2,add_mul,mul_comm (2^n)];omega
      . show nW (subW x.1 (upW b n))<_
        rw[e1];omega
      show nW (zlF x.2 n)=_;rw[e2,hK,ep,add_mul,one_mul,mul_comm 2 K,mul_assoc]
    rw[ur c];have hgt:nW x.1<nW b*2^n:=by
      rw[<-hup];exact Nat.lt_of_not_le fun hh=>c (s2.2 hh)
    exact divN_n hb n x h1 h2 ya ya h3 hgt ⟨K*2,by rw[hK,ep,mul_assoc]⟩ (fun k hk=>h8 k ya)
theorem zra:nW zaG=0:=rfl
theorem nW_pos {b:Wide} (hb:b.length=4) (h:b≠zaG):0<nW b:=by
  refine Nat.pos_of_ne_zero fun e=>h (zhP hb rfl (by rw[e];rfl))
theorem nW_div {a b:Wide} (ha:a.length=4) (hb:b.length=4) (h:b≠zaG):(divW a b).length=4/\(remW a b).length=4/\nW (divW a b)=nW a/nW b/\nW (remW a b)=nW a%nW b:=by
  have hp:=nW_pos hb h;obtain⟨la,_⟩:=longW_n ha;obtain⟨lb,lb2⟩:=longW_n hb;obtain⟨lb3,lb4⟩:=lb2 hp;have wa:=zrf a;have pw:2^256=W256:=yl;have hn:longW a+1-longW b<=256:=ya;have hover:∀k,k<longW a+1-longW b->nW b*2^k<W256:=fun k hk=>by
    have h1:nW b*2^k<2^longW b*2^k:=Nat.mul_lt_mul_of_pos_right lb (two_pow_pos k);rw[<-pow_add] at h1;have h2:2^(longW b+k)<=2^256:=Nat.pow_le_pow_right yl ya;rw[pw] at h2;omega
  have hstart:nW a<nW b*2^(longW a+1-longW b):=by
    have h1:2^(longW b-1)*2^(longW a+1-longW b)<=nW b*2^(longW a+1-longW b):=Nat.mul_le_mul_right _ lb4;rw[<-pow_add] at h1;have h2:2^longW a<=2^(longW b-1+(longW a+1-longW b)):=Nat.pow_le_pow_right yl ya;omega
  obtain⟨N,hN⟩:∃N,N=longW a+1-longW b:=⟨_,rfl⟩;unfold divW remW divP;rw[ur h];rw[<-hN] at hn hover hstart ⊢;show(divN b N (a,zaG)).2.length=4/\(divN b N (a,zaG)).1.length=4/\nW (divN b N (a,zaG)).2=_/\nW (divN b N (a,zaG)).1=_;have hbound:nW b*2^N<=2*W256:=by
    cases N with
    | zero=>rw[pow_zero,mul_one];have:=zsN hb;omega
    | succ n=>have:=hover n ya;rw[pow_succ,<-mul_assoc];omega
  obtain⟨g1,g2,g3,g4⟩:=divN_n hb (A:=nW a) N (a,zaG) ha rfl hbound hn (by show nW a=nW zaG*nW b+nW a;rw[zra,zero_mul,zero_add]) hstart ⟨0,by rw[zero_mul];rfl⟩ hover;refine⟨g2,g1,?_,?_⟩
  . conv=>rhs;rw[g3]
    rw[add_comm,Nat.add_mul_div_right _ _ hp,div_eq_of_lt g4,zero_add]
  conv=>rhs;rw[g3]
  rw[add_comm,Nat.add_mul_mod_self_right,mod_eq_of_lt g4]
def rcmp (a b:Wide):Nat->Int
  | 0=>0
  | k+1=>if cmpU (a.getD k default) (b.getD k default)=0 then rcmp a b k else cmpU (a.getD k default) (b.getD k default)
theorem rcmp_all (a b:Wide):cmpW a b=rcmp a b 4:=rfl
theorem rcmp_lt {a b:Wide} {k:Nat} (hk:0<k) (h:a.getD (k-1) default<b.getD (k-1) default):rcmp a b k = -1:=by
  obtain⟨j,rfl⟩:∃j,k=j+1:=⟨k-1,by omega⟩;rw[add_sub_cancel] at h;rw[rcmp];have e:cmpU (a.getD j default) (b.getD j default) = -1:=by unfold cmpU;rw[ut h]
  rw[e];rfl
theorem rcmp_gt {a b:Wide} {k:Nat} (hk:0<k) (h1:¬a.getD (k-1) default<b.getD (k-1) default) (h:b.getD (k-1) default<a.getD (k-1) default):rcmp a b k=1:=by
  obtain⟨j,rfl⟩:∃j,k=j+1:=⟨k-1,by omega⟩;rw[add_sub_cancel] at h h1;rw[rcmp];have e:cmpU (a.getD j default) (b.getD j default)=1:=by unfold cmpU;rw[ur h1,ut h]
  rw[e];rfl
theorem rcmp_eq {a b:Wide} {k:Nat} (hk:0<k) (h1:¬a.getD (k-1) default<b.getD (k-1) default) (h:¬b.getD (k-1) default<a.getD (k-1) default):rcmp a b k=rcmp a b (k-1):=by
  obtain⟨j,rfl⟩:∃j,k=j+1:=⟨k-1,by omega⟩;rw[add_sub_cancel] at h h1 ⊢;rw[rcmp];have e:cmpU (a.getD j default) (b.getD j default)=0:=by unfold cmpU;rw[ur h1,ur h]
  rw[e,ut rfl]
def radF (a b:Wide) (i:Nat):UInt64:=addS (a.getD i default) (b.getD i default) (zbn addS addC a b i).2
theorem radF_all {a b:Wide} (ha:a.length=4) (hb:b.length=4):(List.range 4).map (radF a b)=addW a b:=by
  obtain⟨a0,a1,a2,a3,rfl⟩:=zga ha;obtain⟨b0,b1,b2,b3,rfl⟩:=zga hb;rfl
theorem zhI {a b:Wide} {k:Nat} (ha:a.length=4) (hb:b.length=4) (hk:k<4):(zbn addS addC a b (k+1)).2=addC (a.getD k default) (b.getD k default) (zbn addS addC a b k).2:=by
  obtain⟨a0,a1,a2,a3,rfl⟩:=zga ha;obtain⟨b0,b1,b2,b3,rfl⟩:=zga hb
  match k,hk with
  | 0,_=>rfl
  | 1,_=>rfl
  | 2,_=>rfl
  | 3,_=>rfl
theorem zu6 (x y c:UInt64):addS x y c=x+y+c:=by
  apply toNat_inj.1;rw[ztS,toNat_add,toNat_add];omega
theorem add_over {x y c:UInt64} (hc:c.toNat<=1):addC x y c=if x+y<x\/x+y+c<x+y then 1 else 0:=by
  have hx:x.toNat<18446744073709551616:=x.toNat_lt;have hy:y.toNat<18446744073709551616:=y.toNat_lt;apply toNat_inj.1;rw[ztT _ _ hc];simp only[lt_iff_toNat_lt,toNat_add]
  split
  . show _=1;omega
  show _=0;omega
theorem zlB (n:UInt64):Tells P 341 [.val u64T n] (.val zV (ofW n)):=by
 refine zc Tryz.func341 rfl rfl rfl (fun ext w hext=>?_);refine CQR ?_;refine qa1 ?_;refine qd5 ?_;refine qdE ?_;refine qaf ?_;refine CN ?_;exact zE rfl rfl rfl rfl zag (rfl)
theorem zmW (a b:Wide):Tells P 377 [.val zV a,.val zV b] (.val i64T (cmpW a b)):=by
 refine zc Tryz.func377 rfl rfl rfl (fun ext w hext=>?_);refine ze (d:=0) rfl zaI (fun ha=>?_);refine ze (d:=1) rfl zaI (fun hb=>?_);refine qav ?_;refine qcz ?_;refine Lp (ι:=Nat) 2 (fun (k:Nat)=>(((Fr.none).set 2 (.ptr 0 0)).set 3 (.ptr 1 0)).set 5 (.val i64T ((k:Int)-1))) (fun (k:Nat)=>((Hp.none).set 0 (.box 52 zV a)).set 1 (.box 52 zV b)) (fun (k:Nat)=>k<=4/\cmpW a b=rcmp a b k) (fun (k:Nat)=>k) (4) (⟨ug _,rcmp_all a b⟩) ?_;intro k hinv;refine qfR ?_;refine Cf (p:=0<k) (fun ht7=>?_) (fun ht7=>?_)
 .
  refine qaS ?_;refine CQ ?_;refine qdO ?_;refine G0 (zy (i:=k-1) rfl rfl rfl yi zbm ya) ?_;refine xt ?_;refine G0 mV ?_;refine G0 (zy (i:=k-1) rfl rfl rfl yi zbm ya) ?_;refine xt ?_;refine G0 zc4 ?_;refine GK.nil ?_;refine zl (p:=a.getD (k-1) default<b.getD (k-1) default) rfl ya0 (fun ht16=>?_) (fun ht16=>?_)
  .
   refine qar ?_;exact zb rfl rfl (za rfl (by rw[hinv.2,rcmp_lt ht7 ht16]))
  refine CS ?_;refine qdO ?_;refine G0 (zy (i:=k-1) rfl rfl rfl yi zbm ya) ?_;refine xt ?_;refine G0 mV ?_;refine G0 (zy (i:=k-1) rfl rfl rfl yi zbm ya) ?_;refine xt ?_;refine G0 zcq ?_;refine GK.nil ?_;refine zl (p:=b.getD (k-1) default<a.getD (k-1) default) rfl ya0 (fun ht23=>?_) (fun ht23=>?_)
  .
   refine qar ?_;exact zb rfl rfl (za rfl (by rw[hinv.2,rcmp_gt ht7 ht16 ht23]))
  refine qeX ?_;refine zj (d:=5) (y:=((k-1:Nat):Int)-1) rfl ya ?_;exact Nx (k-1) (⟨by omega,by rw[hinv.2,rcmp_eq ht7 ht16 ht23]⟩) ya
 obtain rfl:k=0:=ya;refine qcs ?_;exact zb rfl rfl (za rfl (by rw[hinv.2];rfl))
theorem zdz (a b:Wide):Tells P 372 [.val zV a,.val zV b] (.tup2 (.val zV (addW a b)) (.val zo (zhb a b))):=by
 refine zc Tryz.func372 rfl rfl rfl (fun ext w hext=>?_);refine ze (d:=0) rfl zaI (fun ha=>?_);refine ze (d:=1) rfl zaI (fun hb=>?_);refine qfh ?_;refine qa1 ?_;refine CNQR ?_;refine qcz ?_;refine Lp (ι:=Nat) 4 (fun (k:Nat)=>((((((Fr.none).set 2 (.ptr 0 0)).set 3 (.ptr 1 0)).set 4 (.ptr 2 0)).set 6 (.ptr 3 0)).set 7 (.val u64T (zbn addS addC a b k).2)).set 8 (.val i64T (k:Int))) (fun (k:Nat)=>((((Hp.none).set 0 (.box 52 zV a)).set 1 (.box 52 zV b)).set 2 (.box 52 zV zaG)).set 3 (.box 52 zV (setN (radF a b) zaG k))) (fun (k:Nat)=>k<=4/\(zbn addS addC a b k).2.toNat<=1) (fun (k:Nat)=>4-k) (0) (⟨uf _,uf 1⟩) ?_;intro k hinv;refine qes ?_;refine Cf (p:=k<4) (fun ht12=>?_) (fun ht12=>?_)
 .
  have hc2:=(zhI ha hb ht12).trans (add_over hinv.2);refine qaS ?_;refine qdO ?_;refine G0 (zy (i:=k) rfl rfl rfl yi zbm ya) ?_;refine G0 (zr rfl rfl rfl (Lens.elem (i:=k) ya u64T) za2) ?_;refine G0 mV ?_;refine G0 (zy (i:=k) rfl rfl rfl yi zbm ya) ?_;refine G0 (zr rfl rfl rfl (Lens.elem (i:=k) ya u64T) za2) ?_;refine G0 (zrs rfl rfl rfl) ?_;refine qaM ?_;refine CQR ?_;refine qal ?_;refine qeI ?_;refine qaj ?_;refine qag ?_;refine qaz ?_;refine xu ?_;refine A0 (zr rfl rfl rfl (Lens.elem (i:=k) ya u64T) za2) ?_;refine qcZ ?_;refine zX (d:=30) (p:=a.getD k default+b.getD k default<a.getD k default) rfl (uo.2 (by rw[lt_iff_toNat_lt];exact Int.ofNat_lt)) (fun g30=>?_) (fun g30=>?_)
  .
   refine qcA ?_;refine Ct ?_;refine CR ?_;refine qcc ?_;refine qal ?_;refine xu ?_;refine xv ?_;refine qbi ?_;refine zt (n:=3) (y:=setN (radF a b) zaG (k+1)) rfl (by rw[<-zfN];unfold radF;rw[zu6]) ?_;refine zj (d:=7) (y:=(zbn addS addC a b (k+1)).2) rfl (by rw[hc2,ut (.inl g30)];rfl) ?_;exact Nx (k+1) (⟨by omega,by rw[zhI ha hb ht12];exact zj3 _ _ hinv.2⟩) ya
  refine qdi ?_;refine A1 zc4 ?_;refine qat ?_;refine zl (p:=a.getD k default+b.getD k default+(zbn addS addC a b k).2<a.getD k default+b.getD k default) rfl (uo.2 (by rw[lt_iff_toNat_lt];exact Int.ofNat_lt)) (fun ht34=>?_) (fun ht34=>?_)
  .
   refine CR ?_;refine qcc ?_;refine qal ?_;refine xu ?_;refine xv ?_;refine qbi ?_;refine zt (n:=3) (y:=setN (radF a b) zaG (k+1)) rfl (by rw[<-zfN];unfold radF;rw[zu6]) ?_;refine zj (d:=7) (y:=(zbn addS addC a b (k+1)).2) rfl (by rw[hc2,ut (.inr ht34)];rfl) ?_;exact Nx (k+1) (⟨by omega,by rw[zhI ha hb ht12];exact zj3 _ _ hinv.2⟩) ya
  refine CS ?_;refine qfJ ?_;refine xu ?_;refine xv ?_;refine qbi ?_;refine zt (n:=3) (y:=setN (radF a b) zaG (k+1)) rfl (by rw[<-zfN];unfold radF;rw[zu6]) ?_;refine zj (d:=7) (y:=(zbn addS addC a b (k+1)).2) rfl (by rw[hc2,ur (fun h=>h.elim g30 ht34)];rfl) ?_;exact Nx (k+1) (⟨by omega,by rw[zhI ha hb ht12];exact zj3 _ _ hinv.2⟩) ya
 obtain rfl:k=4:=ya;refine qeL ?_;exact zi rfl rfl (zm rfl rfl zag ((zkl (k:=4) rfl).trans (radF_all ha hb))) (zC (za rfl (by unfold zhb;rw[uo];simp[IntL.toI])))
def maxU:UInt64:=UInt64.ofNat (Int.toNat 18446744073709551615)
def zs2:UInt64:=UInt64.ofNat (Int.toNat 9223372036854775808)
theorem maxU_n:maxU.toNat=18446744073709551615:=by unfold maxU;rw[show Int.toNat 18446744073709551615=18446744073709551615 from rfl];exact toNat_ofNat_of_lt' yl
theorem highU_n:zs2.toNat=9223372036854775808:=by unfold zs2;rw[show Int.toNat 9223372036854775808=9223372036854775808 from rfl];exact toNat_ofNat_of_lt' yl
def compF (b:Wide) (i:Nat):UInt64:=maxU-b.getD i default
def compW (b:Wide):Wide:=(List.range 4).map (compF b)
theorem compW_n {b:Wide} (hb:b.length=4):(compW b).length=4/\nW (compW b)=W256-1-nW b:=by
  obtain⟨b0,b1,b2,b3,rfl⟩:=zga hb;have e:∀x:UInt64,(maxU-x).toNat=18446744073709551615-x.toNat:=fun x=>by
    have hx:x.toNat<18446744073709551616:=x.toNat_lt;rw[UInt64.toNat_sub_of_le _ _ (by rw[UInt64.le_iff_toNat_le,maxU_n];omega),maxU_n]
  refine⟨rfl,?_⟩;show nW [maxU-b0,maxU-b1,maxU-b2,maxU-b3]=_;have k0:b0.toNat<18446744073709551616:=b0.toNat_lt;have k1:b1.toNat<18446744073709551616:=b1.toNat_lt;have k2:b2.toNat<18446744073709551616:=b2.toNat_lt;have k3:b3.toNat<18446744073709551616:=b3.toNat_lt;unfold nW W256;simp only[getD_cons_zero,getD_cons_succ,e];omega
theorem rsub_eq {a b:Wide} (ha:a.length=4) (hb:b.length=4):addW (addW a (compW b)) (ofW 1)=subW a b:=by
  obtain⟨c1,c2⟩:=compW_n hb;refine zhP (zbd (zbd ha c1) rfl) (zmM ha hb) ?_;rw[zl8 (zbd ha c1) rfl,zl8 ha c1,c2,(zvW ha hb).1];have h1:=zsN ha;have h2:=zsN hb;have h3:nW (ofW 1)=1:=rfl;rw[h3];unfold W256 at *;omega
theorem rsub_ok {a b:Wide} (ha:a.length=4) (hb:b.length=4):decide (0<=cmpW a b)=zsb a b:=by
  rw[Bool.eq_iff_iff,decide_eq_true_iff,(zvW ha hb).2,zqd ha hb]
  split
  . omega
  split<;>omega
def hafF (a:Wide) (i:Nat):UInt64:=a.getD i default/2+(if i=3 then 0 else a.getD (i+1) default%2*zs2)
def hafN (a:Wide) (j:Nat):Wide:=(List.range j).foldl (fun l i=>l.set (3-i) (hafF a (3-i))) zaG
theorem hafN_succ {a:Wide} {j:Nat}:(hafN a j).set (3-j) (hafF a (3-j))=hafN a (j+1):=(zcz (f:=fun (l:List UInt64) i=>l.set (3-i) (hafF a (3-i)))).symm
theorem haf_all {a:Wide} (ha:a.length=4):hafN a 4=zdh a 1:=by
  obtain⟨a0,a1,a2,a3,rfl⟩:=zga ha;refine zhP rfl (zei rfl) ?_;have h:=zjN (a:=[a0,a1,a2,a3]) (n:=1) rfl yl;rw[show((1:Nat):Int)=1 from rfl] at h;rw[h];show nW [a0/2+a1%2*zs2,a1/2+a2%2*zs2,a2/2+a3%2*zs2,a3/2+0]=_;have h0:a0.toNat<18446744073709551616:=a0.toNat_lt;have h1:a1.toNat<18446744073709551616:=a1.toNat_lt;have h2:a2.toNat<18446744073709551616:=a2.toNat_lt;have h3:a3.toNat<18446744073709551616:=a3.toNat_lt;have t2:(2:UInt64).toNat=2:=rfl;have t9:=highU_n;have t0:(0:UInt64).toNat=0:=rfl;unfold nW;simp only[getD_cons_zero,getD_cons_succ,toNat_add,toNat_mul,toNat_div,toNat_mod,t2,t9,t0];omega
theorem down_step {a:Wide} {k:Nat} (ha:a.length=4) (hk:k+1<256):zdh (zdh a k) 1=zdh a ((k:Int)+1):=by
  refine zhP (zei (zei ha)) (zei ha) ?_;have h1:=zjN (n:=k) ha ya;have h2:=zjN (n:=k+1) ha hk;have h3:=zjN (n:=1) (zei (n:=(k:Int)) ha) yl;rw[show((1:Nat):Int)=1 from rfl,h1,div_div_eq_div_mul,<-pow_succ] at h3;rw[show((k+1:Nat):Int)=(k:Int)+1 by omega] at h2;rw[h3,h2]
theorem ztn {a:Wide} (ha:a.length=4):zdh a 0=a:=by
  refine zhP (zei ha) ha ?_
  have:=zjN (n:=0) ha yl
  rw[show((0:Nat):Int)=0 from rfl] at this;rw[this,pow_zero,div_one]
theorem up_zero {a:Wide} (ha:a.length=4):upW a 0=a:=by
  refine zhP (zjB ha) ha ?_
  have:=nW_up (n:=0) ha yl
  rw[show((0:Nat):Int)=0 from rfl] at this;rw[this,pow_zero,mul_one,mod_eq_of_lt (zsN ha)]
theorem down_end {a:Wide} {n:Int} {k:Nat} (ha:a.length=4) (h:k=0\/(k:Int)<=n) (h2:¬(k:Int)<n):zdh a k=zdh a n:=by
  by_cases c:n<0
  . have hk:k=0:=by omega
    subst hk;rw[show((0:Nat):Int)=0 from rfl,ztn ha];unfold zdh;rw[ut c]
  rw[show(k:Int)=n by omega]
theorem up_end {a:Wide} {n:Int} {k:Nat} (ha:a.length=4) (h:k=0\/(k:Int)<=n) (h2:¬(k:Int)<n):upW a k=upW a n:=by
  by_cases c:n<0
  . have hk:k=0:=by omega
    subst hk;rw[show((0:Nat):Int)=0 from rfl,up_zero ha];unfold upW;rw[ut c]
  rw[show(k:Int)=n by omega]
theorem up_step {a:Wide} {k:Nat} (ha:a.length=4) (hk:k+1<256):addW (upW a k) (upW a k)=upW a ((k:Int)+1):=by
  refine zhP (zbd (zjB ha) (zjB ha)) (zjB ha) ?_;have h1:=nW_up (n:=k) ha ya;have h2:=nW_up (n:=k+1) ha hk;rw[show((k+1:Nat):Int)=(k:Int)+1 by omega] at h2;rw[zl8 (zjB ha) (zjB ha),h1,h2,pow_succ,<-mul_assoc];unfold W256;omega
theorem rhalf_ok (a:Wide):Tells P 386 [.val zV a] (.val zV (zdh a 1)):=by
 refine zc Tryz.func386 rfl rfl rfl (fun ext w hext=>?_);refine ze (d:=0) rfl zaI (fun ha=>?_);refine qeW ?_;refine qa1 ?_;refine CNQR ?_;refine qcz ?_;refine Lp (ι:=Nat) 3 (fun (k:Nat)=>(((((Fr.none).set 1 (.ptr 0 0)).set 2 (.ptr 1 0)).set 3 (.ptr 2 0)).set 4 (.val u64T (if k=4 then 0 else a.getD k default%2*zs2))).set 5 (.val i64T ((k:Int)-1))) (fun (k:Nat)=>(((Hp.none).set 0 (.box 52 zV a)).set 1 (.box 52 zV zaG)).set 2 (.box 52 zV (hafN a (4-k)))) (fun (k:Nat)=>k<=4) (fun (k:Nat)=>k) (4) (ug _) ?_;intro k hinv;refine qfR ?_;refine Cf (p:=0<k) (fun ht7=>?_) (fun ht7=>?_)
 .
  refine qf7 ?_;refine xk ?_;refine xm ?_;refine A0 (zok rfl rfl rfl yl) ?_;refine qaz ?_;refine qeI ?_;refine xk ?_;refine zg rfl rfl rfl rfl rfl (Lens.elem (i:=k-1) ya u64T) za2 rfl ?_;refine qf1 ?_;refine xk ?_;refine xm ?_;refine A0 (zrn rfl rfl rfl yl) ?_;refine qeH ?_;refine A0 aV ?_;refine CNIR ?_;refine qcn ?_;refine qad ?_;refine zt (n:=2) (y:=hafN a (4-(k-1))) rfl (by rw[show 4-(k-1)=4-k+1 by omega,<-hafN_succ,show 3-(4-k)=k-1 by omega];unfold hafF;congr 2;rw[show k-1+1=k by omega];split<;>split<;>first|rfl|omega) ?_;refine zj (d:=4) (y:=(if k-1=4 then 0 else a.getD (k-1) default%2*zs2)) rfl (by rw[ur ya];rfl) ?_;refine zj (d:=5) (y:=((k-1:Nat):Int)-1) rfl ya ?_;exact Nx (k-1) ya ya
 obtain rfl:k=0:=ya;refine qaU ?_;refine qcu ?_;exact zE rfl rfl rfl rfl zag (haf_all ha)
theorem rdownW_ok (a:Wide) (n:Int):Tells P 378 [.val zV a,.val i64T n] (.val zV (zdh a n)):=by
 refine zc Tryz.func378 rfl rfl rfl (fun ext w hext=>?_);refine ze (d:=1) rfl zz (fun hin1=>?_);refine ze (d:=0) rfl zaI (fun ha=>?_);refine qae ?_;refine qa1 ?_;refine qbD ?_;refine qb5 ?_;refine Cf (p:=256<=n) (fun ht7=>?_) (fun ht7=>?_)
 .
  refine qaO ?_;refine CN ?_;exact zE rfl rfl rfl rfl zag (by unfold zdh;rw[ur ya,ut ht7])
 refine CSQQR ?_;refine qco ?_;refine zt (n:=0) (y:=zdh a ((0:Nat):Int)) rfl (ztn ha).symm ?_;refine Lp (ι:=Nat) 2 (fun (k:Nat)=>((((Fr.none).set 1 (.val i64T n)).set 2 (.ptr 0 0)).set 4 (.ptr 1 0)).set 5 (.val i64T (k:Int))) (fun (k:Nat)=>((Hp.none).set 0 (.box 52 zV (zdh a (k:Int)))).set 1 (.box 52 zV zaG)) (fun (k:Nat)=>k=0\/(k:Int)<=n) (fun (k:Nat)=>n.toNat-k) (0) (.inl rfl) ?_;intro k hinv;refine qb6 ?_;refine qa7 ?_;refine Cf (p:=(k:Int)<n) (fun ht11=>?_) (fun ht11=>?_)
 .
  refine qaS ?_;refine CR ?_;refine qa5 ?_;refine A0 (oCl (rhalf_ok (zdh a k)) rfl fn_386 yd) ?_;refine qaf ?_;refine qbi ?_;refine zt (n:=0) (y:=zdh a ((k+1:Nat):Int)) rfl (by rw[down_step ha ya];congr 1) ?_;exact Nx (k+1) (.inr ya) ya
 refine qaU ?_;refine qcu ?_;exact zE rfl rfl rfl rfl zag (down_end ha hinv ht11)
theorem rupW_ok (a:Wide) (n:Int):Tells P 340 [.val zV a,.val i64T n] (.val zV (upW a n)):=by
 refine zc Tryz.func340 rfl rfl rfl (fun ext w hext=>?_);refine ze (d:=1) rfl zz (fun hin1=>?_);refine ze (d:=0) rfl zaI (fun ha=>?_);refine qae ?_;refine qa1 ?_;refine qbD ?_;refine qb5 ?_;refine Cf (p:=256<=n) (fun ht9=>?_) (fun ht9=>?_)
 .
  refine qaO ?_;refine CN ?_;exact zE rfl rfl rfl rfl zag (by unfold upW;rw[ur ya,ut ht9])
 refine CSQQR ?_;refine qco ?_;refine zt (n:=0) (y:=upW a ((0:Nat):Int)) rfl (up_zero ha).symm ?_;refine Lp (ι:=Nat) 2 (fun (k:Nat)=>((((Fr.none).set 1 (.val i64T n)).set 2 (.ptr 0 0)).set 4 (.ptr 1 0)).set 5 (.val i64T (k:Int))) (fun (k:Nat)=>((Hp.none).set 0 (.box 52 zV (upW a (k:Int)))).set 1 (.box 52 zV zaG)) (fun (k:Nat)=>k=0\/(k:Int)<=n) (fun (k:Nat)=>n.toNat-k) (0) (.inl rfl) ?_;intro k hinv;refine qb6 ?_;refine qa7 ?_;refine Cf (p:=(k:Int)<n) (fun ht13=>?_) (fun ht13=>?_)
 .
  refine qeh ?_;refine qd6 ?_;refine A0 (oCl (zdz (upW a k) (upW a k)) rfl zhS ye) ?_;refine qcM ?_;refine qcc ?_;refine qa5 ?_;refine qaf ?_;refine qbi ?_;refine zt (n:=0) (y:=upW a ((k+1:Nat):Int)) rfl (by rw[up_step ha ya];congr 1) ?_;exact Nx (k+1) (.inr ya) ya
 refine qaU ?_;refine qcu ?_;exact zE rfl rfl rfl rfl zag (up_end ha hinv ht13)
def dvU (x:UInt64) (m:Nat):UInt64:=UInt64.ofNat (x.toNat/256^m)
theorem dvU_n (x:UInt64) (m:Nat):(dvU x m).toNat=x.toNat/256^m:=by
  have hx:x.toNat<18446744073709551616:=x.toNat_lt;unfold dvU;rw[toNat_ofNat_of_lt' (by show _<18446744073709551616;have:=div_le_self x.toNat (256^m);omega)]
theorem dvU_succ (x:UInt64) (m:Nat):dvU x m/256=dvU x (m+1):=by
  apply toNat_inj.1;rw[toNat_div,dvU_n,dvU_n,pow_succ,<-div_div_eq_div_mul];rfl
theorem dvU_zero (x:UInt64):dvU x 0=x:=by
  apply toNat_inj.1;rw[dvU_n,pow_zero,div_one]
def rbyN (a:Wide) (j:Nat):Ab.Id:=(List.range j).foldl (fun l i=>l.set (31-i) (zrG a (31-i))) zId
theorem rbyN_succ {a:Wide} {j:Nat}:(rbyN a j).set (31-j) (zrG a (31-j))=rbyN a (j+1):=(zcz (f:=fun (l:List UInt8) i=>l.set (31-i) (zrG a (31-i)))).symm
theorem rby_gen (f:Nat->UInt8):(List.range 32).foldl (fun (l:Ab.Id) i=>l.set (31-i) (f (31-i))) zId=(List.range 32).map f:=yt
theorem rby_all {a:Wide}:rbyN a 32=zeq a:=rby_gen (zrG a)
theorem rby_at {a:Wide} {k:Nat} (hk:k<32):zaF (IntL.toI u64T (dvU (a.getD (k/8) default) (k%8)%256))=zrG a (31-k):=by
  unfold zrG;rw[show 3-(31-k)/8=k/8 by omega,show(56-8*(((31-k:Nat):Int)%8)).toNat=8*(k%8) by omega];have e:zax (a.getD (k/8) default) (8*(k%8))=dvU (a.getD (k/8) default) (k%8):=by
    unfold zax dvU;rw[Nat.min_eq_left ya,pow_mul]
  rw[e];unfold zaF;congr 2;show(((dvU (a.getD (k/8) default) (k%8)%256).toNat:Nat):Int)%256=(((dvU (a.getD (k/8) default) (k%8)).toNat:Nat):Int)%256;rw[toNat_mod,show(256:UInt64).toNat=256 from rfl];omega
theorem zpI (a:Wide):Tells P 371 [.val zV a] (.val idT (zeq a)):=by
 refine zc Tryz.func371 rfl rfl rfl (fun ext w hext=>?_);refine ze (d:=0) rfl zaI (fun ha=>?_);refine qeP ?_;refine qaC ?_;refine qa4 ?_;refine Lp (ι:=Nat) 3 (fun (k:Nat)=>((((Fr.none).set 1 (.ptr 0 0)).set 2 (.ptr 1 0)).set 3 (.ptr 2 0)).set 4 (.val i64T (k:Int))) (fun (k:Nat)=>(((Hp.none).set 0 (.box 52 zV a)).set 1 (.box 49 idT zId)).set 2 (.box 49 idT (rbyN a k))) (fun (k:Nat)=>k<=32) (fun (k:Nat)=>32-k) (0) (uf _) ?_;intro k hinv;refine qes ?_;refine Cf (p:=k<32) (fun ht8=>?_) (fun ht8=>?_)
 .
  refine qbp ?_;refine qb9 ?_;refine A0 (zy (i:=k/8) rfl rfl rfl yi zbm ya) ?_;refine A0 (zr rfl rfl rfl (Lens.elem (i:=k/8) ya u64T) za2) ?_;refine qcz ?_;refine zj (d:=5) (y:=dvU (a.getD (k/8) default) 0) rfl (dvU_zero _).symm ?_;refine Lp (ι:=Nat) 3 (fun m=>(((((Fr.none.set 1 (.ptr 0 0)).set 2 (.ptr 1 0)).set 3 (.ptr 2 0)).set 4 (.val i64T (k:Int))).set 5 (.val u64T (dvU (a.getD (k/8) default) m))).set 6 (.val i64T (m:Int))) (fun m=>((Hp.none.set 0 (.box 52 zV a)).set 1 (.box 49 idT zId)).set 2 (.box 49 idT (rbyN a k))) (fun m=>m<=k%8) (fun m=>k%8-m) (0) (uf _) ?_;intro m hin;refine qb6 ?_;refine qbu ?_;refine qa7 ?_;refine zl (p:=m<k%8) rfl yax (fun ht18=>?_) (fun ht18=>?_)
  .
   refine qaS ?_;refine qe5 ?_;refine A0 (zok rfl rfl rfl yl) ?_;refine qdB ?_;refine zj (d:=5) (y:=dvU (a.getD (k/8) default) (m+1)) rfl (dvU_succ _ _) ?_;exact Nx (m+1) ya ya
  obtain rfl:m=k%8:=ya;refine CE ?_;refine CR ?_;refine qcn ?_;refine qaz ?_;refine A0 (zrn rfl rfl rfl yl) ?_;refine qbS ?_;refine A0 (zy (i:=31-k) rfl rfl rfl yi zhL ya) ?_;refine zg rfl rfl rfl rfl rfl (Lens.elem (i:=31-k) ya u8T) ty_5 rfl ?_;refine qbi ?_;refine zt (n:=2) (y:=rbyN a (k+1)) rfl (by rw[<-rbyN_succ,<-rby_at ht8];rfl) ?_;exact Nx (k+1) ya ya
 obtain rfl:k=32:=ya;refine qfT ?_;exact zE rfl rfl rfl rfl zY (rby_all)
theorem rmleaf_ok (id:Ab.Id) (w:Wide):Tells P 347 [.val idT id,.val zV w] (.val zar (leafT id w)):=by
 refine zc Tryz.func347 rfl rfl rfl (fun ext w hext=>?_);refine qav ?_;refine qcm ?_;refine CNQR ?_;refine qbf ?_;refine qa5 ?_;refine A0 (zJ rfl zlW zql (.cons zeg zcY zY rfl (.cons ziX zhd zag rfl (.cons zef zcX ty_3 rfl .nil))) rfl) ?_;refine qgg ?_;exact zE rfl rfl rfl rfl za9 (rfl)
theorem zko (t:Total) (hh:t.h.length=32):Tells P 375 [.val zar t] (.fresh 5 u8T (zcP t)):=by
 refine zc Tryz.func375 rfl rfl rfl (fun ext w hext=>?_);refine qbN ?_;refine CNQR ?_;refine qdp ?_;refine A0 (oCl (zpI _) rfl fn_371 yd) ?_;refine qaC ?_;refine qaq ?_;refine qdo ?_;refine zel (d:=3) rfl rfl (Lens.self _) ?_;have hbl:=zcE t.w;have hn:=zF (zK (IntL.toI i64T t.n)) 4;refine CR ?_;refine A0 (oFr zeg zcY) ?_;refine qbJ ?_;refine zdX rfl rfl rfl rfl rfl rfl zat (by simp[hh,hbl,hn]) ?_;refine qby ?_;refine qbJ ?_;refine zp rfl rfl rfl rfl rfl rfl rfl zat (by simp[hh,hbl,hn]) ?_;refine qby ?_;refine A0 (oFr zef zcX) ?_;refine qbs ?_;refine qd1 ?_;refine A0 (oCl (zu (zjL _ 4 yl)) rfl zor ye) ?_;refine zp rfl rfl rfl rfl rfl rfl rfl zat (by simp[hh,hbl,hn]) ?_;refine qbG ?_;exact zb rfl rfl (zf rfl rfl (by unfold zcP;simp))
theorem zvF (a b:Total):Tells P 346 [.val zar a,.val zar b] (.val zar (zkL a b)):=by
 refine zc Tryz.func346 rfl rfl rfl (fun ext w hext=>?_);refine ze (d:=0) rfl zi1 (fun ha=>?_);refine ze (d:=1) rfl zi1 (fun hb=>?_);refine qav ?_;refine qcm ?_;refine CNQR ?_;refine qdp ?_;refine qdp ?_;refine A0 (oCl (zdz _ _) rfl zhS ye) ?_;refine qcM ?_;refine qaL ?_;refine zA [some 1,some 1,some 1,some 1,some 1,some 1,some 1,some 1,some 1,some 1,some 1,some 1,some 1,some 1,none] mixed yc ?_;refine qd0 ?_;refine X0 (oLs rfl rfl rfl za9) ?_;refine X0 (zma (T:=sl u8T) (S:=bsl u8T) (zcT (zu (zko a ha.1)) rfl fn_375 yd rfl)) ?_;refine X0 (oLs rfl rfl rfl za9) ?_;refine X0 (zma (T:=sl u8T) (S:=bsl u8T) (zcT (zu (zko b hb.1)) rfl fn_375 yd rfl)) ?_;refine qc0 ?_;refine X0 (oCl (zvE [[3],zcP a,zcP b] (by simp[zft ha.1,zft hb.1])) rfl zwm yd) ?_;refine qcO ?_;refine qeZ ?_;refine qeZ ?_;refine X0 zhZ ?_;refine X0 (zJ rfl zlW zql (.cons zeg zcY zY rfl (.cons ziX zhd zag rfl (.cons zef zcX ty_3 rfl .nil))) rfl) ?_;refine XK.e (x:=.idk) (fun fr' hfr kk H=>by exact zg rfl rfl rfl ((hfr 4 yc).trans rfl) rfl (Lens.self _) za9 ((hfr 28 yc).trans rfl) (zD H)) ?_;refine qe6 ?_;exact zE rfl rfl rfl rfl za9 (by unfold zkL;simp)
theorem rallNil_ok:Tells P 345 [.val (bsl zar) []] (.val zar (zfb [])):=by
 refine zc Tryz.func345 rfl rfl rfl (fun ext w hext=>?_);refine ze (d:=0) rfl zk (fun hsl0=>?_);refine qfU ?_;refine Ct ?_;refine CQR ?_;refine qa6 ?_;refine A0 (oCl (zmP [4] yl) rfl zwo yd) ?_;refine A0 (zJ rfl zlW zql (.cons zeg zcY zY rfl .nil) rfl) ?_;refine qgg ?_;exact zE rfl rfl rfl rfl za9 (zn2.symm)
theorem zuf (p:List Total) (hp:p.length<=1000000):Tells P 300 [.val (bsl zar) p] (.val zar (zfb p)):=by
 refine zc Tryz.func300 rfl rfl rfl (fun ext w hext=>?_);refine ze (d:=0) rfl zk (fun hsl0=>?_);refine qfU ?_;refine Cf (p:=p.length=0) (fun ht7=>?_) (fun ht7=>?_)
 .
  obtain rfl:p=[]:=List.length_eq_zero_iff.1 ht7;refine CQR ?_;refine A0 (oCl (rallNil_ok) rfl fn_345 yb1) ?_;refine qgg ?_;exact zE rfl rfl rfl rfl za9 (rfl)
 obtain⟨n,hn⟩:∃n,p.length=n+1:=⟨p.length-1,by omega⟩;obtain⟨x0,hx0⟩:∃x,p[n]?=some x:=yr;have hroot:=zpL hn hx0;refine qej ?_;refine qen ?_;refine qfv ?_;refine A0 (zx (i:=n) rfl rfl rfl ya zfu yj) ?_;refine A0 (zh rfl rfl za9) ?_;refine qcm ?_;refine qbk ?_;refine qbD ?_;refine qen ?_;refine qfv ?_;refine qco ?_;refine zj (d:=4) (y:=(n:Int)-1) rfl (by rw[hn];simp;omega) ?_;refine Lp (ι:=Nat×Total) 2 (fun(k,y)=>(((Fr.none.set 0 (.val (bsl zar) p)).set 2 (.ptr 0 0)).set 3 (.ptr 1 0)).set 4 (.val i64T ((k:Int)-1))) (fun(k,y)=>(Hp.none.set 0 (.box 197 zar zvc)).set 1 (.box 197 zar y)) (fun(k,y)=>k<=n/\zfb p=zge (p.take k).reverse y) (fun(k,y)=>k) ((n,x0)) (⟨ug _,hroot⟩) ?_;intro⟨k,y⟩ hinv;dsimp only at hinv;refine qfR ?_;refine Cf (p:=0<k) (fun ht19=>?_) (fun ht19=>?_)
 .
  obtain⟨x,hx⟩:∃x,p[k-1]?=some x:=yr;refine qaS ?_;refine zA [some 1,some 1,some 1,some 1,some 1,some 1,none] mixed yc ?_;refine qbC ?_;refine X0 (zx (i:=k-1) rfl rfl rfl ya zfu yj) ?_;refine X0 (zh rfl rfl za9) ?_;refine X0 (oLs rfl rfl rfl za9) ?_;refine X0 (oCl (zvF _ _) rfl fn_346 yb3) ?_;refine XK.e (x:=.idk) (fun fr' hfr kk H=>by exact zg rfl rfl rfl ((hfr 3 yc).trans rfl) rfl (Lens.self _) za9 ((hfr 27 yc).trans rfl) (zD H)) ?_;refine qaV ?_;refine qcn ?_;refine qad ?_;refine zj (d:=4) (y:=((k-1:Nat):Int)-1) rfl ya ?_;exact Nx ((k-1,zkL x y)) (⟨by omega,by rw[hinv.2,show k=k-1+1 by omega,zkq hx];rfl⟩) (by show k-1<k;omega)
 obtain rfl:k=0:=ya;refine qaU ?_;refine A0 (oLs rfl rfl rfl za9) ?_;refine qgg ?_;exact zE rfl rfl rfl rfl za9 (by rw[hinv.2];rfl)
theorem zqX (p:List Total) (leaf:Total) (hp:p.length<=1000000):Tells P 301 [.val (bsl zar) p,.val zar leaf] (.val (sl zar) (zb9 p leaf)):=by
 refine zc Tryz.func301 rfl rfl rfl (fun ext w hext=>?_);refine ze (d:=0) rfl zk (fun hsl0=>?_);refine qbN ?_;refine qd5 ?_;refine zdX rfl rfl rfl rfl rfl rfl zgd yM ?_;refine qby ?_;refine A0 (oLs rfl rfl rfl za9) ?_;refine A0 (zW (T:=zar) (xs:=[_]) rfl zfu zgd yA rfl rfl) ?_;refine zp rfl rfl rfl rfl rfl rfl rfl zgd yM ?_;refine A0 aO ?_;refine CNQ ?_;refine CB ?_;refine zhV (d:=5) rfl rfl ?_;refine zj (d:=5) (y:=p.reverse.reverse++[leaf]) rfl yw ?_;refine Lp (ι:=List Total×Total) 1 (fun(r,x)=>(Fr.none.set 3 (.ptr 0 0)).set 5 (.val (sl zar) (r.reverse++[x]))) (fun(r,x)=>Hp.none.set 0 (.box 197 zar leaf)) (fun(r,x)=>r.length<=1000000/\zmw r x=zmw p.reverse leaf) (fun(r,x)=>r.length) ((p.reverse,leaf)) (⟨by simp;omega,rfl⟩) ?_;intro⟨r,x⟩ hinv;dsimp only at hinv;have hlen:(r.reverse++[x]).length=r.length+1:=yw;refine CQ ?_;refine qdO ?_;refine G0 (zaC rfl rfl zpS) ?_;refine G0 zgb ?_;refine G0 mV ?_;refine zaj (d:=17) (p:=¬r=[]) rfl (by rw[uo];show(2:Int)<=(((r.reverse++[x]).length:Nat):Int)↔_;rw[<-List.length_eq_zero_iff];omega) (fun g17=>?_) (fun g17=>?_)
 .
  obtain⟨y,s,hr⟩:∃y s,r=y::s:=by cases r with|nil=>exact absurd rfl g17|cons y s=>exact⟨y,s,rfl⟩
  have hrl:r.length=s.length+1:=by rw[hr];rfl
  have hx1:(r.reverse++[x])[s.length]?=some y:=by rw[hr];simp
  have hx2:(r.reverse++[x])[s.length+1]?=some x:=by rw[List.getElem?_append_right (by simp[hrl])];simp[hrl]
  refine qfz ?_;refine G1 (zaC rfl rfl zpS) ?_;refine G1 zc3 ?_;refine G1 (zx (i:=s.length+1) rfl rfl rfl ya zfu yj) ?_;refine G1 (oFr zef zcX) ?_;refine G1 (zh rfl rfl ty_3) ?_;refine qfz ?_;refine G1 (zaC rfl rfl zpS) ?_;refine G1 zc3 ?_;refine G1 (zx (i:=s.length) rfl rfl rfl ya zfu yj) ?_;refine G1 (oFr zef zcX) ?_;refine G1 (zh rfl rfl ty_3) ?_;refine G1 zd7 ?_;refine qaY ?_;refine zl (p:=x.n=y.n) rfl yx (fun ht33=>?_) (fun ht33=>?_)
  .
   refine CS ?_;refine CB ?_;refine qb1 ?_;refine qen ?_;refine qaL ?_;refine zA [some 1000001,some 1000001,some 1000001,some 1000001,some 1000001,some 1000001,some 1000001,some 1000001,some 1000001,some 1000001,some 1000001,none,none] mixed yc ?_;refine XK.ga (fun _=>g_mv (.inl rfl) rfl) rfl rfl rfl ?_;refine XK.ga (fun _=>g_mv (.inl rfl) rfl) rfl rfl rfl ?_;refine XK.ga yP rfl rfl rfl ?_;refine XK.ga (fun _=>zx (i:=s.length) rfl rfl rfl ya zfu yj) rfl rfl rfl ?_;refine XK.ga (fun _=>zh rfl rfl za9) rfl rfl rfl ?_;refine XK.ga (fun _=>g_mv (.inl rfl) rfl) rfl rfl rfl ?_;refine XK.ga (fun _=>g_mv (.inl rfl) rfl) rfl rfl rfl ?_;refine XK.ga yP rfl rfl rfl ?_;refine XK.ga (fun _=>zx (i:=s.length+1) rfl rfl rfl ya zfu yj) rfl rfl rfl ?_;refine XK.ga (fun _=>zh rfl rfl za9) rfl rfl rfl ?_;refine XK.ga (fun _=>zcT (zvF y x) rfl fn_346 ⟨yb,yb,trivial⟩ rfl) rfl rfl rfl ?_;refine XK.e (fun fr' hfr kk H=>by exact zN zlW rfl rfl rfl rfl (zD H)) ?_;refine XK.e (x:=.idk) (fun fr' hfr kk H=>by exact zg rfl rfl rfl ((hfr 7 yc).trans rfl) rfl (Lens.self _) za9 ((hfr 46 yc).trans rfl) (zD H)) ?_;refine qe6 ?_;refine zA [some 1,some 1,some 1,some 1,none,some 2,some 2,none,some 1] mixed yc ?_;refine qbC ?_;refine X0 zc3 ?_;refine X0 yaV ?_;refine XK.e (fun fr' hfr kk H=>by exact zdX rfl rfl rfl rfl rfl ((hfr 50 yc).trans rfl) zgd yM (zD H)) ?_;refine XK.gb (t:=7) rfl rfl (fun _ he=>zr rfl rfl he (Lens.self _) za9) rfl ⟨hpB rfl rfl,hpB rfl rfl,trivial⟩ rfl rfl rfl ?_;refine XK.g2 (zW (T:=zar) (xs:=[_]) rfl zfu zgd yA rfl rfl) (zW (T:=zar) (xs:=[_]) rfl zfu zgd yA rfl rfl) rfl rfl rfl ?_;refine XK.e (fun fr' hfr kk H=>by exact zp rfl rfl rfl rfl ((hfr 51 yc).trans rfl) rfl ((hfr 53 yc).trans rfl) zgd yM (zD H)) ?_;refine X0 aO ?_;refine qe6 ?_;refine CI ?_;refine zhV (d:=5) rfl rfl ?_;refine zj (d:=5) (y:=s.reverse++[zkL y x]) rfl (by simp[hr,List.take_append]<;>exact uc yw) ?_;exact Nx ((s,zkL y x)) (⟨by omega,by rw[<-hinv.2,hr,zmw,ut ht33.symm]⟩) (by show s.length<r.length;omega)
  refine qdl ?_;exact zb rfl rfl (za rfl (by unfold zb9;rw[<-hinv.2,hr,zmw,ur (fun h=>ht33 h.symm)];simp))
 refine qac ?_;refine qf0 ?_;refine qaY ?_;refine Cg ?_;refine qdl ?_;exact zb rfl rfl (za rfl (by unfold zb9;rw[<-hinv.2,ua g17];rfl))
theorem zmQ (a b:Wide):Tells P 389 [.val zV a,.val zV b] (.tup2 (.val zV (subW a b)) (.val zo (zsb a b))):=by
 refine zc Tryz.func389 rfl rfl rfl (fun ext w hext=>?_);refine ze (d:=0) rfl zaI (fun ha=>?_);refine ze (d:=1) rfl zaI (fun hb=>?_);refine qfh ?_;refine qa1 ?_;refine qa4 ?_;refine Lp (ι:=Nat) 4 (fun (k:Nat)=>(((((Fr.none).set 2 (.ptr 0 0)).set 3 (.ptr 1 0)).set 4 (.ptr 2 0)).set 6 (.ptr 3 0)).set 7 (.val i64T (k:Int))) (fun (k:Nat)=>((((Hp.none).set 0 (.box 52 zV a)).set 1 (.box 52 zV b)).set 2 (.box 52 zV zaG)).set 3 (.box 52 zV (setN (compF b) zaG k))) (fun (k:Nat)=>k<=4) (fun (k:Nat)=>4-k) (0) (uf _) ?_;intro k hinv;refine qes ?_;refine Cf (p:=k<4) (fun ht13=>?_) (fun ht13=>?_)
 .
  refine qaS ?_;refine qfJ ?_;refine xu ?_;refine A0 (zr rfl rfl rfl (Lens.elem (i:=k) ya u64T) za2) ?_;refine A0 (g_sub64 rfl rfl rfl) ?_;refine xu ?_;refine xv ?_;refine qbi ?_;refine zt (n:=3) (y:=setN (compF b) zaG (k+1)) rfl (by rw[<-zfN];unfold compF maxU;rfl) ?_;exact Nx (k+1) ya ya
 obtain rfl:k=4:=ya;obtain⟨c,hc⟩:∃c,c=compW b:=⟨_,rfl⟩;obtain⟨o,ho⟩:∃o,o=ofW (UInt64.ofNat (Int.toNat 1)):=⟨_,rfl⟩;have hof:=zlB (UInt64.ofNat (Int.toNat 1));rw[<-ho] at hof;obtain⟨x1,hx1⟩:∃x,x=addW a c:=⟨_,rfl⟩;have h1:=zdz a c;rw[<-hx1] at h1;obtain⟨x2,hx2⟩:∃x,x=addW x1 o:=⟨_,rfl⟩;have h2:=zdz x1 o;rw[<-hx2] at h2;refine qe7 ?_;refine zt (n:=3) (y:=c) rfl ((zkl rfl).trans hc.symm) ?_;refine CR ?_;refine qd6 ?_;refine A0 (oCl (h1) rfl zhS ye) ?_;refine qcM ?_;refine qaL ?_;refine xp ?_;refine XK.gf (t:=8) rfl rfl (fun _ he=>zr rfl rfl he (Lens.self _) zag) ⟨hpB rfl rfl,trivial⟩ rfl rfl rfl ?_;refine XK.ga (fun _=>zcT (hof) rfl zp2 yd rfl) rfl rfl rfl ?_;refine XK.ga (fun _=>zcT (h2) rfl zhS ye rfl) rfl rfl rfl ?_;refine xo ?_;refine XK.ga y4 rfl rfl rfl ?_;refine xj ?_;refine XK.e (fun fr' hfr kk H=>by exact zN zo3 rfl rfl rfl rfl (zD H)) ?_;refine XK.e (x:=.idk) (fun fr' hfr kk H=>by exact zg rfl rfl rfl ((hfr 10 yc).trans rfl) rfl (Lens.self _) zag ((hfr 32 yc).trans rfl) (zD H)) ?_;refine X0 aV ?_;refine xw ?_;refine CQ ?_;refine zA [some 1,some 1,some 1,some 1,some 1000001,none,some 1] mixed yc ?_;refine qcO ?_;refine qcO ?_;refine qcO ?_;refine X0 (oCl (zmW _ _) rfl zwl ye) ?_;refine XK.ga (fun _=>g_geq rfl rfl rfl rfl) rfl rfl rfl ?_;refine XK.e (x:=.idk) (fun fr' hfr kk H=>by exact zg rfl rfl rfl ((hfr 4 yc).trans rfl) rfl (Lens.self _) zag ((hfr 34 yc).trans rfl) (zD H)) ?_;refine X0 aV ?_;refine qe6 ?_;exact zi rfl rfl (zm rfl rfl zag (by rw[hx2,hx1,hc,ho];exact rsub_eq ha hb)) (zC (za rfl (by rw[<-rsub_ok ha hb,uo];rfl)))
theorem zvl (bits:UInt32):IntL.toI u32T (bits/16777216)=tgtE bits:=by
  show(((bits/16777216).toNat:Nat):Int)=(((zd0 bits 24).toNat:Nat):Int);have hx:bits.toNat<4294967296:=bits.toNat_lt;unfold zd0;rw[UInt32.toNat_div,UInt32.toNat_ofNat_of_lt' (by show _<4294967296;have:=div_le_self bits.toNat (2^min 24 32);omega)];rfl
theorem tgtM_rem (bits:UInt32):zK (IntL.toI u32T (bits%16777216))=tgtM bits:=by
  unfold tgtM;congr 2;apply UInt32.toNat_inj.1;rw[UInt32.toNat_mod,UInt32.toNat_and];show bits.toNat%16777216=bits.toNat&&&(2^24-1);rw[Nat.and_two_pow_sub_one_eq_mod]
theorem zly (bits:UInt32):Tells P 297 [.val u32T bits] (.tup2 (.val zV (tgtW bits)) (.val zo (zaV bits))):=by
 have he0:0<=tgtE bits:=Int.natCast_nonneg _;have heL:tgtE bits<4294967296:=yco;refine zc Tryz.func297 rfl rfl rfl (fun ext w hext=>?_);refine CQR ?_;refine qa1 ?_;refine qaR ?_;refine A0 (zol rfl rfl rfl yl) ?_;refine A0 (zhs rfl (ui_3) (zqA) rfl (z8 (by have e:IntL.toI u32T (bits/UInt32.ofNat (Int.toNat 16777216))=tgtE bits:=zvl bits;rw[e];omega))) ?_;refine zj (d:=8) (y:=tgtE bits) rfl (zvl bits) ?_;refine qaR ?_;refine A0 (g_rem32 rfl rfl rfl yl) ?_;refine A0 (zg0 rfl (zlp) (zqA) rfl) ?_;refine zj (d:=11) (y:=tgtM bits) rfl (tgtM_rem bits) ?_;refine qag ?_;refine qcZ ?_;refine Sp (d:=14) (p:=tgtE bits<3) (fun g14=>?_) (fun g14=>?_)
 .
  refine qc1 ?_;refine qai ?_;refine qdg ?_;refine Ct ?_;refine qaO ?_;refine qad ?_;exact zi rfl rfl (zm rfl rfl zag yT) (zC (za rfl yai))
 refine qca ?_;refine qai ?_;refine Sp (d:=18) (p:=32<tgtE bits) (fun g18=>?_) (fun g18=>?_)
 .
  refine qc1 ?_;refine qat ?_;refine Ct ?_;refine qaO ?_;refine qad ?_;exact zi rfl rfl (zm rfl rfl zag yT) (zC (za rfl yai))
 refine qfY ?_;refine qdU ?_;refine zX (d:=22) (p:=(tgtM bits).toNat<32768) rfl (by rw[uo];show((tgtM bits).toNat:Int)<(32768:Int)↔_;omega) (fun g22=>?_) (fun g22=>?_)
 .
  refine qdg ?_;refine Ct ?_;refine qaO ?_;refine qad ?_;exact zi rfl rfl (zm rfl rfl zag yT) (zC (za rfl yai))
 refine qca ?_;refine qat ?_;refine zl (p:=8388608<=(tgtM bits).toNat) rfl (by rw[uo];show(8388607:Int)<((tgtM bits).toNat:Int)↔_;omega) (fun ht25=>?_) (fun ht25=>?_)
 .
  refine qaO ?_;refine qad ?_;exact zi rfl rfl (zm rfl rfl zag yT) (zC (za rfl yai))
 refine qbY ?_;refine A0 (oCl (zlB (tgtM bits)) rfl zp2 yd) ?_;refine qaz ?_;refine A0 (zgC rfl rfl rfl (show _=(tgtE bits-3:Int) from(z8 ya).trans ya)) ?_;refine A0 (zkT rfl rfl rfl (show _=(8*(tgtE bits-3):Int) from(z8 ya).trans ya)) ?_;refine A0 (oCl (rupW_ok (ofW (tgtM bits)) (8*(tgtE bits-3))) rfl fn_340 ye) ?_;refine qaf ?_;refine qad ?_;exact zi rfl rfl (zm rfl rfl zag (by unfold tgtW;rw[ut yaf])) (zC (za rfl (by unfold zaV;symm;apply ui;omega)))
def incW (w:Wide):Wide:=w.set 0 (w.getD 0 default+1)
theorem zm5 {w:Wide} (h:w.length=4):(incW w).length=4:=by unfold incW;rw[length_set];exact h
theorem incW_n {w:Wide} (h:w.length=4) (he:nW w%2=0):nW (incW w)=nW w+1:=by
  obtain⟨a0,a1,a2,a3,rfl⟩:=zga h;have h0:a0.toNat<18446744073709551616:=a0.toNat_lt;unfold nW at he;simp only[getD_cons_zero,getD_cons_succ] at he;show nW [a0+1,a1,a2,a3]=_;unfold nW;simp only[getD_cons_zero,getD_cons_succ];have e:(a0+1).toNat=a0.toNat+1:=by
    rw[toNat_add];show(a0.toNat+1)%18446744073709551616=_;omega
  rw[e];omega
theorem hiBit_n {w:Wide} (h:w.length=4):9223372036854775808<=(w.getD 3 default).toNat↔57896044618658097711785492504343953926634992332820282019728792003956564819968<=nW w:=by
  obtain⟨a0,a1,a2,a3,rfl⟩:=zga h;have h0:a0.toNat<18446744073709551616:=a0.toNat_lt;have h1:a1.toNat<18446744073709551616:=a1.toNat_lt;have h2:a2.toNat<18446744073709551616:=a2.toNat_lt;have h3:a3.toNat<18446744073709551616:=a3.toNat_lt;unfold nW;simp only[getD_cons_zero,getD_cons_succ];omega
def dvX (s:Wide×Wide×Wide):Wide:=if 9223372036854775808<=(s.1.getD 3 default).toNat then incW (addW s.2.2 s.2.2) else addW s.2.2 s.2.2
def dvC (b:Wide) (s:Wide×Wide×Wide):Prop:=zhb s.2.2 s.2.2=false\/0<=cmpW (dvX s) b
instance (b:Wide) (s:Wide×Wide×Wide):Decidable (dvC b s):=inferInstanceAs (Decidable (_\/_))
def ztl (b:Wide) (s:Wide×Wide×Wide):Wide×Wide×Wide:=if dvC b s then (addW s.1 s.1,incW (addW s.2.1 s.2.1),subW (dvX s) b) else (addW s.1 s.1,addW s.2.1 s.2.1,dvX s)
def dvI (a b:Wide):Nat->Wide×Wide×Wide
  | 0=>(a,zaG,zaG)
  | i+1=>ztl b (dvI a b i)
structure DvInv (A B P:Nat) (M:Nat) (s:Wide×Wide×Wide):Prop where
  l1:s.1.length=4
  l2:s.2.1.length=4
  l3:s.2.2.length=4
  n1:nW s.1=M
  n2:nW s.2.1=P/B
  n3:nW s.2.2=P%B
theorem dv_step {A B P M bit:Nat} {b:Wide} {s:Wide×Wide×Wide} (hb:b.length=4) (hB:nW b=B) (hp:0<B) (hM:M<W256) (hbit:bit=if 57896044618658097711785492504343953926634992332820282019728792003956564819968<=M then 1 else 0) (hP:2*P+bit<W256) (h:DvInv A B P M s):DvInv A B (2*P+bit) (2*M%W256) (ztl b s):=by
  obtain⟨l1,l2,l3,n1,n2,n3⟩:=h;have hBlt:B<W256:=by rw[<-hB];exact zsN hb
  have hr:P%B<B:=mod_lt _ hp;have hq:B*(P/B)+P%B=P:=Nat.div_add_mod P B;have hqle:P/B<=P:=div_le_self P B;obtain⟨x1,x2⟩:=zuq l3 l3;rw[n3] at x1 x2;have hX:(dvX s).length=4/\nW (dvX s)=(2*(P%B)+bit)%W256:=by
    have ev:nW (addW s.2.2 s.2.2)%2=0:=by rw[x1];unfold W256;omega
    unfold dvX;by_cases c:9223372036854775808<=(s.1.getD 3 default).toNat
    . rw[ut c]
      have c':=(hiBit_n l1).1 c;rw[n1] at c';rw[ut c'] at hbit;refine⟨zm5 (zbd l3 l3),?_⟩;rw[incW_n (zbd l3 l3) ev,x1,hbit];unfold W256;omega
    rw[ur c];have c':¬_:=fun h=>c ((hiBit_n l1).2 h)
    rw[n1] at c';rw[ur c'] at hbit;refine⟨zbd l3 l3,?_⟩;rw[x1,hbit];congr 1;omega
  obtain⟨xl,xn⟩:=hX;have o1:=zl8 l2 l2;rw[n2] at o1;have o1':nW (addW s.2.1 s.2.1)=2*(P/B):=by
    rw[o1,show P/B+P/B=2*(P/B) by omega,mod_eq_of_lt ya]
  have a1:nW (addW s.1 s.1)=2*M%W256:=by rw[zl8 l1 l1,n1];congr 1;omega
  have hbit1:bit<=1:=by rw[hbit];split<;>omega
  have hdiv:∀q r,B*q+r=2*P+bit->r<B->(2*P+bit)/B=q/\(2*P+bit)%B=r:=fun q r e hlt=>by
    rw[<-e];refine⟨?_,?_⟩
    . rw[add_comm,Nat.add_mul_div_left _ _ hp,div_eq_of_lt hlt,zero_add]
    rw[add_comm,Nat.add_mul_mod_self_left,mod_eq_of_lt hlt]
  have hcase:dvC b s↔B<=2*(P%B)+bit:=by
    unfold dvC;rw[zqd xl hb,hB,xn];have hx2:zhb s.2.2 s.2.2=false↔W256<=P%B+P%B:=by
      cases e:zhb s.2.2 s.2.2 with
      | true=>have:=x2.1 e;simp;omega
      | false =>
        refine⟨fun _=>?_,fun _=>rfl⟩;rcases Nat.lt_or_ge (P%B+P%B) W256 with h|h
        . have:=x2.2 h;rw[e] at this;cases this
        exact h
    rw[hx2];have hlt2:2*(P%B)+bit<2*B:=ya
    constructor
    . rintro (h|h)
      . omega
      by_cases c1:2*(P%B)+bit<W256
      . rw[mod_eq_of_lt c1] at h
        split at h
        . omega
        omega
      omega
    intro h;by_cases c1:2*(P%B)+bit<W256
    . right
      rw[mod_eq_of_lt c1]
      split
      . omega
      split<;>omega
    left
    unfold W256 at *;omega
  unfold ztl;have hmul:B*(2*(P/B))=2*(B*(P/B)):=by rw[mul_left_comm]
  by_cases c:dvC b s
  . rw[ut c]
    have c':=hcase.1 c;have hm1:B*(2*(P/B)+1)=2*(B*(P/B))+B:=by rw[mul_add,hmul,mul_one]
    obtain⟨e1,e2⟩:=hdiv (2*(P/B)+1) (2*(P%B)+bit-B) ya ya;refine⟨zbd l1 l1,zm5 (zbd l2 l2),zmM xl hb,a1,?_,?_⟩
    . show nW (incW (addW s.2.1 s.2.1))=_
      rw[incW_n (zbd l2 l2) (by rw[o1'];omega),o1',e1]
    show nW (subW (dvX s) b)=_;rw[(zvW xl hb).1,xn,hB,e2];by_cases c1:2*(P%B)+bit<W256
    . rw[mod_eq_of_lt c1]
      rw[show 2*(P%B)+bit+W256-B=(2*(P%B)+bit-B)+W256 by omega,Nat.add_mod_right,mod_eq_of_lt ya]
    have h2:2*(P%B)+bit<2*W256:=ya;rw[show(2*(P%B)+bit)%W256=2*(P%B)+bit-W256 by rw[Nat.mod_eq_sub_mod ya,mod_eq_of_lt ya]];rw[show 2*(P%B)+bit-W256+W256-B=2*(P%B)+bit-B by omega,mod_eq_of_lt ya]
  rw[ur c];have c':¬B<=2*(P%B)+bit:=fun h=>c (hcase.2 h)
  obtain⟨e1,e2⟩:=hdiv (2*(P/B)) (2*(P%B)+bit) ya ya;refine⟨zbd l1 l1,zbd l2 l2,xl,a1,?_,?_⟩
  . show nW (addW s.2.1 s.2.1)=_
    rw[o1',e1]
  show nW (dvX s)=_;rw[xn,e2,mod_eq_of_lt ya]
theorem dv_bit {A k i:Nat} (_hA:A<2^256) (hk:k+1+i=256):A/2^k=2*(A/2^(k+1))+(if 2^255<=A*2^i%2^256 then 1 else 0):=by
  have e1:A/2^(k+1)=A/2^k/2:=by rw[pow_succ,div_div_eq_div_mul]
  have e2:A*2^i%2^256=A%2^(k+1)*2^i:=by
    rw[<-hk,pow_add,Nat.mul_mod_mul_right]
  have e3:A%2^(k+1)=A/2^k%2*2^k+A%2^k:=by
    rw[pow_succ,Nat.mod_mul,add_comm,mul_comm (2^k)]
  have e4:(2:Nat)^255=2^k*2^i:=by rw[<-pow_add];congr 1;omega
  have hlt:A%2^k<2^k:=mod_lt _ (two_pow_pos k);rw[e1,e2,e4];have hiff:2^k*2^i<=A%2^(k+1)*2^i↔A/2^k%2=1:=by
    rw[Nat.mul_le_mul_right_iff (two_pow_pos i),e3];rcases Nat.mod_two_eq_zero_or_one (A/2^k) with h|h
    . rw[h];constructor
      . intro h';omega
      intro h';omega
    rw[h];constructor
    . intro _;rfl
    intro _;omega
  by_cases c:A/2^k%2=1
  . rw[ut (hiff.2 c)];omega
  rw[ur (fun h=>c (hiff.1 h))];omega
theorem dv_inv {a b:Wide} (ha:a.length=4) (hb:b.length=4) (h:b≠zaG):∀i,i<=256->DvInv (nW a) (nW b) (nW a/2^(256-i)) (nW a*2^i%2^256) (dvI a b i):=by
  have hA:nW a<2^256:=zsN ha;have hp:=nW_pos hb h;intro i
  induction i with
  | zero =>
    intro _;have e:nW a/2^(256-0)=0:=div_eq_of_lt hA;rw[e,pow_zero,mul_one,mod_eq_of_lt hA];exact⟨ha,rfl,rfl,rfl,by show nW zaG=_;rw[zra,Nat.zero_div],by show nW zaG=_;rw[zra,Nat.zero_mod]⟩
  | succ i ih =>
    intro hi;have h1:=ih ya;have e:=dv_bit (k:=255-i) (i:=i) hA ya;rw[show 255-i+1=256-i by omega] at e;have hlt:nW a/2^(255-i)<W256:=Nat.lt_of_le_of_lt (div_le_self _ _) hA;have hM:nW a*2^i%2^256<W256:=mod_lt _ yl;have e2:nW a*2^(i+1)%2^256=2*(nW a*2^i%2^256)%W256:=by
      rw[pow_succ,<-mul_assoc,mul_comm _ 2];show _=2*(nW a*2^i%2^256)%2^256;rw[Nat.mul_mod_mod]
    rw[show 256-(i+1)=255-i by omega,e2,e];rw[e] at hlt;exact dv_step hb rfl hp hM rfl hlt h1
theorem dv_all {a b:Wide} (ha:a.length=4) (hb:b.length=4) (h:b≠zaG):(dvI a b 256).2.1=divW a b/\(dvI a b 256).2.2=remW a b:=by
  obtain⟨_,l2,l3,_,n2,n3⟩:=dv_inv ha hb h 256 (ug _);obtain⟨d1,d2,d3,d4⟩:=nW_div ha hb h;rw[Nat.sub_self,pow_zero,div_one] at n2 n3;exact⟨zhP l2 d1 (n2.trans d3.symm),zhP l3 d2 (n3.trans d4.symm)⟩
theorem dvX_len {x y z:Wide} (h:z.length=4):(dvX (x,y,z)).length=4:=by
  unfold dvX
  split
  . exact zm5 (zbd h h)
  exact zbd h h
theorem zdB {a b x y z X:Wide} {k:Nat} (h:k<=256/\dvI a b k=(x,y,z)/\x.length=4/\y.length=4/\z.length=4) (hb:b.length=4) (hXl:X.length=4) (hk:k+1<=256) (hX:X=dvX (x,y,z)) (hc:zhb z z=false\/0<=cmpW X b) :
    k+1<=256/\dvI a b (k+1)=(addW x x,incW (addW y y),subW X b)/\(addW x x).length=4/\(incW (addW y y)).length=4/\(subW X b).length=4:=by
  refine⟨hk,?_,zbd h.2.2.1 h.2.2.1,zm5 (zbd h.2.2.2.1 h.2.2.2.1),zmM hXl hb⟩;rw[dvI,h.2.1];unfold ztl;rw[ut (by unfold dvC;rw[<-hX];exact hc),<-hX]
theorem zi2 {a b x y z X:Wide} {k:Nat} (h:k<=256/\dvI a b k=(x,y,z)/\x.length=4/\y.length=4/\z.length=4) (hXl:X.length=4) (hk:k+1<=256) (hX:X=dvX (x,y,z)) (h1:¬zhb z z=false) (h2:¬0<=cmpW X b) :
    k+1<=256/\dvI a b (k+1)=(addW x x,addW y y,X)/\(addW x x).length=4/\(addW y y).length=4/\X.length=4:=by
  refine⟨hk,?_,zbd h.2.2.1 h.2.2.1,zbd h.2.2.2.1 h.2.2.2.1,hXl⟩;rw[dvI,h.2.1];unfold ztl;rw[ur (by unfold dvC;rw[<-hX];exact fun h=>h.elim h1 h2),<-hX]
def allW:Wide:=[maxU,maxU,maxU,maxU]
theorem allW_n:nW allW=W256-1:=by
  show nW [maxU,maxU,maxU,maxU]=_;unfold nW;simp only[getD_cons_zero,getD_cons_succ,maxU_n];rfl
theorem notW_n {t:Wide} (ht:t.length=4):nW [~~~ t.getD 0 default,~~~ t.getD 1 default,~~~ t.getD 2 default,~~~ t.getD 3 default]=W256-1-nW t:=by
  obtain⟨a0,a1,a2,a3,rfl⟩:=zga ht;have e:∀x:UInt64,(~~~ x).toNat=18446744073709551615-x.toNat:=fun x=>by rw[UInt64.toNat_not];rfl
  have h0:a0.toNat<18446744073709551616:=a0.toNat_lt;have h1:a1.toNat<18446744073709551616:=a1.toNat_lt;have h2:a2.toNat<18446744073709551616:=a2.toNat_lt;have h3:a3.toNat<18446744073709551616:=a3.toNat_lt;unfold nW W256;simp only[getD_cons_zero,getD_cons_succ,e];omega
theorem zsa {a n:Nat} (hn:0<n):(a+1)/n=a/n+if a%n+1=n then 1 else 0:=by
  have h:=Nat.div_add_mod a n;have hlt:=mod_lt a hn;by_cases c:a%n+1=n
  . rw[ut c]
    have e:a+1=n*(a/n+1):=by rw[mul_add,mul_one];omega
    rw[e,Nat.mul_div_cancel_left _ hn]
  rw[ur c];have e:a+1=(a%n+1)+n*(a/n):=ya;rw[e,Nat.add_mul_div_left _ _ hn,div_eq_of_lt ya,zero_add];rfl
theorem zvx {t:Wide} (ht:t.length=4) (h:zhb t (ofW 1)=true) :
    (addW (remW allW (addW t (ofW 1))) (ofW 1)=addW t (ofW 1)->addW (divW allW (addW t (ofW 1))) (ofW 1)=zmq t)/\(addW (remW allW (addW t (ofW 1))) (ofW 1)≠addW t (ofW 1)->divW allW (addW t (ofW 1))=zmq t):=by
  have h1:nW (ofW 1)=1:=rfl;have l1:(ofW 1).length=4:=rfl;obtain⟨n1,n2⟩:=zuq ht l1;have hlt:=n2.1 h;rw[h1] at n1 hlt;rw[mod_eq_of_lt hlt] at n1;have nl:=zbd ht l1;obtain⟨nx,hnx⟩:∃nx,nx=addW t (ofW 1):=⟨_,rfl⟩;have hw:zmq t=addW (divW [~~~ t.getD 0 default,~~~ t.getD 1 default,~~~ t.getD 2 default,~~~ t.getD 3 default] nx) (ofW 1):=by unfold zmq;rw[ut h,hnx]
  rw[<-hnx] at n1 nl ⊢;have hz:nx≠zaG:=fun e=>by rw[e,zra] at n1;omega
  have hp:0<nW nx:=ya;obtain⟨d1,d2,d3,d4⟩:=nW_div (a:=allW) rfl nl hz;obtain⟨e1,e2,e3,_⟩:=nW_div (a:=[~~~ t.getD 0 default,~~~ t.getD 1 default,~~~ t.getD 2 default,~~~ t.getD 3 default]) rfl nl hz;rw[notW_n ht] at e3;have hk:W256-1-nW t=W256-nW nx:=ya;rw[hk] at e3;have hdiv:(W256-nW nx)/nW nx+1=W256/nW nx:=by
    rw[<-Nat.div_eq_sub_div hp ya]
  have hsd:=zsa (a:=W256-1) hp;rw[show W256-1+1=W256 from rfl] at hsd;rw[allW_n] at d3 d4;have hrl:(W256-1)%nW nx<nW nx:=mod_lt _ hp;have hcond:addW (remW allW nx) (ofW 1)=nx↔(W256-1)%nW nx+1=nW nx:=by
    have hr:=zl8 d2 l1;rw[d4,h1,mod_eq_of_lt ya] at hr
    constructor
    . intro e;rw[<-hr,e]
    intro e;exact zhP (zbd d2 l1) nl (hr.trans e)
  have hwl:(zmq t).length=4:=by rw[hw];exact zbd e1 l1
  have hwn:nW (zmq t)=W256/nW nx%W256:=by rw[hw,zl8 e1 l1,e3,h1,hdiv]
  constructor
  . intro c
    rw[ut (hcond.1 c)] at hsd;refine zhP (zbd d1 l1) hwl ?_;rw[zl8 d1 l1,d3,h1,hwn,hsd]
  intro c;rw[ur (fun e=>c (hcond.2 e)),Nat.add_zero] at hsd;refine zhP d1 hwl ?_;rw[d3,hwn,hsd,mod_eq_of_lt];exact Nat.lt_of_le_of_lt (div_le_self _ _) yl
theorem rdivW_ok (a b:Wide):Tells P 385 [.val zV a,.val zV b] (.tup3 (.val zV (divW a b)) (.val zV (remW a b)) (.val zo (divOk b))):=by
 refine zc Tryz.func385 rfl rfl rfl (fun ext w hext=>?_);refine ze (d:=0) rfl zaI (fun ha=>?_);refine ze (d:=1) rfl zaI (fun hb=>?_);refine qav ?_;refine qa1 ?_;refine qa1 ?_;refine qbT ?_;refine qa5 ?_;refine qeF ?_;refine A0 (zgZ rfl rfl rfl (eqt_52)) ?_;refine CN ?_;refine zl (p:=b=zaG) rfl yw (fun ht14=>?_) (fun ht14=>?_)
 .
  refine CQR ?_;refine qeF ?_;refine qeF ?_;refine qaf ?_;refine qaf ?_;refine qad ?_;exact zne rfl rfl (zm rfl rfl zag (by unfold divW divP;rw[ut ht14])) (zm rfl rfl zag (by unfold remW divP;rw[ut ht14])) (zC (za rfl (by unfold divOk;symm;exact uh (fun h=>h ht14))))
 refine CSQR ?_;refine qa1 ?_;refine CNQR ?_;refine qa1 ?_;refine qa4 ?_;refine Lp (ι:=Nat×Wide×Wide×Wide) 6 (fun(k,x,y,z)=>(((((((Fr.none.set 2 (.ptr 0 0)).set 3 (.ptr 1 0)).set 4 (.ptr 2 0)).set 5 (.ptr 3 0)).set 6 (.val zo false)).set 7 (.ptr 4 0)).set 8 (.ptr 5 0)).set 9 (.val i64T (k:Int))) (fun(k,x,y,z)=>(((((Hp.none.set 0 (.box 52 zV x)).set 1 (.box 52 zV b)).set 2 (.box 52 zV zaG)).set 3 (.box 52 zV zaG)).set 4 (.box 52 zV y)).set 5 (.box 52 zV z)) (fun(k,x,y,z)=>k<=256/\dvI a b k=(x,y,z)/\x.length=4/\y.length=4/\z.length=4) (fun(k,x,y,z)=>256-k) ((0,a,zaG,zaG)) (⟨uf _,rfl,ha,rfl,rfl⟩) ?_;intro⟨k,x,y,z⟩ hinv;dsimp only at hinv;refine qes ?_;refine Cf (p:=k<256) (fun ht18=>?_) (fun ht18=>?_)
 .
  obtain⟨X,hX⟩:∃X,X=dvX (x,y,z):=⟨_,rfl⟩;have hXl:X.length=4:=by rw[hX];exact dvX_len hinv.2.2.2.2
  refine qeh ?_;refine qd6 ?_;refine A0 (oCl (zdz z z) rfl zhS ye) ?_;refine qcM ?_;refine qbT ?_;refine A0 (zy (i:=3) rfl rfl rfl yi zbm ya) ?_;refine A0 (zr rfl rfl rfl (Lens.elem (i:=3) ya u64T) za2) ?_;refine qb5 ?_;refine zl (p:=9223372036854775808<=(x.getD 3 default).toNat) rfl (by rw[uo];show(9223372036854775808:Int)<=((x.getD 3 default).toNat:Int)↔_;omega) (fun ht29=>?_) (fun ht29=>?_)
  .
   refine CR ?_;refine qa2 ?_;refine CNQ ?_;refine zt (n:=6) (y:=X) rfl (by rw[hX];unfold dvX;first|(rw[ut ht29];rfl)|(rw[ur ht29])) ?_;refine CR ?_;refine qd6 ?_;refine A0 (oCl (zdz x x) rfl zhS ye) ?_;refine qaA ?_;refine qaf ?_;refine CNQR ?_;refine qd6 ?_;refine A0 (oCl (zdz y y) rfl zhS ye) ?_;refine qaA ?_;refine qaf ?_;refine CNQR ?_;refine qa5 ?_;refine qaf ?_;refine qd5 ?_;refine A0 oN ?_;refine qaz ?_;refine zX (d:=49) (p:=zhb z z=false) rfl (by cases zhb z z<;>rfl) (fun g49=>?_) (fun g49=>?_)
   .
    refine qda ?_;refine qat ?_;refine Ct ?_;refine CQR ?_;refine qd6 ?_;refine A0 (oCl (zmQ X b) rfl zwk ye) ?_;refine qet ?_;refine zt (n:=4) (y:=incW (addW y y)) rfl rfl ?_;exact Nx ((k+1,addW x x,incW (addW y y),subW X b)) yD yaG
   refine A1 (oLs rfl rfl rfl zag) ?_;refine A1 (oLs rfl rfl rfl zag) ?_;refine A1 (oCl (zmW _ _) rfl zwl ye) ?_;refine A1 zgb ?_;refine qat ?_;refine Cf (p:=0<=cmpW X b) (fun ht54=>?_) (fun ht54=>?_)
   .
    refine CQR ?_;refine qd6 ?_;refine A0 (oCl (zmQ X b) rfl zwk ye) ?_;refine qet ?_;refine zt (n:=4) (y:=incW (addW y y)) rfl rfl ?_;exact Nx ((k+1,addW x x,incW (addW y y),subW X b)) yD yaG
   refine qcG ?_;exact Nx ((k+1,addW x x,addW y y,X)) yD yaG
  refine qfE ?_;refine zt (n:=6) (y:=X) rfl (by rw[hX];unfold dvX;first|(rw[ut ht29];rfl)|(rw[ur ht29])) ?_;refine CR ?_;refine qd6 ?_;refine A0 (oCl (zdz x x) rfl zhS ye) ?_;refine qaA ?_;refine qaf ?_;refine CNQR ?_;refine qd6 ?_;refine A0 (oCl (zdz y y) rfl zhS ye) ?_;refine qaA ?_;refine qaf ?_;refine CNQR ?_;refine qa5 ?_;refine qaf ?_;refine qd5 ?_;refine A0 oN ?_;refine qaz ?_;refine zX (d:=49) (p:=zhb z z=false) rfl (by cases zhb z z<;>rfl) (fun g49=>?_) (fun g49=>?_)
  .
   refine qda ?_;refine qat ?_;refine Ct ?_;refine CQR ?_;refine qd6 ?_;refine A0 (oCl (zmQ X b) rfl zwk ye) ?_;refine qet ?_;refine zt (n:=4) (y:=incW (addW y y)) rfl rfl ?_;exact Nx ((k+1,addW x x,incW (addW y y),subW X b)) yD yaG
  refine A1 (oLs rfl rfl rfl zag) ?_;refine A1 (oLs rfl rfl rfl zag) ?_;refine A1 (oCl (zmW _ _) rfl zwl ye) ?_;refine A1 zgb ?_;refine qat ?_;refine Cf (p:=0<=cmpW X b) (fun ht54=>?_) (fun ht54=>?_)
  .
   refine CQR ?_;refine qd6 ?_;refine A0 (oCl (zmQ X b) rfl zwk ye) ?_;refine qet ?_;refine zt (n:=4) (y:=incW (addW y y)) rfl rfl ?_;exact Nx ((k+1,addW x x,incW (addW y y),subW X b)) yD yaG
  refine qcG ?_;exact Nx ((k+1,addW x x,addW y y,X)) yD yaG
 refine qe7 ?_;refine zA [some 1,some 1000001,none,none,some 1] mixed yc ?_;refine qcO ?_;refine XK.gf (t:=8) rfl rfl (fun _ he=>zr rfl rfl he (Lens.self _) zag) ⟨hpB rfl rfl,trivial⟩ rfl rfl rfl ?_;refine XK.e (x:=.idk) (fun fr' hfr kk H=>by exact zg rfl rfl rfl ((hfr 4 yc).trans rfl) rfl (Lens.self _) zag ((hfr 65 yc).trans rfl) (zD H)) ?_;refine XK.e (x:=.idk) (fun fr' hfr kk H=>by exact zg rfl rfl rfl ((hfr 5 yc).trans rfl) rfl (Lens.self _) zag ((hfr 66 yc).trans rfl) (zD H)) ?_;refine X0 aV ?_;refine xw ?_;exact zne rfl rfl (zm rfl rfl zag (by rw[<-(dv_all ha hb ht14).1,show 256=k by omega,hinv.2.1])) (zm rfl rfl zag (by rw[<-(dv_all ha hb ht14).2,show 256=k by omega,hinv.2.1])) (zC (za rfl (by unfold divOk;symm;exact ui ht14)))
theorem rworkW_ok (t:Wide):Tells P 376 [.val zV t] (.val zV (zmq t)):=by
 refine zc Tryz.func376 rfl rfl rfl (fun ext w hext=>?_);refine ze (d:=0) rfl zaI (fun ha=>?_);refine qeW ?_;refine qdE ?_;refine qa1 ?_;refine qaf ?_;refine CNQ ?_;refine xp ?_;refine XK.gf (t:=1) rfl rfl (fun _ he=>zr rfl rfl he (Lens.self _) zag) ⟨hpB rfl rfl,trivial⟩ rfl rfl rfl ?_;refine XK.ga (fun _=>zcT (zlB 1) rfl zp2 yd rfl) rfl rfl rfl ?_;refine XK.ga (fun _=>zcT (zdz t (ofW 1)) rfl zhS ye rfl) rfl rfl rfl ?_;refine xo ?_;refine XK.ga y4 rfl rfl rfl ?_;refine xj ?_;refine XK.e (fun fr' hfr kk H=>by exact zN zo3 rfl rfl rfl rfl (zD H)) ?_;refine XK.e (x:=.idk) (fun fr' hfr kk H=>by exact zg rfl rfl rfl ((hfr 4 yc).trans rfl) rfl (Lens.self _) zag ((hfr 16 yc).trans rfl) (zD H)) ?_;refine X0 aV ?_;refine xw ?_;refine qbd ?_;refine qaT ?_;refine zl (p:=¬zhb t (ofW 1)=true) rfl (by cases zhb t (ofW 1)<;>rfl) (fun ht19=>?_) (fun ht19=>?_)
 .
  refine CQR ?_;refine A0 (oCl (zlB 1) rfl zp2 yd) ?_;refine qaf ?_;refine CN ?_;exact zE rfl rfl rfl rfl zag (by unfold zmq;rw[ur ht19])
 refine CSQR ?_;refine qd6 ?_;refine A0 (oCl (rdivW_ok allW (addW t (ofW 1))) rfl fn_385 ye) ?_;refine qaA ?_;refine A0 e32 ?_;refine qa1 ?_;refine qa1 ?_;refine qaf ?_;refine qaf ?_;refine qaL ?_;refine xp ?_;refine XK.gf (t:=7) rfl rfl (fun _ he=>zr rfl rfl he (Lens.self _) zag) ⟨hpB rfl rfl,trivial⟩ rfl rfl rfl ?_;refine XK.ga (fun _=>zcT (zlB 1) rfl zp2 yd rfl) rfl rfl rfl ?_;refine XK.ga (fun _=>zcT (zdz (remW allW (addW t (ofW 1))) (ofW 1)) rfl zhS ye rfl) rfl rfl rfl ?_;refine xo ?_;refine XK.ga y4 rfl rfl rfl ?_;refine xj ?_;refine XK.e (fun fr' hfr kk H=>by exact zN zo3 rfl rfl rfl rfl (zD H)) ?_;refine XK.e (x:=.idk) (fun fr' hfr kk H=>by exact zg rfl rfl rfl ((hfr 9 yc).trans rfl) rfl (Lens.self _) zag ((hfr 32 yc).trans rfl) (zD H)) ?_;refine X0 aV ?_;refine xw ?_;refine CQQR ?_;refine qd6 ?_;refine A0 (zgZ rfl rfl rfl (eqt_52)) ?_;refine CN ?_;refine zl (p:=addW (remW allW (addW t (ofW 1))) (ofW 1)=addW t (ofW 1)) rfl yw (fun ht36=>?_) (fun ht36=>?_)
 .
  refine zA [some 1,some 1,some 1,some 1,some 1,some 1000001,none] mixed yc ?_;refine qcO ?_;refine X0 (oCl (zlB 1) rfl zp2 yd) ?_;refine X0 (oCl (zdz (divW allW (addW t (ofW 1))) (ofW 1)) rfl zhS ye) ?_;refine qdJ ?_;refine xj ?_;refine XK.e (x:=.idk) (fun fr' hfr kk H=>by exact zg rfl rfl rfl ((hfr 6 yc).trans rfl) rfl (Lens.self _) zag ((hfr 41 yc).trans rfl) (zD H)) ?_;refine qe6 ?_;refine CQR ?_;refine qcu ?_;exact zE rfl rfl rfl rfl zag ((zvx ha (ua ht19)).1 ht36)
 refine CSQR ?_;refine qcu ?_;exact zE rfl rfl rfl rfl zag ((zvx ha (ua ht19)).2 ht36)
theorem zsx (h:Head):Tells P 348 [.val zbk h] (.val zV (zfy h)):=by
 refine zc Tryz.func348 rfl rfl rfl (fun ext w hext=>?_);refine qeW ?_;refine qdG ?_;refine A0 (oCl (zly h.bits) rfl fn_297 yd) ?_;refine qcM ?_;refine qfg ?_;refine zl (p:=¬zaV h.bits=true) rfl ybX (fun ht12=>?_) (fun ht12=>?_)
 .
  refine qaO ?_;refine CN ?_;exact zE rfl rfl rfl rfl zag (by unfold zfy;rw[ur ht12]<;>rfl)
 refine CSQR ?_;refine qa5 ?_;refine A0 (oCl (rworkW_ok (tgtW h.bits)) rfl fn_376 yd) ?_;refine qaf ?_;refine CN ?_;exact zE rfl rfl rfl rfl zag (by unfold zfy;rw[ut (ua ht12)])
theorem zjI (h:Head):Tells P 337 [.val zbk h] (.tup2 (.fresh 5 u8T (zad h)) (.val zo (hOk h))):=by
 refine zc Tryz.func337 rfl rfl rfl (fun ext w hext=>?_);refine ze (d:=0) rfl zk0 (fun hf=>?_);obtain⟨hf1,hf2,hf3,hf4,hf5⟩:=hf;have hbl:=zcE h.work;have hn1:=zF (zK (IntL.toI i64T h.height)) 4;have hn2:=zF (zK (IntL.toI u32T h.bits)) 4;have hn3:=zF h.nonce 8;refine qbN ?_;refine qbT ?_;refine qb7 ?_;refine qcZ ?_;refine Sp (d:=9) (p:=h.height<0) (fun g9=>?_) (fun g9=>?_)
 .
  refine qcA ?_;refine Ct ?_;refine qbE ?_;exact zG rfl rfl ybB (za rfl (uh ya).symm)
 refine A1 (oFp zcI) ?_;refine A1 (oLb zal ty_3) ?_;refine qeK ?_;refine Cf (p:=1048576<h.height) (fun ht13=>?_) (fun ht13=>?_)
 .
  have hE:hOk h=false:=uh ya;refine qbE ?_;exact zG rfl rfl ybB (za rfl (uh ya).symm)
 refine CSQR ?_;refine A0 (oFp zjW) ?_;refine A0 (oLb zeH zag) ?_;refine A0 (oCl (zpI _) rfl fn_371 yd) ?_;refine qaC ?_;refine qaq ?_;refine qdo ?_;refine zel (d:=4) rfl rfl (Lens.self _) ?_;refine CR ?_;refine qfA ?_;refine qd1 ?_;refine zao (zjL (zK (IntL.toI i64T h.height)) 4 yl) rfl zor ye rfl rfl rfl ?_;refine qby ?_;refine A0 (oFr zez zbB) ?_;refine qbJ ?_;refine xx ?_;refine qby ?_;refine A0 (oFr zey zbc) ?_;refine qbJ ?_;refine xx ?_;refine qby ?_;refine A0 (oFr zfW zcF) ?_;refine qbJ ?_;refine xx ?_;refine qby ?_;refine A0 (oFr zhw zcZ) ?_;refine qbJ ?_;refine xx ?_;refine qby ?_;refine qbJ ?_;refine xx ?_;refine qby ?_;refine qdZ ?_;refine A0 (zg0 rfl (zlp) (zqA) rfl) ?_;refine zao (zjL (zK (IntL.toI u32T h.bits)) 4 yl) rfl zor ye rfl rfl rfl ?_;refine zhV (d:=44) rfl rfl ?_;refine xx ?_;refine qby ?_;refine A0 (oFr zgF zcd) ?_;refine A0 (zh rfl rfl za2) ?_;refine zao (zjL h.nonce 8 yl) rfl zor yb3 rfl rfl rfl ?_;refine zhV (d:=49) rfl rfl ?_;refine xx ?_;refine qcl ?_;exact zG rfl rfl (zf rfl rfl (by have hE:hOk h=true:=ui ya;unfold zad;rw[ut hE];unfold zbQ;simp)) (za rfl (ui ya).symm)
theorem zlC (h:Head):Tells P 303 [.val zbk h] (.val idT (zaN h)):=by
 refine zc Tryz.func303 rfl rfl rfl (fun ext w hext=>?_);refine ze (d:=0) rfl zk0 (fun hh=>?_);obtain⟨hh1,hh2,hh3,hh4,hh5⟩:=hh;refine qeP ?_;refine qci ?_;refine A0 (oCl (zbi (zjI h)) rfl fn_337 yd) ?_;refine qbF ?_;refine qaT ?_;refine zl (p:=¬hOk h=true) rfl (by cases hOk h<;>rfl) (fun ht11=>?_) (fun ht11=>?_)
 .
  refine qeo ?_;exact zE rfl rfl rfl rfl zY (by unfold zaN;rw[ur ht11]<;>rfl)
 refine CSQR ?_;refine qa6 ?_;refine zfi (S:=bsl u8T) (d:=13) rfl ?_;refine qaz ?_;refine zfi (S:=bsl u8T) (d:=14) rfl ?_;refine qbW ?_;refine A0 (oCl (zvE [[5],zad h] (by unfold zad;split<;>simp[zbQ,hh1,hh2,hh3,hh4,zcE,zF])) rfl zwm yd) ?_;refine qbP ?_;exact zE rfl rfl rfl rfl zY (by unfold zaN zad;rw[ut (ua ht11),ut (ua ht11)];simp)
theorem mul_or {x:UInt64} {y:UInt8}:256*x+zK (IntL.toI u8T y)=zgv x 8|||zK (IntL.toI u8T y):=by
  have hx:x.toNat<18446744073709551616:=x.toNat_lt;have hy:y.toNat<256:=y.toNat_lt;have e:(zK (IntL.toI u8T y)).toNat=y.toNat:=by
    unfold zK;show(UInt64.ofNat (((y.toNat:Nat):Int)%18446744073709551616).toNat).toNat=y.toNat
    rw[toNat_ofNat_of_lt' yQ];omega
  apply toNat_inj.1;rw[toNat_or,shl_n yl,e,toNat_add,toNat_mul,e,show(256:UInt64).toNat=256 from rfl];have e2:x.toNat*2^8%18446744073709551616=x.toNat%72057594037927936*2^8:=ya;rw[e2,zvQ ya];omega
theorem zsw (b:Ab.Id):Tells P 336 [.val idT b] (.val zV (zfa b)):=by
 refine zc Tryz.func336 rfl rfl rfl (fun ext w hext=>?_);refine ze (d:=0) rfl zhE (fun hb=>?_);refine qeW ?_;refine qa1 ?_;refine qa4 ?_;refine Lp (ι:=Nat) 3 (fun (k:Nat)=>((((Fr.none).set 1 (.ptr 0 0)).set 2 (.ptr 1 0)).set 3 (.ptr 2 0)).set 4 (.val i64T (k:Int))) (fun (k:Nat)=>(((Hp.none).set 0 (.box 49 idT b)).set 1 (.box 52 zV zaG)).set 2 (.box 52 zV (zq6 b k))) (fun (k:Nat)=>k<=32) (fun (k:Nat)=>32-k) (0) (uf _) ?_;intro k hinv;refine qes ?_;refine Cf (p:=k<32) (fun ht7=>?_) (fun ht7=>?_)
 .
  refine qbp ?_;refine qb9 ?_;refine qfv ?_;refine qad ?_;refine zA [some 1,some 1,some 1,some 1,some 1,some 1,some 1,some 1,some 1,some 1,some 1,none] mixed yc ?_;refine qbC ?_;refine X0 (zy (i:=3-k/8) rfl rfl rfl yi zbm ya) ?_;refine X0 (zr rfl rfl rfl (Lens.elem (i:=3-k/8) ya u64T) za2) ?_;refine X0 (g_mul64 rfl rfl rfl) ?_;refine X0 mV ?_;refine X0 (zy (i:=k) rfl rfl rfl yi zhL ya) ?_;refine X0 (zr rfl rfl rfl (Lens.elem (i:=k) ya u8T) ty_5) ?_;refine X0 (zg0 rfl (zlp) (us_5) rfl) ?_;refine X0 (zrs rfl rfl rfl) ?_;refine X0 (zy (i:=3-k/8) rfl rfl rfl yi zbm ya) ?_;refine XK.e (x:=.idk) (fun fr' hfr kk H=>by exact zg rfl rfl rfl ((hfr 23 yc).trans rfl) rfl (Lens.elem (i:=3-k/8) ya u64T) za2 ((hfr 22 yc).trans rfl) (zD H)) ?_;refine qaV ?_;refine qan ?_;refine zt (n:=2) (y:=zq6 b (k+1)) rfl (by unfold zq6;rw[zcz];unfold of32S;rw[<-mul_or];rfl) ?_;exact Nx (k+1) ya ya
 obtain rfl:k=32:=ya;refine qaU ?_;refine qcu ?_;exact zE rfl rfl rfl rfl zag (rfl)
theorem zuc {f:Int->Bool} (hm:∀i j:Nat,i<=j->f (i:Int)=true->f (j:Int)=true):∀(n lo hi:Nat),hi-lo=n->lo<=hi->(∀j:Nat,j<searchN f lo hi->lo<=j->f (j:Int)=false)/\(searchN f lo hi<hi->f ((searchN f lo hi:Nat):Int)=true)/\lo<=searchN f lo hi/\searchN f lo hi<=hi:=by
  intro n
  induction n using Nat.strongRecOn with
  | ind n ih =>
    intro lo hi hn hle;by_cases h:lo<hi
    . by_cases c:f (((lo+hi)/2:Nat):Int)=true
      . rw[zlv h c]
        obtain⟨h1,h2,h3,h4⟩:=ih ((lo+hi)/2-lo) ya lo ((lo+hi)/2) rfl ya;refine⟨h1,fun _=>?_,h3,by omega⟩;by_cases d:searchN f lo ((lo+hi)/2)<(lo+hi)/2
        . exact h2 d
        rw[show searchN f lo ((lo+hi)/2)=(lo+hi)/2 by omega];exact c
      rw[znB h c];obtain⟨h1,h2,h3,h4⟩:=ih (hi-((lo+hi)/2+1)) ya ((lo+hi)/2+1) hi rfl ya;refine⟨fun j hj hlo=>?_,h2,by omega,h4⟩;by_cases d:(lo+hi)/2+1<=j
      . exact h1 j hj d
      cases e:f (j:Int) with
      | false=>rfl
      | true=>exact absurd (hm j _ ya e) c
    have e:searchN f lo hi=lo:=by rw[searchN,dif_neg h]
    rw[e];exact⟨fun j hj hlo=>by omega,fun hh=>absurd hh h,ug _,hle⟩
def zjp (x t:Wide):Nat->Int
  | 0=>-1
  | k+1=>if cmpW x (zdh t k)<=0 then k else zjp x t k
theorem zn9 {x t:Wide} (hx:x.length=4) (ht:t.length=4) (i j:Nat) (hij:i<=j) (h:zgV x t (i:Int)=true):zgV x t (j:Int)=true:=by
  unfold zgV at *;rw[uj] at *;by_cases hj:j<256
  . rw[zqd hx (zei ht),zjN ht ya] at h
    rw[zqd hx (zei ht),zjN ht hj];have hd:nW t/2^j<=nW t/2^i:=Nat.div_le_div_left (Nat.pow_le_pow_right yl hij) (two_pow_pos i);have h1:nW t/2^i<nW x:=by
      by_cases c:nW x<nW t/2^i
      . rw[ut c] at h;exact absurd h yl
      rw[ur c] at h;by_cases d:nW t/2^i<nW x
      . exact d
      rw[ur d] at h;exact absurd h yl
    rw[ur ya,ut ya];decide
  have hz:zdh t (j:Int)=zaG:=by unfold zdh;rw[ur ya,ut ya]
  rw[hz,zqd hx rfl];rw[zqd hx (zei ht)] at h;have hz0:nW zaG=0:=rfl;rw[hz0];have h1:nW (zdh t (i:Int))<nW x:=by
    by_cases c:nW x<nW (zdh t (i:Int))
    . rw[ut c] at h;exact absurd h yl
    rw[ur c] at h;by_cases d:nW (zdh t (i:Int))<nW x
    . exact d
    rw[ur d] at h;exact absurd h yl
  rw[ur ya,ut ya];decide
theorem zv3 {x t:Wide} {s:Nat} (h1:∀j:Nat,j<s->zgV x t (j:Int)=false) (h2:∀j:Nat,s<=j->j<32->zgV x t (j:Int)=true):∀k,k<=32->zjp x t k=(min k s:Nat)-1
  | 0,_=>by rw[zjp];omega
  | k+1,hk=>by
    rw[zjp,zv3 h1 h2 k ya];by_cases c:k<s
    . have:=h1 k c
      unfold zgV at this;rw[decide_eq_false_iff_not] at this;rw[ut ya];omega
    have:=h2 k ya ya
    unfold zgV at this;rw[uj] at this;rw[ur ya];omega
theorem lastLv_all {id:Ab.Id} {t:Wide} (hx:(zfa id).length=4) (ht:t.length=4):zjp (zfa id) t 32=zpO id t:=by
  obtain⟨h1,h2,_,h4⟩:=zuc (f:=zgV (zfa id) t) (fun i j=>zn9 hx ht i j) 32 0 32 rfl ya;rw[zv3 (s:=searchN (zgV (zfa id) t) 0 32) (fun j hj=>h1 j hj ya) (fun j hj hj2=>zn9 hx ht _ j hj (h2 ya)) 32 (ug _)];unfold zpO;omega
theorem zq5 {b:Ab.Id}:(zfa b).length=4:=by
  have h:∀k,(zq6 b k).length=4:=fun k=>by
    induction k with
    | zero=>rfl
    | succ k ih=>unfold zq6;rw[zcz];unfold of32S;rw[length_set];exact ih
  exact h 32
theorem rlevelW_ok (id:Ab.Id) (t:Wide):Tells P 350 [.val idT id,.val zV t] (.val i64T (zpO id t)):=by
 refine zc Tryz.func350 rfl rfl rfl (fun ext w hext=>?_);refine ze (d:=1) rfl zaI (fun ht=>?_);refine qeJ ?_;refine qcz ?_;refine Lp (ι:=Nat) 2 (fun (k:Nat)=>((((Fr.none).set 2 (.ptr 0 0)).set 3 (.ptr 1 0)).set 5 (.val i64T (zjp (zfa id) t k))).set 6 (.val i64T (k:Int))) (fun (k:Nat)=>((Hp.none).set 0 (.box 49 idT id)).set 1 (.box 52 zV t)) (fun (k:Nat)=>k<=32) (fun (k:Nat)=>32-k) (0) (uf _) ?_;intro k hinv;refine qbd ?_;refine A0 zfR ?_;refine CN ?_;refine Cf (p:=k<=31) (fun ht8=>?_) (fun ht8=>?_)
 .
  refine qff ?_;refine G0 (oLs rfl rfl rfl zY) ?_;refine G0 (oCl (zsw id) rfl fn_336 yd) ?_;refine G0 (oLs rfl rfl rfl zag) ?_;refine G0 mV ?_;refine G0 (oCl (rdownW_ok t k) rfl fn_378 ye) ?_;refine G0 (oCl (zmW (zfa id) (zdh t k)) rfl zwl ye) ?_;refine G0 zfR ?_;refine GK.nil ?_;refine Cf (p:=cmpW (zfa id) (zdh t k)<=0) (fun ht17=>?_) (fun ht17=>?_)
  .
   refine qe5 ?_;refine qdB ?_;refine zj (d:=5) (y:=zjp (zfa id) t (k+1)) rfl (by rw[zjp,ut ht17]) ?_;exact Nx (k+1) ya ya
  refine qcG ?_;refine zj (d:=5) (y:=zjp (zfa id) t (k+1)) rfl (by rw[zjp,ur ht17]) ?_;exact Nx (k+1) ya ya
 obtain rfl:k=32:=ya;refine qdl ?_;exact zb rfl rfl (za rfl (lastLv_all zq5 ht))
theorem zks (h:Head):Tells P 305 [.val zbk h] (.val i64T (zaa h)):=by
 refine zc Tryz.func305 rfl rfl rfl (fun ext w hext=>?_);refine qe9 ?_;refine qci ?_;refine A0 (oCl (zbi (zjI h)) rfl fn_337 yd) ?_;refine qaA ?_;refine A0 aV ?_;refine qaj ?_;refine qdG ?_;refine A0 (oCl (zly h.bits) rfl fn_297 yd) ?_;refine qcM ?_;refine qag ?_;refine A0 oN ?_;refine qaz ?_;refine zX (d:=20) (p:=¬hOk h=true) rfl (by cases hOk h<;>rfl) (fun g20=>?_) (fun g20=>?_)
 .
  refine qdg ?_;refine Ct ?_;refine qar ?_;exact zb rfl rfl (za rfl (by unfold zaa;rw[ur (fun hc=>g20 hc.2)]))
 refine qfY ?_;refine A1 oN ?_;refine qat ?_;refine zl (p:=¬zaV h.bits=true) rfl ybX (fun ht23=>?_) (fun ht23=>?_)
 .
  refine qar ?_;exact zb rfl rfl (za rfl (by unfold zaa;rw[ur (fun hc=>ht23 hc.1)]))
 refine CSQQR ?_;refine qb7 ?_;refine qdh ?_;refine Cf (p:=h.height=0) (fun ht26=>?_) (fun ht26=>?_)
 .
  refine qar ?_;exact zb rfl rfl (za rfl (by unfold zaa;rw[ut ⟨ua ht23,ua g20⟩,ut ht26]))
 refine CS ?_;refine qaI ?_;refine G0 (oLs rfl rfl rfl zbZ) ?_;refine G0 (oCl (zlC h) rfl fn_303 yd) ?_;refine G0 (oLs rfl rfl rfl zag) ?_;refine G0 (oCl (rlevelW_ok (zaN h) (tgtW h.bits)) rfl fn_350 ye) ?_;refine qaM ?_;exact zb rfl rfl (za rfl (by unfold zaa;rw[ut ⟨ua ht23,ua g20⟩,ur ht26]))
theorem may_eq {h:Head}:decide (0<=zaa h)=zcf h:=by
  have h2:-1<=zaa h:=by
    unfold zaa
    split
    . split
      . decide
      unfold zpO;omega
    omega
  unfold zcf;by_cases c:zaa h = -1
  . rw[c];rfl
  rw[ui (by omega:0<=zaa h),uh c];rfl
theorem zug (h:Head):Tells P 260 [.val zbk h] (.val zo (zcf h)):=by
 refine zc Tryz.func260 rfl rfl rfl (fun ext w hext=>?_);refine qe9 ?_;refine qci ?_;refine A0 (oCl (zks h) rfl fn_305 yd) ?_;refine qfs ?_;exact zb rfl rfl (za rfl may_eq)
def zfE (x:Trial):Prop:=zgc x.t/\x.b.t.length<=4000000000000
def zmu (x:Trial):Int:=if 48<=x.b.h.height then 3 else 0
def zqY (x:Trial):Int:=if ¬zfh x.b.h=zfh x.want then 5 else 0
def zpb (x:Trial):Int:=if ¬x.b.h.links=x.want.links\/¬x.b.l=zhQ x.t then 6 else 0
def zqV (x:Trial):Int:=if ¬x.b.h=x.want then 7 else 0
def zqy (x:Trial):Int:=if ¬zcf x.b.h=true then 4 else 0
def zg4 (x:Trial):Int:=(zab x.t.c x.b.t).2
def ztr (x:Trial):Trial:={ x with c:=(zab x.t.c x.b.t).1 }
def zh1 (f:Option Nat) (x:Trial):Int:=if f=some 128 then zmu x else if f=some 129 then zqY x else if f=some 130 then zpb x else if f=some 131 then zqV x else if f=some 132 then zqy x else zg4 x
def askX (f:Option Nat) (x:Trial):Trial:=if f=some 133 then ztr x else x
def zhT:List (Option Nat)->Trial->Int
  | [],_=>0
  | f::l,x=>if zh1 f x=0 then zhT l (askX f x) else zh1 f x
def ziu:List (Option Nat)->Trial->Trial
  | [],x=>x
  | f::l,x=>if zh1 f x=0 then ziu l (askX f x) else askX f x
def Asks (f:Option Nat):Prop:=f=some 128\/f=some 129\/f=some 130\/f=some 131\/f=some 132\/f=some 133
theorem zb8 {l:List (Option Nat)} {k:Nat} {f:Option Nat} {x:Trial} (h:l[k]?=some f) (h0:zh1 f x=0):zhT (l.drop k) x=zhT (l.drop (k+1)) (askX f x)/\ziu (l.drop k) x=ziu (l.drop (k+1)) (askX f x):=by
  obtain⟨hk,rfl⟩:=ul.1 h;rw[List.drop_eq_getElem_cons hk,zhT,ziu,ut h0,ut h0];exact⟨rfl,rfl⟩
theorem zaR {l:List (Option Nat)} {k:Nat} {f:Option Nat} {x:Trial} (h:l[k]?=some f) (h0:¬zh1 f x=0):zhT (l.drop k) x=zh1 f x/\ziu (l.drop k) x=askX f x:=by
  obtain⟨hk,rfl⟩:=ul.1 h;rw[List.drop_eq_getElem_cons hk,zhT,ziu,ur h0,ur h0];exact⟨rfl,rfl⟩
theorem zov {l:List (Option Nat)} {k:Nat} {x:Trial} (h:l.length<=k):zhT (l.drop k) x=0/\ziu (l.drop k) x=x:=by
  rw[List.drop_of_length_le h];exact⟨rfl,rfl⟩
theorem zcB {f:Option Nat} {x:Trial} (h:zfE x):zfE (askX f x):=by unfold askX;split<;>exact h
theorem ask_size (x:Trial):Tells P 128 [.rptr zeT x] (.val i64T (zmu x)):=by
 refine zc Tryz.func128 rfl rfl rfl (fun ext w hext=>?_);refine CQR ?_;refine qbT ?_;refine A0 mR ?_;refine A0 (zep rfl rfl) ?_;refine A0 (oFr zhB zf8) ?_;refine A0 (oFr zcV zaU) ?_;refine qfA ?_;refine qb5 ?_;refine Cf (p:=48<=x.b.h.height) (fun ht9=>?_) (fun ht9=>?_)
 .
  refine qar ?_;exact zb rfl rfl (za rfl (by unfold zmu;rw[ut (ht9)]))
 refine qeE ?_;exact zb rfl rfl (za rfl (by unfold zmu;rw[ur (ht9)]))
theorem ask_prev (x:Trial):Tells P 129 [.rptr zeT x] (.val i64T (zqY x)):=by
 refine zc Tryz.func129 rfl rfl rfl (fun ext w hext=>?_);refine qdu ?_;refine qfa ?_;refine G0 (oCl (zqk _) rfl fn_191 yb1) ?_;refine qcx ?_;refine G0 (oFr zkY ze6) ?_;refine qfa ?_;refine G0 (oCl (zqk _) rfl fn_191 yb1) ?_;refine G0 (zgY rfl rfl rfl (zmd)) ?_;refine GK.nil ?_;refine zl (p:=¬zfh x.b.h=zfh x.want) rfl yw (fun ht14=>?_) (fun ht14=>?_)
 .
  refine qar ?_;exact zb rfl rfl (za rfl (by unfold zqY;rw[ut (ht14)]))
 refine qeE ?_;exact zb rfl rfl (za rfl (by unfold zqY;rw[ur (ht14)]))
theorem ask_link (x:Trial) (hx:zfE x):Tells P 130 [.rptr zeT x] (.val i64T (zpb x)):=by
 refine zc Tryz.func130 rfl rfl rfl (fun ext w hext=>?_);refine qdu ?_;refine G0 (oFr zey zbc) ?_;refine qcE ?_;refine qcx ?_;refine G0 (oFr zkY ze6) ?_;refine G0 (oFr zey zbc) ?_;refine qcE ?_;refine G0 (zgY rfl rfl rfl (zix)) ?_;refine zaj (d:=14) (p:=¬x.b.h.links=x.want.links) rfl yw (fun g14=>?_) (fun g14=>?_)
 .
  refine G0 mV ?_;refine qac ?_;refine qac ?_;refine qaY ?_;refine Ct ?_;refine qar ?_;exact zb rfl rfl (za rfl (by unfold zpb;rw[ut (.inl g14)]))
 refine G0 mV ?_;refine G1 mR ?_;refine G1 (zep rfl rfl) ?_;refine G1 (oFr zhB zf8) ?_;refine G1 (oFr zgE zdx) ?_;refine G1 (zh rfl rfl zcl) ?_;refine G1 mR ?_;refine G1 (zep rfl rfl) ?_;refine G1 (oFr zm9 zlf) ?_;refine G1 (zh rfl rfl zfr) ?_;refine G1 (oCl (zu (zn5 x.t)) rfl fn_190 yb1) ?_;refine G1 (oCl (zuG _ _) rfl fn_57 yb3) ?_;refine G1 oN ?_;refine qaY ?_;refine zl (p:=¬x.b.l=zhQ x.t) rfl yw (fun ht28=>?_) (fun ht28=>?_)
 .
  refine qar ?_;exact zb rfl rfl (za rfl (by unfold zpb;rw[ut (.inr ht28)]))
 refine qeE ?_;exact zb rfl rfl (za rfl (by unfold zpb;rw[ur (fun h=>h.elim g14 ht28)]))
theorem ask_root (x:Trial):Tells P 131 [.rptr zeT x] (.val i64T (zqV x)):=by
 refine zc Tryz.func131 rfl rfl rfl (fun ext w hext=>?_);refine qdu ?_;refine qfa ?_;refine qcx ?_;refine G0 (oFr zkY ze6) ?_;refine qfa ?_;refine G0 (zgY rfl rfl rfl (zmd)) ?_;refine GK.nil ?_;refine zl (p:=¬x.b.h=x.want) rfl yw (fun ht12=>?_) (fun ht12=>?_)
 .
  refine qar ?_;exact zb rfl rfl (za rfl (by unfold zqV;rw[ut (ht12)]))
 refine qeE ?_;exact zb rfl rfl (za rfl (by unfold zqV;rw[ur (ht12)]))
theorem ask_work (x:Trial):Tells P 132 [.rptr zeT x] (.val i64T (zqy x)):=by
 refine zc Tryz.func132 rfl rfl rfl (fun ext w hext=>?_);refine CQR ?_;refine qbT ?_;refine A0 mR ?_;refine A0 (zep rfl rfl) ?_;refine A0 (oFr zhB zf8) ?_;refine A0 (oFr zcV zaU) ?_;refine A0 (zh rfl rfl zbZ) ?_;refine A0 (oCl (zlK _) rfl fn_120 yb1) ?_;refine qaT ?_;refine zl (p:=¬zcf x.b.h=true) rfl yw (fun ht9=>?_) (fun ht9=>?_)
 .
  refine qar ?_;exact zb rfl rfl (za rfl (by unfold zqy;rw[ut (ht9)]))
 refine qeE ?_;exact zb rfl rfl (za rfl (by unfold zqy;rw[ur (ht9)]))
theorem ask_coins (x:Trial) (hx:zfE x):zfp P 133 (.box 217 zeT x) [.ptr 0 0] (.val i64T (zg4 x)) (.box 217 zeT (ztr x)):=by
 refine zg1 trivial Tryz.func133 rfl rfl ⟨Nat.one_pos,trivial⟩ (fun ext pg w hext hgr=>?_);refine CQR ?_;refine qc3 ?_;refine qfF ?_;refine G0 (oFp zm9) ?_;refine G0 (oFp zru) ?_;refine G0 (oLb (zlf.comp zrS) zms) ?_;refine qfF ?_;refine G0 (oFp zhB) ?_;refine G0 (oFp zgD) ?_;refine G0 (oLb (zf8.comp zdw) zo4) ?_;refine G0 (oCl (zbi (apply_ok x.t.c x.b.t (by have:=hx.1.2.2;omega))) rfl fn_192 ye) ?_;refine G0 mX ?_;refine G0 yaQ ?_;refine G0 ybz ?_;refine qfQ ?_;refine CQR ?_;refine A0 mP ?_;refine qaz ?_;refine qcL ?_;refine A0 (oFp zwz) ?_;refine zg rfl rfl rfl rfl rfl ztU zms rfl ?_;refine qd5 ?_;refine qad ?_;exact zfA rfl rfl rfl rfl rfl (zcb rfl rfl) (zgw (zcb (x:=ztr x) rfl rfl) rfl rfl)
theorem zwx (x0:Trial) (l:List (Option Nat)) (hx0:zfE x0) (hl:∀f∈l,Asks f):zfp P 134 (.box 217 zeT x0) [.ptr 0 0,.val (bsl fnoT) l] (.val i64T (zhT l x0)) (.box 217 zeT (ziu l x0)):=by
 refine zg1 trivial Tryz.func134 rfl rfl ⟨Nat.one_pos,⟨trivial,trivial⟩⟩ (fun ext pg w hext hgr=>?_);refine ze (d:=1) rfl zk (fun hsl1=>?_);refine qcK ?_;refine A0 (zaC rfl rfl isl_221) ?_;refine qaF ?_;refine Lp (ι:=Nat×Trial) 1 (fun (i:Nat×Trial)=>match i with|(k,x)=>((((Fr.none).set 0 (.ptr 0 0)).set 8 (.val (bsl fnoT) l)).set 9 (.val i64T (l.length:Int))).set 10 (.val i64T (k:Int))) (fun (i:Nat×Trial)=>match i with|(k,x)=>(Hp.none).set 0 (.box 217 zeT x)) (fun (i:Nat×Trial)=>match i with|(k,x)=>k<=l.length/\zfE x/\zhT l x0=zhT (l.drop k) x/\ziu l x0=ziu (l.drop k) x) (fun (i:Nat×Trial)=>match i with|(k,x)=>l.length-k) ((0,x0)) (⟨uf _,hx0,rfl,rfl⟩) ?_;intro⟨k,x⟩ hinv;dsimp only at hinv;refine qap ?_;refine Cf (p:=k<l.length) (fun ht11=>?_) (fun ht11=>?_)
 .
  obtain⟨f,hf⟩:∃f,l[k]?=some f:=ybv;have hask:=hl f (ud hf);rcases hask with he|he|he|he|he|he
  .
   refine qaQ ?_;refine zj (d:=14) rfl he ?_;refine zdC (d:=14) (f:=128) rfl ?_;refine A0 mP ?_;refine A0 (zfd (As:=[_]) (Cs:=[]) (ask_size x) rfl rfl fn_128 yb4 yC trivial rfl) ?_;refine qaw ?_;refine zl (p:=¬zh1 f x=0) rfl ya2 (fun ht18=>?_) (fun ht18=>?_)
   .
    refine qcq ?_;refine xy ?_;exact zfA rfl rfl rfl rfl rfl (zcb rfl (hinv.2.2.2.trans (zaR hf ht18).2).symm) (zgw (zcb rfl (hinv.2.2.2.trans (zaR hf ht18).2).symm) rfl yap)
   refine qbt ?_;refine xy ?_;exact Nx ((k+1,askX f x)) (⟨by omega,zcB hinv.2.1,hinv.2.2.1.trans (zb8 hf (ua ht18)).1,hinv.2.2.2.trans (zb8 hf (ua ht18)).2⟩) yar
  .
   refine qaQ ?_;refine zj (d:=14) rfl he ?_;refine zdC (d:=14) (f:=129) rfl ?_;refine A0 mP ?_;refine A0 (zfd (As:=[_]) (Cs:=[]) (ask_prev x) rfl rfl fn_129 yb4 yC trivial rfl) ?_;refine qaw ?_;refine zl (p:=¬zh1 f x=0) rfl ya2 (fun ht18=>?_) (fun ht18=>?_)
   .
    refine qcq ?_;refine xy ?_;exact zfA rfl rfl rfl rfl rfl (zcb rfl (hinv.2.2.2.trans (zaR hf ht18).2).symm) (zgw (zcb rfl (hinv.2.2.2.trans (zaR hf ht18).2).symm) rfl yap)
   refine qbt ?_;refine xy ?_;exact Nx ((k+1,askX f x)) (⟨by omega,zcB hinv.2.1,hinv.2.2.1.trans (zb8 hf (ua ht18)).1,hinv.2.2.2.trans (zb8 hf (ua ht18)).2⟩) yar
  .
   refine qaQ ?_;refine zj (d:=14) rfl he ?_;refine zdC (d:=14) (f:=130) rfl ?_;refine A0 mP ?_;refine A0 (zfd (As:=[_]) (Cs:=[]) (ask_link x hinv.2.1) rfl rfl fn_130 yb4 yC trivial rfl) ?_;refine qaw ?_;refine zl (p:=¬zh1 f x=0) rfl ya2 (fun ht18=>?_) (fun ht18=>?_)
   .
    refine qcq ?_;refine xy ?_;exact zfA rfl rfl rfl rfl rfl (zcb rfl (hinv.2.2.2.trans (zaR hf ht18).2).symm) (zgw (zcb rfl (hinv.2.2.2.trans (zaR hf ht18).2).symm) rfl yap)
   refine qbt ?_;refine xy ?_;exact Nx ((k+1,askX f x)) (⟨by omega,zcB hinv.2.1,hinv.2.2.1.trans (zb8 hf (ua ht18)).1,hinv.2.2.2.trans (zb8 hf (ua ht18)).2⟩) yar
  .
   refine qaQ ?_;refine zj (d:=14) rfl he ?_;refine zdC (d:=14) (f:=131) rfl ?_;refine A0 mP ?_;refine A0 (zfd (As:=[_]) (Cs:=[]) (ask_root x) rfl rfl fn_131 yb4 yC trivial rfl) ?_;refine qaw ?_;refine zl (p:=¬zh1 f x=0) rfl ya2 (fun ht18=>?_) (fun ht18=>?_)
   .
    refine qcq ?_;refine xy ?_;exact zfA rfl rfl rfl rfl rfl (zcb rfl (hinv.2.2.2.trans (zaR hf ht18).2).symm) (zgw (zcb rfl (hinv.2.2.2.trans (zaR hf ht18).2).symm) rfl yap)
   refine qbt ?_;refine xy ?_;exact Nx ((k+1,askX f x)) (⟨by omega,zcB hinv.2.1,hinv.2.2.1.trans (zb8 hf (ua ht18)).1,hinv.2.2.2.trans (zb8 hf (ua ht18)).2⟩) yar
  .
   refine qaQ ?_;refine zj (d:=14) rfl he ?_;refine zdC (d:=14) (f:=132) rfl ?_;refine A0 mP ?_;refine A0 (zfd (As:=[_]) (Cs:=[]) (ask_work x) rfl rfl fn_132 yb4 yC trivial rfl) ?_;refine qaw ?_;refine zl (p:=¬zh1 f x=0) rfl ya2 (fun ht18=>?_) (fun ht18=>?_)
   .
    refine qcq ?_;refine xy ?_;exact zfA rfl rfl rfl rfl rfl (zcb rfl (hinv.2.2.2.trans (zaR hf ht18).2).symm) (zgw (zcb rfl (hinv.2.2.2.trans (zaR hf ht18).2).symm) rfl yap)
   refine qbt ?_;refine xy ?_;exact Nx ((k+1,askX f x)) (⟨by omega,zcB hinv.2.1,hinv.2.2.1.trans (zb8 hf (ua ht18)).1,hinv.2.2.2.trans (zb8 hf (ua ht18)).2⟩) yar
  refine qaQ ?_;refine zj (d:=14) rfl he ?_;refine zdC (d:=14) (f:=133) rfl ?_;refine A0 mP ?_;refine aw_calluv (ask_coins x hinv.2.1) rfl rfl fn_133 rfl trivial trivial rfl ⟨yo,trivial⟩ rfl rfl rfl ?_;refine qaw ?_;refine zl (p:=¬zh1 f x=0) rfl ya2 (fun ht18=>?_) (fun ht18=>?_)
  .
   refine qcq ?_;refine xy ?_;exact zfA rfl rfl rfl rfl rfl (zcb rfl (hinv.2.2.2.trans (zaR hf ht18).2).symm) (zgw (zcb rfl (hinv.2.2.2.trans (zaR hf ht18).2).symm) rfl yap)
  refine qbt ?_;refine xy ?_;exact Nx ((k+1,askX f x)) (⟨by omega,zcB hinv.2.1,hinv.2.2.1.trans (zb8 hf (ua ht18)).1,hinv.2.2.2.trans (zb8 hf (ua ht18)).2⟩) yar
 refine qcs ?_;exact zfA rfl rfl rfl rfl rfl (zcb rfl (hinv.2.2.2.trans (zov ya).2).symm) (zgw (zcb rfl (hinv.2.2.2.trans (zov ya).2).symm) rfl (hinv.2.2.1.trans (zov ya).1).symm)
def zeW (t:Tip) (b:Block):Int :=
  if 48<=b.h.height then 3 else if ¬zfh b.h=zfh (zcS t b.t b.h.nonce) then 5 else
  if ¬b.h.links=(zcS t b.t b.h.nonce).links\/¬b.l=zhQ t then 6 else if ¬b.h=zcS t b.t b.h.nonce then 7 else
  if ¬zcf b.h=true then 4 else (zab t.c b.t).2
def zmv (t:Tip) (b:Block):Tip:=if zeW t b=0 then ⟨b,zb9 t.p (zjP b.h),(zab t.c b.t).1⟩ else t
def zfn (t:Tip) (l:List Tx) (nonce:UInt64) (tries:Int):Int :=
  if 48<=(zcS t l nonce).height then 3 else if ¬(zab t.c l).2=0 then (zab t.c l).2 else if (zik (zcS t l nonce) tries).isSome=true then 0 else 4
def zsO (t:Tip) (l:List Tx) (nonce:UInt64) (tries:Int):Block :=
  if zfn t l nonce tries=0 then ⟨(zik (zcS t l nonce) tries).getD (zcS t l nonce),zhQ t,l⟩ else zrW
theorem ask_two {x:Trial}:zhT [some 128,some 133] x=if 48<=x.b.h.height then 3 else (zab x.t.c x.b.t).2:=by
  show(if zmu x=0 then (if zg4 x=0 then 0 else zg4 x) else zmu x)=_;unfold zmu zg4;by_cases h:48<=x.b.h.height
  . rw[ut h,ut h,ur yl]
  rw[ur h,ur h,ut rfl];split<;>simp_all
theorem zkN {p:Prop} [Decidable p] {e r:Int} (he:e≠0):(if (if p then e else 0)=0 then r else (if p then e else 0))=if p then e else r:=by
  by_cases h:p
  . rw[ut h,ut h,ur he]
  rw[ur h,ur h,ut rfl]
theorem ask_all {t:Tip} {b:Block} {c:List Coin}:zhT [some 128,some 129,some 130,some 131,some 132,some 133] ⟨t,b,zcS t b.t b.h.nonce,c⟩=zeW t b:=by
  obtain⟨x,hx⟩:∃x:Trial,x=⟨t,b,zcS t b.t b.h.nonce,c⟩:=⟨_,rfl⟩;have e:zeW t b=zeW x.t x.b:=by rw[hx]
  have hw:x.want=zcS x.t x.b.t x.b.h.nonce:=by rw[hx]
  rw[e,<-hx];show(if zmu x=0 then (if zqY x=0 then (if zpb x=0 then (if zqV x=0 then (if zqy x=0 then (if zg4 x=0 then 0 else zg4 x) else zqy x) else zqV x) else zpb x) else zqY x) else zmu x)=_;have hc:(if zg4 x=0 then 0 else zg4 x)=zg4 x:=by split<;>simp_all
  rw[hc];unfold zmu zqY zpb zqV zqy zg4 zeW;rw[zkN yl,zkN yl,zkN yl,zkN yl,zkN yl,hw]
theorem ask_allX {t:Tip} {b:Block} {c:List Coin} (h:zeW t b=0):(ziu [some 128,some 129,some 130,some 131,some 132,some 133] ⟨t,b,zcS t b.t b.h.nonce,c⟩).c=(zab t.c b.t).1:=by
  obtain⟨x,hx⟩:∃x:Trial,x=⟨t,b,zcS t b.t b.h.nonce,c⟩:=⟨_,rfl⟩;have hw:x.want=zcS x.t x.b.t x.b.h.nonce:=by rw[hx]
  have h:zeW x.t x.b=0:=by rw[hx];exact h
  have e:(zab t.c b.t).1=(zab x.t.c x.b.t).1:=by rw[hx]
  rw[e,<-hx];show(if zmu x=0 then (if zqY x=0 then (if zpb x=0 then (if zqV x=0 then (if zqy x=0 then (if zg4 x=0 then ztr x else ztr x) else x) else x) else x) else x) else x).c=_;unfold zeW at h;rw[<-hw] at h;by_cases h1:48<=x.b.h.height
  . rw[ut h1] at h;exact absurd h yl
  rw[ur h1] at h;by_cases h2:¬zfh x.b.h=zfh x.want
  . rw[ut h2] at h;exact absurd h yl
  rw[ur h2] at h;by_cases h3:¬x.b.h.links=x.want.links\/¬x.b.l=zhQ x.t
  . rw[ut h3] at h;exact absurd h yl
  rw[ur h3] at h;by_cases h4:¬x.b.h=x.want
  . rw[ut h4] at h;exact absurd h yl
  rw[ur h4] at h;by_cases h5:¬zcf x.b.h=true
  . rw[ut h5] at h;exact absurd h yl
  rw[ur h5] at h;unfold zmu zqY zpb zqV zqy zg4;rw[ur h1,ur h2,ur h3,ur h4,ur h5,ut rfl,ut rfl,ut rfl,ut rfl,ut rfl,ut h];rfl
theorem asks_all:∀f∈([some 128,some 129,some 130,some 131,some 132,some 133]:List (Option Nat)),Asks f:=by intro f hf;simp at hf;unfold Asks;exact hf
theorem asks_two:∀f∈([some 128,some 133]:List (Option Nat)),Asks f:=by intro f hf;simp at hf;unfold Asks;rcases hf with h|h<;>simp[h]
theorem mineBE_err {t:Tip} {l:List Tx} {nonce:UInt64} {tries:Int} (h:¬(if 48<=(zcS t l nonce).height then 3 else (zab t.c l).2)=0):zfn t l nonce tries=(if 48<=(zcS t l nonce).height then 3 else (zab t.c l).2):=by
  unfold zfn
  split
  . rfl
  rename_i h1;rw[ur h1] at h;rw[ut h]
theorem zur {t:Tip} {l:List Tx} {nonce:UInt64} {tries:Int} (h:(if 48<=(zcS t l nonce).height then 3 else (zab t.c l).2)=0) (h2:¬(zik (zcS t l nonce) tries).isSome=true):zfn t l nonce tries=4:=by
  unfold zfn
  split
  . rename_i h1;rw[ut h1] at h;exact absurd h yl
  rename_i h1;rw[ur h1] at h;simp only[h,h2,not_true_eq_false,if_false]
theorem mineBE_ok {t:Tip} {l:List Tx} {nonce:UInt64} {tries:Int} (h:(if 48<=(zcS t l nonce).height then 3 else (zab t.c l).2)=0) (h2:(zik (zcS t l nonce) tries).isSome=true):zfn t l nonce tries=0:=by
  unfold zfn
  split
  . rename_i h1;rw[ut h1] at h;exact absurd h yl
  rename_i h1;rw[ur h1] at h;simp only[h,h2,not_true_eq_false,if_false]
theorem push_ok (t:Tip) (b:Block) (ht:zgc t) (hb:zkj b):Tells P 68 [.val tipT t,.val zaz b] (.tup2 (.val tipT (zmv t b)) (.val i64T (zeW t b))):=by
 have hbt:=hb.2.1;have htp:=ht.2.1;refine zc Tryz.func68 rfl rfl rfl (fun ext w hext=>?_);refine qav ?_;refine qgb ?_;refine qaL ?_;refine zA [some 1,some 1,some 1,some 1,some 1,some 1,some 1,some 1,some 1,some 1,none,some 1] mixed yc ?_;refine X0 (oLs rfl rfl rfl zfr) ?_;refine X0 (oLs rfl rfl rfl zgu) ?_;refine X0 (oLs rfl rfl rfl zfr) ?_;refine X0 (oFp zgD) ?_;refine X0 (oLb zdw zo4) ?_;refine X0 (oFp zcV) ?_;refine X0 (oFp zgF) ?_;refine X0 (oLb (zaU.comp zcd) za2) ?_;refine X0 (oCl (zvV t b.t b.h.nonce ya ya) rfl fn_127 yL) ?_;refine X0 (zJ rfl ze_217 bd_217 (.cons zm9 zlf zfr rfl (.cons zhB zf8 zgu rfl (.cons zkY ze6 zbZ rfl .nil))) rfl) ?_;refine XK.e (fun fr' hfr kk H=>by exact ztN rfl rfl rfl rfl ((hfr 18 yc).trans rfl) (zD H)) ?_;refine X0 aP ?_;refine qe6 ?_;refine CQR ?_;refine A0 (zrq (xs:=[_,_,_,_,_,_]) rfl ar_219 ze_219 ⟨rfl,⟨_,rfl,rfl⟩,rfl,⟨_,rfl,rfl⟩,rfl,⟨_,rfl,rfl⟩,rfl,⟨_,rfl,rfl⟩,rfl,⟨_,rfl,rfl⟩,rfl,⟨_,rfl,rfl⟩,trivial⟩ rfl) ?_;refine zN ze_219 rfl rfl rfl rfl ?_;refine zg rfl rfl rfl rfl rfl (Lens.self _) ty_219 rfl ?_;refine CNQ ?_;refine CQ ?_;refine zel (d:=7) rfl rfl (Lens.self _) ?_;refine CR ?_;refine A0 mP ?_;refine A0 (zog rfl rfl ar_219 rfl rfl) ?_;refine zja (zwx ⟨t,b,zcS t b.t b.h.nonce,[]⟩ [some 128,some 129,some 130,some 131,some 132,some 133] ⟨ht,by show b.t.length<=4000000000000;omega⟩ asks_all) rfl fn_134 rfl trivial trivial rfl yb5 rfl rfl rfl ?_;refine zj (d:=23) rfl ask_all ?_;refine qaR ?_;refine qaG ?_;refine zl (p:=¬zeW t b=0) rfl yx (fun ht25=>?_) (fun ht25=>?_)
 .
  refine CQR ?_;refine qfo ?_;refine A0 (oCl (own_ok t ht) rfl fn_135 yd) ?_;refine qaz ?_;refine qaN ?_;refine qad ?_;exact zi rfl rfl (zm rfl rfl zfr (by unfold zmv;rw[ur ht25])) (zC (za rfl (rfl)))
 refine qfE ?_;refine zA [some 1,some 1,some 1,some 1,some 1,some 1,some 1,some 1,some 1,some 1,some 1,some 1,some 1,none,some 1] mixed yc ?_;refine X0 (oLs rfl rfl rfl zgu) ?_;refine X0 (oCl (ztp b hb) rfl fn_136 yd) ?_;refine X0 (oFp zjV) ?_;refine X0 (oLb zj4 zqC) ?_;refine X0 (oFp zcV) ?_;refine X0 (oLb zaU zbZ) ?_;refine X0 (oCl (zv2 _) rfl fn_118 yd) ?_;refine X0 (oCl (zu (zl9 t.p (zjP b.h) ya)) rfl fn_117 ye) ?_;refine X0 mP ?_;refine qf2 ?_;refine X0 (oFp zwz) ?_;refine X0 (oLb ztU zms) ?_;refine X0 (zJ rfl znk zrH (.cons zfV zdR zgu rfl (.cons zjV zj4 zqC rfl (.cons zru zrS zms rfl .nil))) rfl) ?_;refine XK.e (x:=.idk) (fun fr' hfr kk H=>by exact zg rfl rfl rfl ((hfr 4 yc).trans rfl) rfl (Lens.self _) zfr ((hfr 41 yc).trans rfl) (zD H)) ?_;refine X0 aV ?_;refine qe6 ?_;exact zi rfl rfl (zm rfl rfl zfr (by unfold zmv;rw[ut (ua ht25),ask_allX (ua ht25)])) (zC (za rfl ((ua ht25).symm)))
theorem mineB_ok (t:Tip) (l:List Tx) (nonce:UInt64) (tries:Int) (ht:zgc t) (hl:zsj l):Tells P 171 [.val tipT t,.val (sl txT) l,.val u64T nonce,.val i64T tries] (.tup2 (.val zaz (zsO t l nonce tries)) (.val i64T (zfn t l nonce tries))):=by
 have hbt:=hl.1;have htp:=ht.2.1;refine zc Tryz.func171 rfl rfl rfl (fun ext w hext=>?_);refine ze (d:=1) rfl zk (fun hsl1=>?_);refine ze (d:=3) rfl zz (fun hin3=>?_);refine qae ?_;refine qey ?_;refine qaj ?_;refine qfo ?_;refine qal ?_;refine A0 (oCl (zvV t l nonce ya ya) rfl fn_127 yL) ?_;refine qce ?_;refine qaK ?_;refine CNQR ?_;refine qfo ?_;refine qci ?_;refine qaz ?_;refine A0 (zJ rfl ztY bd_59 (.cons zcV zaU zbZ rfl (.cons zgD zdw zo4 rfl .nil)) rfl) ?_;refine qci ?_;refine A0 (zJ rfl ze_217 bd_217 (.cons zm9 zlf zfr rfl (.cons zhB zf8 zgu rfl (.cons zkY ze6 zbZ rfl .nil))) rfl) ?_;refine qfn ?_;refine A0 aP ?_;refine CNQQR ?_;refine A0 mP ?_;refine A0 (g_bslF (xs:=[_,_]) rfl sl_221 row_221 ⟨rfl,⟨_,rfl,rfl⟩,rfl,⟨_,rfl,rfl⟩,trivial⟩ rfl rfl) ?_;refine zja (zwx ⟨t,⟨zcS t l nonce,[],l⟩,zcS t l nonce,[]⟩ [some 128,some 133] ⟨ht,by show l.length<=4000000000000;omega⟩ asks_two) rfl fn_134 rfl trivial trivial rfl yb5 rfl rfl rfl ?_;refine zj (d:=27) rfl ask_two ?_;refine qaR ?_;refine qaG ?_;refine zl (p:=¬(if 48<=(zcS t l nonce).height then 3 else (zab t.c l).2)=0) rfl yx (fun ht29=>?_) (fun ht29=>?_)
 .
  have hE:zfn t l nonce tries=(if 48<=(zcS t l nonce).height then 3 else (zab t.c l).2):=mineBE_err ht29;refine CQR ?_;refine A0 (zJ rfl ztY bd_59 .nil rfl) ?_;refine qaz ?_;refine qcd ?_;refine qad ?_;exact zi rfl rfl (zm rfl rfl zgu (by unfold zsO;rw[hE,ur ht29])) (zC (za rfl (hE.symm)))
 refine CSQR ?_;refine qci ?_;refine qaz ?_;refine A0 (oCl (mine_ok (zcS t l nonce) tries) rfl fn_231 ye) ?_;refine qaA ?_;refine qaK ?_;refine qfg ?_;refine zl (p:=¬(zik (zcS t l nonce) tries).isSome=true) rfl (by cases (zik (zcS t l nonce) tries).isSome<;>rfl) (fun ht39=>?_) (fun ht39=>?_)
 .
  have hE:zfn t l nonce tries=4:=zur (ua ht29) ht39;refine CQR ?_;refine A0 (zJ rfl ztY bd_59 .nil rfl) ?_;refine qcd ?_;refine qad ?_;exact zi rfl rfl (zm rfl rfl zgu (by unfold zsO;rw[hE];rfl)) (zC (za rfl (hE.symm)))
 have hE:zfn t l nonce tries=0:=mineBE_ok (ua ht29) (ua ht39);refine qfE ?_;refine xc ?_;refine qeg ?_;refine X0 (oLs rfl rfl rfl zfr) ?_;refine X0 (oCl (zu (zn5 t)) rfl fn_190 yd) ?_;refine X0 mV ?_;refine X0 (oCl (zu (txs_ok l hl)) rfl fn_194 yd) ?_;refine X0 (zJ rfl ztY bd_59 (.cons zcV zaU zbZ rfl (.cons zgE zdx zcl rfl (.cons zgD zdw zo4 rfl .nil))) rfl) ?_;refine XK.e (x:=.idk) (fun fr' hfr kk H=>by exact zg rfl rfl rfl ((hfr 8 yc).trans rfl) rfl (Lens.self _) zgu ((hfr 46 yc).trans rfl) (zD H)) ?_;refine X0 aV ?_;refine qe6 ?_;exact zi rfl rfl (zm rfl rfl zgu (by unfold zsO;rw[hE,ut rfl])) (zC (za rfl (hE.symm)))
theorem rleafH_ok (h:Head):Tells P 302 [.val zbk h] (.val zar (zjP h)):=by
 refine zc Tryz.func302 rfl rfl rfl (fun ext w hext=>?_);refine qae ?_;refine qcm ?_;refine CNQ ?_;refine zA [some 1,some 1,some 1,some 1,some 1,none] mixed yc ?_;refine qeg ?_;refine X0 (oCl (zlC h) rfl fn_303 yd) ?_;refine qeg ?_;refine X0 (oCl (zsx h) rfl fn_348 yd) ?_;refine X0 (oCl (rmleaf_ok (zaN h) (zfy h)) rfl fn_347 ye) ?_;refine XK.e (x:=.idk) (fun fr' hfr kk H=>by exact zg rfl rfl rfl ((hfr 2 yc).trans rfl) rfl (Lens.self _) za9 ((hfr 7 yc).trans rfl) (zD H)) ?_;refine qe6 ?_;exact zE rfl rfl rfl rfl za9 (rfl)
theorem zsz (bits:UInt32):Tells P 256 [.val u32T bits] (.tup2 (.val tipT (zaq bits)) (.val zo (zaV bits))):=by
 refine zc Tryz.func256 rfl rfl rfl (fun ext w hext=>?_);refine CQR ?_;refine qgb ?_;refine qaR ?_;refine A0 (oCl (zly bits) rfl fn_297 yd) ?_;refine qcM ?_;refine qfg ?_;refine zl (p:=¬zaV bits=true) rfl (by cases zaV bits<;>rfl) (fun ht13=>?_) (fun ht13=>?_)
 .
  refine CQR ?_;refine xr ?_;refine qaN ?_;refine qad ?_;exact zi rfl rfl (zm rfl rfl zfr (by unfold zaq;rw[ur ht13])) (zC (za rfl (by simpa using ht13)))
 refine CSQR ?_;refine A0 (oCl (zl2 [] yl) rfl fn_298 yb1) ?_;refine A0 (oCl (rtxRoot_ok [] yl) rfl fn_299 yb1) ?_;refine A0 (oCl (zuf [] yl) rfl fn_300 yb1) ?_;refine A0 (g_field rfl rfl zeg zcY zY) ?_;refine qaz ?_;refine A0 (zJ rfl zlj zrI (.cons zey zbc zY rfl (.cons zfW zcF zY rfl (.cons zhw zcZ zY rfl (.cons zdg zaX zbC rfl .nil)))) rfl) ?_;refine qce ?_;refine qaK ?_;refine CNQ ?_;refine xc ?_;refine qeg ?_;refine X0 (zJ rfl ztY bd_59 (.cons zcV zaU zbZ rfl .nil) rfl) ?_;refine qeg ?_;refine X0 (oCl (rleafH_ok (zjv bits)) rfl fn_302 yd) ?_;refine X0 (oCl (zqX [] (zjP (zjv bits)) yl) rfl fn_301 yb3) ?_;refine X0 (zJ rfl znk zrH (.cons zfV zdR zgu rfl (.cons zjV zj4 zqC rfl .nil)) rfl) ?_;refine XK.e (x:=.idk) (fun fr' hfr kk H=>by exact zg rfl rfl rfl ((hfr 2 yc).trans rfl) rfl (Lens.self _) zfr ((hfr 26 yc).trans rfl) (zD H)) ?_;refine X0 aV ?_;refine qe6 ?_;exact zi rfl rfl (zm rfl rfl zfr (by unfold zaq;rw[ut (ua ht13)];rfl)) (zC (za rfl ((ua ht13).symm)))
def s2:Ab.Id:=[219,193,180,201,0,255,228,141,87,91,93,165,198,56,4,1,37,246,93,176,254,62,36,73,75,118,234,152,100,87,217,134]
def s4:Ab.Id:=[229,45,156,80,140,80,35,71,52,77,140,7,173,145,203,214,6,138,252,117,255,98,146,240,98,160,156,163,129,200,158,113]
def id0:Ab.Id:=[204,117,100,156,217,35,11,173,35,93,199,149,159,68,227,45,148,39,20,174,85,27,122,223,187,132,2,33,173,199,16,195]
def lk0:Ab.Id:=[191,122,202,251,39,175,213,3,220,82,240,192,217,1,99,0,242,60,209,156,152,127,176,94,46,148,67,11,109,16,112,47]
def ziy:Head:=⟨0,zId,s2,s2,s4,zaG,545259519,0⟩
def zuM (n:UInt64):Head:=⟨1,id0,lk0,s2,id0,[2,0,0,0],545259519,n⟩
theorem sum_s2:zfj [2]=s2:=yt
theorem sum_s4:zfj [4]=s4:=yt
theorem zqU:zfm []=s2:=by rw[zfm,ut (show([]:List Ab.Id).length=0 from rfl),sum_s2]
theorem zvD (x:Ab.Id):zfm [x]=x:=by rw[zfm,ur (show ¬[x].length=0 by simp),dif_pos (show [x].length<=1 by simp)];rfl
theorem easy_first:zjv 545259519=ziy:=by
  have e1:zc5 []=s2:=zqU;have e2:zpp []=s2:=zqU;have e3:(zfb []).h=s4:=sum_s4;unfold zjv;rw[e1,e2,e3];rfl
theorem zrz:zaN ziy=id0:=yt
theorem easy_work:zfy ziy=[2,0,0,0]:=yt
theorem easy_level:zaa ziy=31:=yt
theorem zry:zaV 545259519=true:=yt
theorem easy_lk:zpQ id0=lk0:=yt
theorem easy_may0:zcf (zuM 0)=false:=yt
theorem zoA:zcf (zuM 1)=true:=yt
def leaf0:Total:=leafT id0 [2,0,0,0]
def zff:Tip:=⟨⟨ziy,[],[]⟩,[leaf0],[]⟩
def zb1:Block:=⟨zuM 1,[id0],[]⟩
def leaf1:Total:=zjP (zuM 1)
def zwF:Tip:=⟨zb1,zb9 [leaf0] leaf1,[]⟩
theorem easy_leaf:zjP ziy=leaf0:=by unfold zjP leaf0;rw[zrz,easy_work]
theorem zrw:zaq 545259519=zff:=by unfold zaq;rw[ut zry,easy_first,easy_leaf];rfl
theorem zlR:zhQ zff=[id0]:=by
  show zd9 [] (zaN ziy) (zaa ziy)=_;rw[zrz];unfold zd9;rw[ur (show ¬32<([]:List Ab.Id).length by decide),ut (show([]:List Ab.Id).length=0 from rfl)]
theorem zoz (n:UInt64):zcS zff [] n=zuM n:=by
  have e1:zc5 [id0]=lk0:=(zvD _).trans easy_lk;have e2:zpp []=s2:=zqU;unfold zcS;rw[zlR,e1,e2];show(⟨_,zaN ziy,_,_,_,_,_,_⟩:Head)=_;rw[zrz];rfl
theorem zti:zik (zuM 0) 200=some (zuM 1):=by
  unfold zik;rw[zkH yl (by rw[easy_may0];decide)];exact zil yl zoA
theorem zoV:zab [] []=([],0):=yt
theorem zp9:zfn zff [] 0 200=0:=by
  unfold zfn;rw[zoz,ur yl,show(zab zff.c []).2=0 from congrArg (·.2) zoV,ur yl,zti];rfl
theorem easy_mineB:zsO zff [] 0 200=zb1:=by
  unfold zsO;rw[zp9,ut rfl,zoz,zti,zlR];rfl
theorem zp8:zeW zff zb1=0:=by
  unfold zeW;have e:zcS zff zb1.t zb1.h.nonce=zb1.h:=zoz 1;rw[e,ur yl,ur yw,ur (by rw[zlR];simp[zb1]),ur yw,ur (by rw[show zcf zb1.h=true from zoA];simp)];exact congrArg (·.2) zoV
theorem easy_pushT:zmv zff zb1=zwF:=by
  unfold zmv;rw[zp8,ut rfl,show(zab zff.c zb1.t).1=[] from congrArg (·.1) zoV];rfl
theorem zt9:zkj zb1:=by refine⟨by decide,by decide,fun t ht=>by cases ht⟩
theorem eq_u32 {x y:UInt32}:decide (IntL.toI u32T x=IntL.toI u32T y)=decide (x=y):=by rw[uo];show((x.toNat:Nat):Int)=((y.toNat:Nat):Int)↔_;rw[Int.ofNat_inj,UInt32.toNat_inj]
theorem zsD:∀(r:List Total) (x:Total),(zmw r x).length<=r.length+1
  | [],_=>ug _
  | y::r,x=>by
    rw[zmw]
    split
    . have:=zsD r (zkL y x);rw[length_cons];omega
    rw[length_cons];omega
theorem zrb {p:List Total} {x:Total}:(zb9 p x).length<=p.length+1:=by
  unfold zb9
  have:=zsD p.reverse x
  rw[List.length_reverse] at this ⊢;exact this
theorem apply_may {p:List Coin} {l:List Tx} (h:(zab p l).2=0):zaW p=true:=by
  refine Classical.byContradiction fun hn=>?_
  unfold zab at h;rw[ut hn] at h;exact absurd h (show ¬(1:Int)=0 by decide)
theorem push_iff {t:Tip} {b:Block}:zeW t b=0↔b.h.height<48/\b.h=zcS t b.t b.h.nonce/\b.l=zhQ t/\zcf b.h=true/\(zab t.c b.t).2=0:=by
  constructor
  . intro h
    unfold zeW at h;by_cases h1:48<=b.h.height
    . rw[ut h1] at h;exact absurd h yl
    rw[ur h1] at h;by_cases h2:¬zfh b.h=zfh (zcS t b.t b.h.nonce)
    . rw[ut h2] at h;exact absurd h yl
    rw[ur h2] at h;by_cases h3:¬b.h.links=(zcS t b.t b.h.nonce).links\/¬b.l=zhQ t
    . rw[ut h3] at h;exact absurd h yl
    rw[ur h3] at h;by_cases h4:¬b.h=zcS t b.t b.h.nonce
    . rw[ut h4] at h;exact absurd h yl
    rw[ur h4] at h;by_cases h5:¬zcf b.h=true
    . rw[ut h5] at h;exact absurd h yl
    rw[ur h5] at h;exact⟨by omega,ua h4,ua fun hc=>h3 (.inr hc),ua h5,h⟩
  rintro ⟨h1,h2,h3,h4,h5⟩
  unfold zeW;rw[ur ya,ur (Classical.not_not.2 (congrArg zfh h2)),ur (fun h=>h.elim (fun h=>h (congrArg (·.links) h2)) fun h=>h h3),ur (Classical.not_not.2 h2),ur (Classical.not_not.2 h4)];exact h5
theorem zuA {a:UInt32} (h:zaV a=true):zaq a=⟨⟨zjv a,[],[]⟩,[zjP (zjv a)],[]⟩:=by unfold zaq;rw[ut h];rfl
theorem pushT_eq {t:Tip} {b:Block} (h:zeW t b=0):zmv t b=⟨b,zb9 t.p (zjP b.h),(zab t.c b.t).1⟩:=by unfold zmv;rw[ut h]
def zaT:Tip->List Block->Tip×Int
  | t,[]=>(t,0)
  | t,b::l=>if zeW t b=0 then zaT (zmv t b) l else (zTip,zeW t b)
def zav (l:List Block):Tip×Int :=
  match l with
  | []=>(zTip,9)
  | g::r=>if zaV g.h.bits=true/\(zaq g.h.bits).b=g then zaT (zaq g.h.bits) r else (zTip,12)
def zph (l:List Block) (t:List Tx) (nonce:UInt64):Int:=if (zav l).2=0 then zfn (zav l).1 t nonce 200 else (zav l).2
def zkQ (l:List Block) (t:List Tx) (nonce:UInt64):List Block:=if zph l t nonce=0 then l++[zsO (zav l).1 t nonce 200] else l
def zcj (l:List Block):List Int:=l.map fun b=>zaa b.h
def zl0 (l:List Block):Prop:=l.length*232<=140737488351232/\∀b∈l,zkj b
theorem zk7:∀{l m:List Block} {t:Tip},zaT t (l++m)=if (zaT t l).2=0 then zaT (zaT t l).1 m else zaT t l
  | [],m,t=>by simp[zaT]
  | b::l,m,t=>by
    rw[List.cons_append,zaT,zaT];by_cases h:zeW t b=0
    . rw[ut h,ut h];exact zk7
    rw[ur h,ur h,ur h]
theorem zuR {l m:List Block} (h:¬l=[]):zav (l++m)=if (zav l).2=0 then zaT (zav l).1 m else zav l:=by
  cases l with
  | nil=>exact absurd rfl h
  | cons g r =>
    rw[List.cons_append];unfold zav;simp only[];by_cases h:zaV g.h.bits=true/\(zaq g.h.bits).b=g
    . rw[ut h,ut h];exact zk7
    rw[ur h,ur h];rfl
theorem chain_ne {l:List Block} (h:(zav l).2=0):¬l=[]:=fun e=>by rw[e] at h;exact absurd h yl
theorem ztx {l:List Block} {b:Block} (h:(zav l).2=0):zav (l++[b])=if zeW (zav l).1 b=0 then (zmv (zav l).1 b,0) else (zTip,zeW (zav l).1 b):=by
  rw[zuR (chain_ne h),ut h];rfl
theorem zh6 {t:Tip} (h1:t.b.l=[]) (h2:t.b.t=[]) (h3:Nat.ble t.p.length 1=true) (h4:t.c=[]):zgc t:=by
  have:=Nat.le_of_ble_eq_true h3
  refine⟨⟨by rw[h1];decide,by rw[h2];decide,fun x hx=>by rw[h2] at hx;cases hx⟩,by omega,by rw[h4];decide⟩
def zsi (t:Tip) (n:Nat):Prop:=zgc t/\t.p.length<=n+1/\t.b.h.height=n
theorem znT {t:Tip} {b:Block} {n:Nat} (ht:zsi t n) (hn:n<=1000000000000) (hb:zkj b) (h:zeW t b=0):zsi (zmv t b) (n+1):=by
  obtain⟨h6,h7,_,_,h5⟩:=push_iff.1 h;rw[pushT_eq h];have h1:=zrb (p:=t.p) (x:=zjP b.h);have h2:=zeZ (zu3 (l:=b.t) (apply_may h5)).1;obtain⟨_,h3,h4⟩:=ht;have e:b.h.height=IntKind.i64.wrap (t.b.h.height+1):=congrArg (·.height) h7;rw[h4,z8 ya] at e;refine⟨⟨hb,?_,?_⟩,?_,?_⟩
  . show(zb9 t.p (zjP b.h)).length<=1000
    omega
  . show(zab t.c b.t).1.length<=1000
    omega
  . show(zb9 t.p (zjP b.h)).length<=n+1+1
    omega
  show b.h.height=_;rw[e];omega
theorem zou {bits:UInt32}:zsi (zaq bits) 0:=by
  by_cases h:zaV bits=true
  . rw[zuA h];exact⟨zh6 rfl rfl rfl rfl,Nat.le_of_ble_eq_true rfl,rfl⟩
  have:zaq bits=zTip:=by unfold zaq;rw[ur h]
  rw[this];exact⟨zh6 rfl rfl rfl rfl,Nat.le_of_ble_eq_true rfl,rfl⟩
theorem ziE:∀{l:List Block} {t:Tip} {n:Nat},zsi t n->n+l.length<=1000000000000->(∀b∈l,zkj b)->zgc (zaT t l).1
  | [],t,n,ht,_,_=>ht.1
  | b::l,t,n,ht,hn,hl=>by
    rw[zaT];rw[length_cons] at hn
    split
    . rename_i h
      exact ziE (znT ht ya (hl b yw) h) ya fun x hx=>hl x (by simp[hx])
    exact zh6 rfl rfl rfl rfl
theorem zuP {l:List Block} (h:zl0 l):zgc (zav l).1:=by
  cases l with
  | nil=>exact zh6 rfl rfl rfl rfl
  | cons g r =>
    unfold zav;simp only[]
    split
    . refine ziE zou ?_ fun x hx=>h.2 x (by simp[hx])
      have:=h.1
      rw[length_cons] at this;omega
    exact zh6 rfl rfl rfl rfl
def zdr:Block:=⟨ziy,[],[]⟩
theorem zhG:zav [zdr]=(zff,0):=by
  unfold zav;simp only[];have e:zaq zdr.h.bits=zff:=zrw;rw[e,ut ⟨zry,rfl⟩];rfl
theorem easy_growE:zph [zdr] [] 0=0:=by
  unfold zph;rw[zhG,ut rfl];exact zp9
theorem easy_grown:zkQ [zdr] [] 0=[zdr,zb1]:=by
  unfold zkQ;rw[easy_growE,ut rfl,zhG,easy_mineB];rfl
theorem zuL:zav [zdr,zb1]=(zwF,0):=by
  rw[show [zdr,zb1]=[zdr]++[zb1] from rfl,ztx (by rw[zhG]),zhG,zp8,ut rfl,easy_pushT]
theorem zuK:decide (0<=zaa zb1.h)=true:=yt
theorem zlZ:zkj zdr:=by refine⟨by decide,by decide,fun t ht=>by cases ht⟩
theorem zsh:zl0 [zdr]:=⟨by decide,fun b hb=>by rw[List.mem_singleton.1 hb];exact zlZ⟩
theorem zt8:zl0 [zdr,zb1]:=⟨by decide,fun b hb=>by
  rcases List.mem_cons.1 hb with h|h
  . rw[h];exact zlZ
  rw[List.mem_singleton.1 h];exact zt9⟩
end Go.Proofs.YtikaeepohlkjdaaGreat
