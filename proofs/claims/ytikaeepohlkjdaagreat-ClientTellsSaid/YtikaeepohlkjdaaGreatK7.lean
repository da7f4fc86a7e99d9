/- Parts of the proof: the layer that reads Go values as data, and what the functions of the program tell. -/
import Derived.Test.YtikaeepohlkjdaaGreatK6
open List (all_cons all_eq_true append_inj append_nil drop_drop drop_left' ext_getElem? flatten_cons foldl_append length_cons length_drop length_map length_set map_append map_congr_left map_cons map_id map_map mem_append mem_cons mem_cons_self mem_filter mem_map mem_range sum_cons take_left')
open UInt64 (toNat_inj)
set_option linter.unusedVariables false
set_option linter.unusedSimpArgs false
set_option maxRecDepth 20000
namespace Go.Proofs.YtikaeepohlkjdaaGreat
open Go.Ab Go.RowKit
theorem zrF {l:List Block} {g:Block} (h:l[0]?=some g) (h1:zaV g.h.bits=true) (h2:(zaq g.h.bits).b=g):zav l=zaT (zaq g.h.bits) (l.drop 1):=by
  cases l with
  | nil=>cases h
  | cons x r =>
    injection h with h;subst h;unfold zav;simp only[];rw[ut ⟨h1,h2⟩];rfl
theorem zfz {l:List Block} {g:Block} (h:l[0]?=some g) (h1:¬(zaV g.h.bits=true/\(zaq g.h.bits).b=g)):zav l=(zTip,12):=by
  cases l with
  | nil=>cases h
  | cons x r =>
    injection h with h;subst h;unfold zav;simp only[];rw[ur h1]
theorem check_step {r:List Block} {k:Nat} {b:Block} {t:Tip} (hb:r[k]?=some b) (h:zeW t b=0):zaT t (r.drop k)=zaT (zmv t b) (r.drop (k+1)):=by
  obtain⟨hk,rfl⟩:=ul.1 hb;rw[List.drop_eq_getElem_cons hk,zaT,ut h]
theorem zqh {r:List Block} {k:Nat} {b:Block} {t:Tip} (hb:r[k]?=some b) (h:¬zeW t b=0):zaT t (r.drop k)=(zTip,zeW t b):=by
  obtain⟨hk,rfl⟩:=ul.1 hb;rw[List.drop_eq_getElem_cons hk,zaT,ur h]
theorem ztw {r:List Block} {k:Nat} {t:Tip} (h:r.length<=k):zaT t (r.drop k)=(t,0):=by
  rw[List.drop_of_length_le h];rfl
theorem zoK {l:List Block} (h:l.length=0):zav l=(zTip,9):=by rw[List.eq_nil_of_length_eq_zero h];rfl
def newOf (bits:UInt32):List Block:=if zaV bits=true then [(zaq bits).b] else []
theorem zq1 (t:Tx) (ht:zlu t):Tells P 228 [.val txT t] (.val txT t):=by
 refine zc Tryz.func228 rfl rfl rfl (fun ext w hext=>?_);refine qae ?_;refine zN zrV rfl rfl rfl rfl ?_;refine CNQ ?_;refine zA [some 1,some 1,some 1,some 1,some 1,some 1,some 1,none] mixed yc ?_;refine X0 (oFp zdA) ?_;refine X0 (oLb zdE zmr) ?_;refine X0 (oCl (zu (cloneIn t.ins (by unfold zlu at ht;constructor<;>omega))) rfl fn_229 yd) ?_;refine X0 (oFp zi0) ?_;refine X0 (oLb zhc ty_99) ?_;refine X0 (oCl (zu (zwH t.outs (by unfold zlu at ht;constructor<;>omega))) rfl fn_230 yd) ?_;refine X0 (zJ rfl zrV bd_101 (.cons zdA zdE zmr rfl (.cons zi0 zhc ty_99 rfl .nil)) rfl) ?_;refine XK.e (x:=.idk) (fun fr' hfr kk H=>by exact zg rfl rfl rfl ((hfr 2 yc).trans rfl) rfl (Lens.self _) zjm ((hfr 9 yc).trans rfl) (zD H)) ?_;refine qe6 ?_;exact zE rfl rfl rfl rfl zjm (rfl)
theorem toldTx_ok (l:List Tx) (hl:zsj l):Tells P 227 [.val (bsl txT) l,.clo 228 []] (.fresh 101 txT l):=by
 have hll:=hl.1;refine zc Tryz.func227 rfl rfl rfl (fun ext w hext=>?_);refine ze (d:=0) rfl zk (fun hsl0=>?_);refine qeR ?_;refine qbD ?_;refine qdH ?_;refine qaF ?_;refine za7 (T:=txT) (d:=5) 101 rfl ?_;refine Lp (ι:=Nat) 1 (fun (k:Nat)=>((((((Fr.none).set 0 (.val (bsl txT) l)).set 1 (.clo 228 [])).set 5 (.own 0)).set 8 (.val (bsl txT) l)).set 9 (.val i64T (l.length:Int))).set 10 (.val i64T (k:Int))) (fun (k:Nat)=>(Hp.none).set 0 (.row 101 txT (l.take k))) (fun (k:Nat)=>k<=l.length) (fun (k:Nat)=>l.length-k) (0) (uf _) ?_;intro k hinv;refine qap ?_;refine Cf (p:=k<l.length) (fun ht11=>?_) (fun ht11=>?_)
 .
  obtain⟨x,hx⟩:∃x,l[k]?=some x:=ybv;have hxm:=ud hx;refine qeh ?_;refine qbz ?_;refine qdb ?_;refine qdA ?_;refine A0 mC ?_;refine qcD ?_;refine A0 (zfd (As:=[_]) (Cs:=[]) (zq1 x (hl.2 x hxm)) rfl rfl fn_228 yd yC trivial rfl) ?_;refine A0 (zW (T:=txT) (xs:=[_]) rfl zsk zvB yA rfl rfl) ?_;refine zp rfl rfl rfl rfl rfl rfl rfl zvB yB ?_;refine qem ?_;refine zco 2 0 3 rfl rfl rfl rfl rfl rfl ?_;refine zq (n:=0) (y:=l.take (k+1)) rfl (by rw[un,hx];rfl) ?_;exact Nx (k+1) ya ya
 refine qa8 ?_;exact zb rfl rfl (zf rfl rfl yO)
theorem zuo (b:Block) (hb:zkj b):Tells P 226 [.val zaz b] (.val zaz b):=by
 have hb1:=hb.1;refine zc Tryz.func226 rfl rfl rfl (fun ext w hext=>?_);refine qae ?_;refine qey ?_;refine CNQR ?_;refine A0 (oFp zgE) ?_;refine A0 (oLb zdx zcl) ?_;refine A0 (oCl (zu (ziB b.l yV)) rfl zs9 yd) ?_;refine A0 (oFp zgE) ?_;refine zg rfl rfl rfl rfl rfl zdx zcl rfl ?_;refine CNQR ?_;refine A0 (oFp zgD) ?_;refine A0 (oLb zdw zo4) ?_;refine A0 (oCl (zu (toldTx_ok b.t hb.2)) rfl fn_227 ⟨yk,(by first|exact zdO (Cs:=[]) rfl fn_228 yC trivial rfl (fun x=>zq1 _ yj)|exact zdN (Cs:=[]) rfl fn_228 yC trivial rfl (fun x y=>zq1 _ yj)|exact zdP rfl),trivial⟩) ?_;refine A0 (oFp zgD) ?_;refine zg rfl rfl rfl rfl rfl zdw zo4 rfl ?_;refine CNQR ?_;refine qfO ?_;refine qcd ?_;refine CN ?_;exact zE rfl rfl rfl rfl zgu (rfl)
theorem zr6 (l:List Block) (hl:zl0 l):Tells P 225 [.val (bsl zaz) l,.clo 226 []] (.fresh 59 zaz l):=by
 have hll:=hl.1;refine zc Tryz.func225 rfl rfl rfl (fun ext w hext=>?_);refine ze (d:=0) rfl zk (fun hsl0=>?_);refine qeR ?_;refine qbD ?_;refine A0 (zaC rfl rfl zpT) ?_;refine qaF ?_;refine za7 (T:=zaz) (d:=5) 59 rfl ?_;refine Lp (ι:=Nat) 1 (fun (k:Nat)=>((((((Fr.none).set 0 (.val (bsl zaz) l)).set 1 (.clo 226 [])).set 5 (.own 0)).set 8 (.val (bsl zaz) l)).set 9 (.val i64T (l.length:Int))).set 10 (.val i64T (k:Int))) (fun (k:Nat)=>(Hp.none).set 0 (.row 59 zaz (l.take k))) (fun (k:Nat)=>k<=l.length) (fun (k:Nat)=>l.length-k) (0) (uf _) ?_;intro k hinv;refine qap ?_;refine Cf (p:=k<l.length) (fun ht11=>?_) (fun ht11=>?_)
 .
  obtain⟨x,hx⟩:∃x,l[k]?=some x:=ybv;have hxm:=ud hx;refine qeh ?_;refine A0 (zct rfl rfl rfl zqG yj) ?_;refine qgh ?_;refine qdA ?_;refine A0 mC ?_;refine qfO ?_;refine A0 (zfd (As:=[_]) (Cs:=[]) (zuo x (hl.2 x hxm)) rfl rfl fn_226 yd yC trivial rfl) ?_;refine qe4 ?_;refine zp rfl rfl rfl rfl rfl rfl rfl row_46 yB ?_;refine qem ?_;refine zco 2 0 3 rfl rfl rfl rfl rfl rfl ?_;refine zq (n:=0) (y:=l.take (k+1)) rfl (by rw[un,hx];rfl) ?_;exact Nx (k+1) ya ya
 refine qa8 ?_;exact zb rfl rfl (zf rfl rfl yO)
theorem ownC_ok (l:List Block) (hl:zl0 l):Tells P 170 [.val (bsl zaz) l] (.fresh 59 zaz l):=by
 refine zc Tryz.func170 rfl rfl rfl (fun ext w hext=>?_);refine ze (d:=0) rfl zk (fun hsl0=>?_);refine qbQ ?_;refine qaz ?_;refine zao (zr6 l hl) rfl fn_225 ⟨yk,(by first|exact zdO (Cs:=[]) rfl fn_226 yC trivial rfl (fun x=>zuo _ yj)|exact zdN (Cs:=[]) rfl fn_226 yC trivial rfl (fun x y=>zuo _ yj)|exact zdP rfl),trivial⟩ rfl rfl rfl ?_;refine qbG ?_;exact zb rfl rfl (zf rfl rfl rfl)
theorem zsR (b:Block):Tells P 206 [.val zaz b] (.val i64T (zaa b.h)):=by
 refine zc Tryz.func206 rfl rfl rfl (fun ext w hext=>?_);refine qe9 ?_;refine A0 (oFp zcV) ?_;refine A0 (oLb zaU zbZ) ?_;refine A0 (oCl (zgk _) rfl zwr yd) ?_;refine qad ?_;exact zb rfl rfl yE
theorem toldInt_ok (l:List Block) (f:Block->Int) (hl:l.length<=1000000000000):Tells P 205 [.val (bsl zaz) l,.fn1 P zaz i64T f] (.fresh 3 i64T (l.map f)):=by
 refine zc Tryz.func205 rfl rfl rfl (fun ext w hext=>?_);refine ze (d:=0) rfl zk (fun hsl0=>?_);refine qeR ?_;refine qbD ?_;refine A0 (zaC rfl rfl zpT) ?_;refine qaF ?_;refine za7 (T:=i64T) (d:=5) 3 rfl ?_;refine Lp (ι:=Nat) 1 (fun (k:Nat)=>((((((Fr.none).set 0 (.val (bsl zaz) l)).set 1 (.fn1 P zaz i64T f)).set 5 (.own 0)).set 8 (.val (bsl zaz) l)).set 9 (.val i64T (l.length:Int))).set 10 (.val i64T (k:Int))) (fun (k:Nat)=>(Hp.none).set 0 (.row 3 i64T ((l.take k).map f))) (fun (k:Nat)=>k<=l.length) (fun (k:Nat)=>l.length-k) (0) (uf _) ?_;intro k hinv;refine qap ?_;refine Cf (p:=k<l.length) (fun ht11=>?_) (fun ht11=>?_)
 .
  obtain⟨x,hx⟩:∃x,l[k]?=some x:=ybv;have hxm:=ud hx;refine qeh ?_;refine A0 (zct rfl rfl rfl zqG yj) ?_;refine qgh ?_;refine qdA ?_;refine A0 mF ?_;refine qfO ?_;refine A0 (zkV rfl rfl yk) ?_;refine qcH ?_;refine qem ?_;refine zco 2 0 3 rfl rfl rfl rfl rfl rfl ?_;refine zq (n:=0) (y:=(l.take (k+1)).map f) rfl (by rw[un,hx];simp) ?_;exact Nx (k+1) ya ya
 refine qa8 ?_;exact zb rfl rfl (zf rfl rfl yO)
theorem levels_ok (l:List Block) (hl:l.length<=1000000000000):Tells P 160 [.val (bsl zaz) l] (.fresh 3 i64T (zcj l)):=by
 refine zc Tryz.func160 rfl rfl rfl (fun ext w hext=>?_);refine ze (d:=0) rfl zk (fun hsl0=>?_);refine qbQ ?_;refine qaz ?_;refine zao (toldInt_ok l (fun b=>zaa b.h) hl) rfl fn_205 ⟨yk,(by first|exact zdO (Cs:=[]) rfl fn_206 yC trivial rfl (fun x=>zsR x)|exact zdN (Cs:=[]) rfl fn_206 yC trivial rfl (fun x y=>zsR x)|exact zdP rfl),trivial⟩ rfl rfl rfl ?_;refine qbG ?_;exact zb rfl rfl (zf rfl rfl rfl)
theorem zwJ (l:List Block) (hl:zl0 l):Tells P 21 [.val (bsl zaz) l] (.tup2 (.val tipT (zav l).1) (.val i64T (zav l).2)):=by
 have hll:=hl.1;refine zc Tryz.func21 rfl rfl rfl (fun ext w hext=>?_);refine ze (d:=0) rfl zk (fun hsl0=>?_);refine CQR ?_;refine qgb ?_;refine qad ?_;refine zwO (ι:=Block) 2 0 rfl rfl rfl (fun (g:Block)=>((((Fr.none).set 0 (.val (bsl zaz) l)).set 2 (.ptr 0 0)).set 4 (.ptr 1 0)).set 6 (.val i64T 0)) (fun (g:Block)=>((Hp.none).set 0 (.box 63 tipT zTip)).set 1 (.box 63 tipT (zaq g.h.bits))) (fun (g:Block)=>l[0]?=some g/\zaV g.h.bits=true/\(zaq g.h.bits).b=g) (fun (g:Block)=>0) ?_ (fun hreach=>?_)
 .
  intro g hinv;have hl1:=(ul.1 hinv.1).1;refine qbd ?_;refine A0 (zjt rfl rfl rfl zqG yh) ?_;refine A0 (zaC rfl rfl zpT) ?_;refine qaF ?_;refine Lp (ι:=Nat×Tip) 2 (fun(k,t)=>((((((Fr.none.set 0 (.val (bsl zaz) l)).set 2 (.ptr 0 0)).set 4 (.ptr 1 0)).set 6 (.val i64T 0)).set 35 (.val (bsl zaz) (l.drop 1))).set 36 (.val i64T ((l.drop 1).length:Int))).set 37 (.val i64T (k:Int))) (fun(k,t)=>(Hp.none.set 0 (.box 63 tipT zTip)).set 1 (.box 63 tipT t)) (fun(k,t)=>k<=(l.drop 1).length/\zsi t k/\zav l=zaT t ((l.drop 1).drop k)) (fun(k,t)=>(l.drop 1).length-k) ((0,zaq g.h.bits)) (⟨uf _,zou,zrF hinv.1 hinv.2.1 hinv.2.2⟩) ?_;intro⟨k,t⟩ hin;dsimp only at hin;refine qap ?_;refine Cf (p:=k<(l.drop 1).length) (fun ht38=>?_) (fun ht38=>?_)
  .
   have hk38:k<l.length:=by rw[length_drop] at ht38;omega
   obtain⟨b,hb⟩:∃b,(l.drop 1)[k]?=some b:=⟨_,ub ht38⟩;have hbm:=hl.2 b (List.mem_of_mem_drop (ud hb));refine qeh ?_;refine A0 (zx (i:=k) rfl rfl rfl ya zqG yj) ?_;refine qgh ?_;refine CNQR ?_;refine qfo ?_;refine qfO ?_;refine A0 (oCl (push_ok t b hin.2.1.1 hbm) rfl fn_68 ye) ?_;refine qaA ?_;refine qaN ?_;refine qaR ?_;refine qaG ?_;refine zl (p:=¬zeW t b=0) rfl yx (fun ht48=>?_) (fun ht48=>?_)
   .
    refine CE ?_;refine qbd ?_;refine qaG ?_;refine zf6 rfl (by simpa [IntL.toI] using ht48) ?_;refine CQR ?_;refine xr ?_;refine qaz ?_;refine qaN ?_;refine qad ?_;exact zi rfl rfl (zm rfl rfl zfr (by rw[hin.2.2,zqh hb ht48])) (zC (za rfl (by rw[hin.2.2,zqh hb ht48])))
   refine qbt ?_;refine zj (d:=6) (y:=(0:Int)) rfl (ua ht48) ?_;exact Nx ((k+1,zmv t b)) (⟨by omega,znT hin.2.1 (by rw[length_drop] at ht38;omega) hbm (ua ht48),hin.2.2.trans (check_step hb (ua ht48))⟩) (by show(l.drop 1).length-(k+1)<(l.drop 1).length-k;omega)
  refine CE ?_;refine qbd ?_;refine qaG ?_;refine Cg ?_;refine CSQR ?_;refine qfo ?_;refine qaN ?_;refine qad ?_;exact zi rfl rfl (zm rfl rfl zfr (by rw[hin.2.2,ztw ya])) (zC (za rfl (by rw[hin.2.2,ztw ya])))
 refine qbd ?_;refine A0 (zaC rfl rfl zpT) ?_;refine qdh ?_;refine Cf (p:=l.length=0) (fun ht11=>?_) (fun ht11=>?_)
 .
  refine CQR ?_;refine xr ?_;refine qaN ?_;refine qad ?_;exact zi rfl rfl (zm rfl rfl zfr (by rw[zoK ht11])) (zC (za rfl (by rw[zoK ht11])))
 obtain⟨g,hg⟩:∃g,l[0]?=some g:=yr;refine qbY ?_;refine A0 (zx (i:=0) rfl rfl rfl ya zqG yj) ?_;refine A0 (oFr zcV zaU) ?_;refine qdZ ?_;refine A0 (oCl (zjT g.h.bits) rfl fn_52 yb1) ?_;refine qfG ?_;refine zaj (d:=24) (p:=¬zaV g.h.bits=true) rfl (by cases zaV g.h.bits<;>rfl) (fun g24=>?_) (fun g24=>?_)
 .
  refine qdN ?_;refine qaY ?_;refine Ct ?_;refine CQR ?_;refine xr ?_;refine qaN ?_;refine qad ?_;exact zi rfl rfl (zm rfl rfl zfr (by rw[zfz hg fun h=>g24 h.1])) (zC (za rfl (by rw[zfz hg fun h=>g24 h.1])))
 refine G1 (oFp zfV) ?_;refine G1 (oLb zdR zgu) ?_;refine G1 mV ?_;refine G1 (zx (i:=0) rfl rfl rfl ya zqG yj) ?_;refine G1 (zh rfl rfl zgu) ?_;refine G1 (oCl (sameB_ok _ _) rfl fn_67 ⟨yk,yb,trivial⟩) ?_;refine G1 oN ?_;refine qaY ?_;refine zl (p:=¬(zaq g.h.bits).b=g) rfl yw (fun ht32=>?_) (fun ht32=>?_)
 .
  refine CQR ?_;refine xr ?_;refine qaN ?_;refine qad ?_;exact zi rfl rfl (zm rfl rfl zfr (by rw[zfz hg fun h=>ht32 h.2])) (zC (za rfl (by rw[zfz hg fun h=>ht32 h.2])))
 refine CSQR ?_;refine qaL ?_;exact zwQ hreach (g) rfl (⟨hg,ua g24,ua ht32⟩) rfl (by (repeat refine Fr.le_set ?_ yaM);exact Fr.le_none _) (by (repeat refine Hp.le_set ?_ rfl);exact Hp.le_none _) (by (repeat refine Fr.below_setB ?_ rfl);exact Fr.below_none _) (by (repeat refine Hp.below_set ?_ yl);exact Hp.below_none _)
theorem newC_ok (bits:UInt32):Tells P 104 [.val u32T bits] (.tup2 (.val (sl zaz) (newOf bits)) (.val zo (zaV bits))):=by
 refine zc Tryz.func104 rfl rfl rfl (fun ext w hext=>?_);refine qau ?_;refine qaR ?_;refine A0 (oCl (zjT bits) rfl fn_52 yd) ?_;refine qcP ?_;refine qfg ?_;refine zl (p:=¬zaV bits=true) rfl (by cases zaV bits<;>rfl) (fun ht12=>?_) (fun ht12=>?_)
 .
  refine qbE ?_;exact zG rfl rfl (by unfold newOf;rw[ur ht12];exact zdH rfl) (za rfl (by simpa using ht12))
 refine CSQR ?_;refine A0 (oFp zfV) ?_;refine A0 (oLb zdR zgu) ?_;refine qe4 ?_;refine qb2 ?_;exact zG rfl rfl (za rfl (by unfold newOf;rw[ut (ua ht12)])) (za rfl (ua ht12).symm)
theorem growC_ok (l:List Block) (t:List Tx) (nonce:UInt64) (hl:zl0 l) (ht:zsj t):Tells P 105 [.val (bsl zaz) l,.val (sl txT) t,.val u64T nonce] (.tup2 (.fresh 59 zaz (zkQ l t nonce)) (.val i64T (zph l t nonce))):=by
 have hll:=hl.1;refine zc Tryz.func105 rfl rfl rfl (fun ext w hext=>?_);refine ze (d:=0) rfl zk (fun hsl0=>?_);refine ze (d:=1) rfl zk (fun hsl1=>?_);refine qau ?_;refine qaR ?_;refine zao (ownC_ok l hl) rfl fn_170 yd rfl rfl rfl ?_;refine A0 aO ?_;refine qd5 ?_;refine A0 (oCl (zwJ l hl) rfl fn_21 yd) ?_;refine qcP ?_;refine qag ?_;refine qaG ?_;refine zl (p:=¬(zav l).2=0) rfl yx (fun ht20=>?_) (fun ht20=>?_)
 .
  have hE:zph l t nonce=(zav l).2:=by unfold zph;rw[ur ht20]
  have hG:zkQ l t nonce=l:=by unfold zkQ;rw[hE,ur ht20]
  refine qdP ?_;refine qaz ?_;refine qcl ?_;exact zG rfl rfl (zf rfl rfl (by rw[hG])) (za rfl hE.symm)
 refine CSQR ?_;refine qfo ?_;refine qal ?_;refine A0 (oCl (mineB_ok (zav l).1 t nonce 200 (zuP hl) ht) rfl fn_171 ⟨yk,yk,yk,yk,trivial⟩) ?_;refine qaA ?_;refine qey ?_;refine qcd ?_;refine qag ?_;refine qaG ?_;refine zl (p:=¬zfn (zav l).1 t nonce 200=0) rfl yx (fun ht31=>?_) (fun ht31=>?_)
 .
  have hE:zph l t nonce=zfn (zav l).1 t nonce 200:=by unfold zph;rw[ut (ua ht20)]
  have hG:zkQ l t nonce=l:=by unfold zkQ;rw[hE,ur ht31]
  refine qdP ?_;refine qaz ?_;refine qcl ?_;exact zG rfl rfl (zf rfl rfl (by rw[hG])) (za rfl hE.symm)
 have hE:zph l t nonce=0:=by unfold zph;rw[ut (ua ht20)];exact ua ht31
 have hG:zkQ l t nonce=l++[zsO (zav l).1 t nonce 200]:=by unfold zkQ;rw[ut hE]
 refine qee ?_;refine qfO ?_;refine qe4 ?_;refine zp rfl rfl rfl rfl rfl rfl rfl row_46 yB ?_;refine qcl ?_;exact zG rfl rfl (zf rfl rfl (by rw[hG])) (za rfl hE.symm)
set_option maxRecDepth 20000
theorem refInts_ok (l m:List Int):Tells P 32 [.val (bsl i64T) l,.val (bsl i64T) m] (.val zo (decide (l=m))):=by
 refine zc Tryz.func32 rfl rfl rfl (fun ext w hext=>?_);refine ze (d:=0) rfl zk (fun hsl0=>?_);refine ze (d:=1) rfl zk (fun hsl1=>?_);refine qcK ?_;refine qbw ?_;refine qaz ?_;refine qbw ?_;refine qaG ?_;refine zl (p:=¬l.length=m.length) rfl yag (fun ht10=>?_) (fun ht10=>?_)
 .
  refine qar ?_;exact zb rfl rfl (za rfl (uh (fun e=>ht10 ybI)).symm)
 refine CSQQR ?_;refine qco ?_;refine Lp (ι:=Nat) 0 (fun (k:Nat)=>(((Fr.none).set 0 (.val (bsl i64T) l)).set 1 (.val (bsl i64T) m)).set 5 (.val i64T (k:Int))) (fun (k:Nat)=>Hp.none) (fun (k:Nat)=>k<=l.length/\l.take k=m.take k) (fun (k:Nat)=>l.length-k) (0) (⟨uf _,rfl⟩) ?_;intro k hinv;refine qb6 ?_;refine qbw ?_;refine qa7 ?_;refine Cf (p:=k<l.length) (fun ht14=>?_) (fun ht14=>?_)
 .
  obtain⟨x,hx⟩:∃x,l[k]?=some x:=⟨_,ub ht14⟩;obtain⟨y,hy⟩:∃y,m[k]?=some y:=yr;refine qff ?_;refine qbl ?_;refine G0 (zx (i:=k) rfl rfl rfl ya zdG yj) ?_;refine qfp ?_;refine qbl ?_;refine G0 (zx (i:=k) rfl rfl rfl ya zdG yj) ?_;refine qfp ?_;refine G0 zd1 ?_;refine GK.nil ?_;refine zl (p:=¬x=y) rfl yx (fun ht25=>?_) (fun ht25=>?_)
  .
   refine qar ?_;exact zb rfl rfl (za rfl (uh (zd8 hx hy ht25)).symm)
  refine qcG ?_;exact Nx (k+1) (⟨by omega,zbN hx hy hinv.2 (ua ht25)⟩) ya
 refine qcs ?_;exact zb rfl rfl (za rfl (ui yI).symm)
def sortI_ren:Go.Shelf.Ren:=⟨fun|189=>217|125=>169|257=>268|128=>223|129=>224|294=>314|295=>315|296=>316|297=>317|298=>318|299=>319|216=>162|300=>320|301=>321|328=>354|329=>355|330=>356|331=>357|332=>358|215=>212|343=>380|n=>n,fun|28=>24|3=>3|46=>234|0=>0|51=>53|53=>50|4=>4|183=>384|182=>383|131=>167|5=>5|9=>9|218=>403|222=>407|228=>418|229=>126|n=>n,fun|n=>n⟩
theorem sortI:Go.Proofs.Lays.n189 P sortI_ren:={
  mixed:=by kernel_rfl,
  f125:=Tryz.func169.trans (congrArg some yt),
  f128:=Tryz.func223.trans (congrArg some yt),
  f129:=Tryz.func224.trans (congrArg some yt),
  f189:=Tryz.func217.trans (congrArg some yt),
  f215:=Tryz.func212.trans (congrArg some yt),
  f216:=Tryz.func162.trans (congrArg some yt),
  f257:=Tryz.func268.trans (congrArg some yt),
  f294:=Tryz.func314.trans (congrArg some yt),
  f295:=Tryz.func315.trans (congrArg some yt),
  f296:=Tryz.func316.trans (congrArg some yt),
  f297:=Tryz.func317.trans (congrArg some yt),
  f298:=Tryz.func318.trans (congrArg some yt),
  f299:=Tryz.func319.trans (congrArg some yt),
  f300:=Tryz.func320.trans (congrArg some yt),
  f301:=Tryz.func321.trans (congrArg some yt),
  f328:=Tryz.func354.trans (congrArg some yt),
  f329:=Tryz.func355.trans (congrArg some yt),
  f330:=Tryz.func356.trans (congrArg some yt),
  f331:=Tryz.func357.trans (congrArg some yt),
  f332:=Tryz.func358.trans (congrArg some yt),
  f343:=Tryz.func380.trans (congrArg some yt),
  t0:=Tryz.underlying0,
  a0:=Tryz.isAgg0,
  z0:=Tryz.sizeOf0,
  v0:=Tryz.zeroValue0,
  t3:=Tryz.underlying3,
  a3:=Tryz.isAgg3,
  z3:=Tryz.sizeOf3,
  v3:=Tryz.zeroValue3,
  t4:=Tryz.underlying4,
  a4:=Tryz.isAgg4,
  z4:=Tryz.sizeOf4,
  v4:=Tryz.zeroValue4,
  t5:=Tryz.underlying5,
  a5:=Tryz.isAgg5,
  z5:=Tryz.sizeOf5,
  v5:=Tryz.zeroValue5,
  t9:=Tryz.underlying9,
  a9:=Tryz.isAgg9,
  z9:=Tryz.sizeOf9,
  v9:=Tryz.zeroValue9,
  t28:=Tryz.underlying24,
  a28:=Tryz.isAgg24,
  z28:=Tryz.sizeOf24,
  v28:=Tryz.zeroValue24,
  t46:=Tryz.underlying234,
  a46:=Tryz.isAgg234,
  z46:=Tryz.sizeOf234,
  v46:=Tryz.zeroValue234,
  t51:=Tryz.underlying53,
  a51:=Tryz.isAgg53,
  z51:=Tryz.sizeOf53,
  v51:=Tryz.zeroValue53,
  t53:=Tryz.underlying50,
  a53:=Tryz.isAgg50,
  z53:=Tryz.sizeOf50,
  v53:=Tryz.zeroValue50,
  t131:=Tryz.underlying167,
  a131:=Tryz.isAgg167,
  z131:=Tryz.sizeOf167,
  v131:=Tryz.zeroValue167,
  t182:=Tryz.underlying383,
  a182:=Tryz.isAgg383,
  z182:=Tryz.sizeOf383,
  v182:=Tryz.zeroValue383,
  t183:=Tryz.underlying384,
  a183:=Tryz.isAgg384,
  z183:=Tryz.sizeOf384,
  v183:=Tryz.zeroValue384,
  t218:=Tryz.underlying403,
  a218:=Tryz.isAgg403,
  z218:=Tryz.sizeOf403,
  v218:=Tryz.zeroValue403,
  t222:=Tryz.underlying407,
  a222:=Tryz.isAgg407,
  z222:=Tryz.sizeOf407,
  v222:=Tryz.zeroValue407,
  t228:=Tryz.underlying418,
  a228:=Tryz.isAgg418,
  z228:=Tryz.sizeOf418,
  v228:=Tryz.zeroValue418,
  t229:=Tryz.underlying126,
  a229:=Tryz.isAgg126,
  z229:=Tryz.sizeOf126,
  v229:=Tryz.zeroValue126 }
theorem sortInt_ok (l:List Int) (hn:l.length<1000000000):zfp P 217 (.row 3 i64T l) [.own 0] (.lit (.tuple #[])) (.row 3 i64T (zbE l)):=zt6 sortI hn
def mayV (v:List Int):Bool:=decide (0<v.length/\v.length<=200/\v[0]?=some 31) && !(v.any fun n=>decide (n<0\/31<n))
def mayP (v:List Int) (m k:Int):Bool:=mayV v&&decide (1<=m/\1<=k/\k<v.length)
def upR (v:List Int) (n:Int) (a i:Nat):List Int:=((List.range' a (i-a)).filter fun j:Nat=>decide (n<=v.getD j 0)).map fun j:Nat=>(j:Int)
def upOf (v:List Int) (a b n:Int):List Int:=upR v n (max a 0).toNat (min b v.length).toNat
theorem zpn (v:List Int) (n:Int) (a i:Nat):(upR v n a i).length<=i-a:=by
  unfold upR;rw[length_map];exact Nat.le_trans (List.length_filter_le _ _) yw
theorem up_length (v:List Int) (a b n:Int):(upOf v a b n).length<=v.length:=Nat.le_trans (zpn ..) ya
theorem zvi (v:List Int) (n:Int) (a:Nat):upR v n a a=[]:=by unfold upR;simp
theorem zvh {v:List Int} {n x:Int} {a i:Nat} (hx:v[i]?=some x) (ha:a<=i):upR v n a (i+1)=upR v n a i++(if n<=x then [(i:Int)] else []):=by
  unfold upR;rw[show i+1-a=(i-a)+1 by omega,List.range'_1_concat,show a+(i-a)=i by omega,List.filter_append,map_append];congr 1
  have:v.getD i 0=x:=by simp[hx]
  by_cases c:n<=x<;>simp[c,hx]
theorem upR_yes {v:List Int} {n x:Int} {a i:Nat} (hx:v[i]?=some x) (ha:a<=i) (h:n<=x):upR v n a (i+1)=upR v n a i++[(i:Int)]:=by rw[zvh hx ha,ut h]
theorem upR_no {v:List Int} {n x:Int} {a i:Nat} (hx:v[i]?=some x) (ha:a<=i) (h:¬n<=x):upR v n a (i+1)=upR v n a i:=by rw[zvh hx ha,ur h,append_nil]
theorem zr0 {v:List Int} {n:Int} {a i:Nat} (h:i<=a):upR v n a i=[]:=by unfold upR;rw[show i-a=0 by omega];rfl
theorem upOf_end {v:List Int} {a b n:Int} {i:Nat} (h1:(max a 0).toNat<=i) (h2:(i:Int)<=min b v.length\/i=(max a 0).toNat) (h3:¬(i:Int)<min b v.length):upR v n (max a 0).toNat i=upOf v a b n:=by
  unfold upOf;by_cases c:(i:Int)=min b v.length
  . rw[show(min b v.length).toNat=i by omega]
  rw[zr0 ya,zr0 ya]
theorem mem_upR {v:List Int} {n:Int} {a i:Nat} {x:Int}:x∈upR v n a i↔∃j:Nat,x=j/\a<=j/\j<i/\n<=v.getD j 0:=by
  unfold upR;simp only[mem_map,mem_filter,List.mem_range'_1,uj]
  constructor
  . rintro ⟨j,⟨h1,h2⟩,rfl⟩;exact⟨j,rfl,h1.1,by omega,h2⟩
  rintro ⟨j,rfl,h1,h2,h3⟩;exact⟨j,⟨⟨h1,by omega⟩,h3⟩,rfl⟩
theorem mem_up {v:List Int} {a b n x:Int}:x∈upOf v a b n↔∃j:Nat,x=j/\a<=j/\(j:Int)<b/\j<v.length/\n<=v.getD j 0:=by
  unfold upOf;rw[mem_upR]
  constructor
  . rintro ⟨j,rfl,h1,h2,h3⟩;exact⟨j,rfl,by omega,by omega,by omega,h3⟩
  rintro ⟨j,rfl,h1,h2,h3,h4⟩;exact⟨j,rfl,by omega,by omega,h4⟩
def zbt (v:List Int) (m k:Int):Nat->Int×List Int
  | 0=>(0,[])
  | i+1 =>
    (if m<(upOf v (zbt v m k i).1 ((v.length:Int)-k) (31-(i:Int))).length then (upOf v (zbt v m k i).1 ((v.length:Int)-k) (31-(i:Int))).getD ((upOf v (zbt v m k i).1 ((v.length:Int)-k) (31-(i:Int))).length-m.toNat) 0 else (zbt v m k i).1,
      (upOf v (zbt v m k i).1 ((v.length:Int)-k) (31-(i:Int))).foldl zd4 (zbt v m k i).2)
def zch (v:List Int) (m k:Int):List Int×Bool:=if mayP v m k=true then (zbE (zbt v m k 32).2,true) else ([],false)
theorem zjz {v L:List Int} {m k c:Int} {i:Nat} (hL:L=upOf v (zbt v m k i).1 ((v.length:Int)-k) (31-(i:Int))) (hc:L[L.length-m.toNat]?=some c) (h:m<L.length):c=(zbt v m k (i+1)).1:=by
  show c=if _ then _ else _
  rw[<-hL,ut h];simp[hc]
theorem zk6 {v L:List Int} {m k:Int} {i:Nat} (hL:L=upOf v (zbt v m k i).1 ((v.length:Int)-k) (31-(i:Int))) (h:¬m<L.length):(zbt v m k i).1=(zbt v m k (i+1)).1:=by
  show _=if _ then _ else _
  rw[<-hL,ur h]
theorem zoq:∀(L K:List Int) (x:Int),x∈L.foldl zd4 K↔x∈K\/x∈L
  | [],K,x=>by simp
  | y::L,K,x=>by rw[List.foldl_cons,zoq L,mem_setAdd,mem_cons];exact⟨fun h=>by rcases h with (h|h)|h<;>simp[h],fun h=>by rcases h with h|h|h<;>simp[h]⟩
theorem zp1:∀(L K:List Int),K.Nodup->(L.foldl zd4 K).Nodup
  | [],K,h=>h
  | y::L,K,h=>zp1 L _ (zsn h)
theorem zkI {v:List Int} {m k:Int} (h:mayP v m k=true):mayV v=true/\1<=m/\1<=k/\k<v.length:=by
  unfold mayP at h;rw[uk,uj] at h;exact h
theorem mayV_spec {v:List Int} (h:mayV v=true):0<v.length/\v.length<=200/\v[0]?=some 31/\∀n∈v,0<=n/\n<=31:=by
  unfold mayV at h;rw[uk,uj,Bool.not_eq_true',List.any_eq_false] at h;refine⟨h.1.1,h.1.2.1,h.1.2.2,fun n hn=>?_⟩
  have:=h.2 n hn
  rw[uj] at this;omega
theorem zm4 {v:List Int} {m k:Int} (h:mayP v m k=true):1<=m/\1<=k/\k<v.length/\v.length<=200:=⟨(zkI h).2.1,(zkI h).2.2.1,(zkI h).2.2.2,(mayV_spec (zkI h).1).2.1⟩
theorem znb {v:List Int} {m k:Int} (h:mayP v m k=true):∀i:Nat,i<=32->(0<=(zbt v m k i).1/\(zbt v m k i).1<v.length)/\(zbt v m k i).2.Nodup/\∀x∈(zbt v m k i).2,0<=x/\x<(v.length:Int)-k
  | 0,_=>by
    have:=zm4 h
    exact⟨⟨Int.le_refl _,by show(0:Int)<_;omega⟩,List.nodup_nil,fun x hx=>by cases hx⟩
  | i+1,hi=>by
    obtain⟨h1,h2,h3⟩:=znb h i ya;have hl:=zm4 h;obtain⟨L,hL⟩:∃L,L=upOf v (zbt v m k i).1 ((v.length:Int)-k) (31-(i:Int)):=⟨_,rfl⟩;have hm:∀x∈L,0<=x/\x<(v.length:Int)-k:=fun x hx=>by
      rw[hL] at hx;obtain⟨j,rfl,_,h5,_⟩:=mem_up.1 hx;omega
    refine⟨?_,?_,?_⟩
    . by_cases c:m<L.length
      . obtain⟨z,hz⟩:∃z,L[L.length-m.toNat]?=some z:=yr
        rw[<-zjz hL hz c]
        have:=hm z (ud hz)
        omega
      rw[<-zk6 hL c];exact h1
    . show(List.foldl zd4 _ _).Nodup
      exact zp1 _ _ h2
    intro x hx;have hx:x∈(upOf v (zbt v m k i).1 ((v.length:Int)-k) (31-(i:Int))).foldl zd4 (zbt v m k i).2:=hx;rw[<-hL,zoq] at hx;exact hx.elim (h3 x) (hm x)
theorem zp5 {α:Type} (p:α->Bool):∀l:List α,l.length=(l.filter p).length+(l.filter fun x=>!p x).length
  | []=>rfl
  | x::l=>by
    have:=zp5 p l
    cases h:p x<;>simp[h,this]<;>omega
theorem zm3:∀{n:Nat} {l:List Nat},l.Nodup->(∀i∈l,i<n)->l.length<=n
  | 0,[],_,_=>ug _
  | 0,x::l,_,h=>absurd (h x (mem_cons_self ..)) (Nat.not_lt_zero _)
  | n+1,l,hd,h=>by
    have h1:(l.filter fun i=>decide (i≠n)).length<=n:=zm3 (hd.sublist List.filter_sublist) (fun i hi=>by
      rw[mem_filter] at hi
      have:=h i hi.1
      have:=of_decide_eq_true hi.2
      omega)
    have h2:(l.filter fun i=>!decide (i≠n)).length<=1:=by
      have hs:(l.filter fun i=>!decide (i≠n)).Nodup:=hd.sublist List.filter_sublist
      match hf:l.filter (fun i=>!decide (i≠n)) with
      | []=>simp
      | [_]=>simp
      | a::b::_ =>
        rw[hf] at hs;have ha:a∈l.filter fun i=>!decide (i≠n):=by rw[hf];simp
        have hb:b∈l.filter fun i=>!decide (i≠n):=by rw[hf];simp
        simp only[mem_filter,Bool.not_eq_true',decide_eq_false_iff_not,Decidable.not_not] at ha hb;simp[ha.2,hb.2] at hs
    have h3:=zp5 (fun i=>decide (i≠n)) l;omega
theorem seen_step {K:List Int} {seen:List Nat} {i:Nat} {v:Int} (hs:seen.Nodup/\∀i∈seen,i<K.length) (hv:K[i]?=some v) (hi:i∉seen) :
    ((seen++[i]).Nodup/\∀j∈seen++[i],j<K.length)/\K.length-(seen++[i]).length<K.length-seen.length/\seen.length<K.length:=by
  have h1:(seen++[i]).Nodup/\∀j∈seen++[i],j<K.length:=⟨List.nodup_append.2 ⟨hs.1,by simp,fun a ha b hb=>by simp at hb;subst hb;exact fun e=>hi (e▸ha)⟩,fun j hj=>by
    rcases mem_append.1 hj with h|h
    . exact hs.2 j h
    simp at h;subst h;exact(ul.1 hv).1⟩
  have h2:=zm3 h1.1 h1.2;simp only[ue,length_cons,List.length_nil] at h2;exact⟨h1,by simp;omega,by omega⟩
theorem seen_all {K:List Int} {seen:List Nat} (hs:seen.Nodup/\∀i∈seen,i<K.length) (h:∀i,i<K.length->i∈seen):(seen.map fun i=>K.getD i 0).Perm K:=by
  have h1:seen.Perm (List.range K.length):=(List.perm_ext_iff_of_nodup hs.1 List.nodup_range).2 fun i=>by rw[mem_range];exact⟨hs.2 i,h i⟩
  refine(h1.map _).trans ?_
  have:(List.range K.length).map (fun i=>K.getD i 0)=K:=by
    apply ext_getElem?;intro i;rw[List.getElem?_map];by_cases c:i<K.length
    . rw[List.getElem?_range c,ub c];simp[c]
    rw[List.getElem?_eq_none ybP,List.getElem?_eq_none ya];rfl
  rw[this]
theorem sort_mem {l:List Int} {x:Int}:x∈zbE l↔x∈l:=(List.mergeSort_perm l _).mem_iff
theorem znv (l:List Int):(zbE l).Pairwise fun a b=>a<=b:=by
  have:=List.pairwise_mergeSort (le:=fun x y:Int=>decide (x<=y)) (fun a b c h1 h2=>by simp at *;omega) (fun a b=>by simp;omega) l
  exact this.imp fun h=>of_decide_eq_true h
theorem sort_perm {l r:List Int} (h:l.Perm r):zbE l=zbE r :=
  (((List.mergeSort_perm l _).trans h).trans (List.mergeSort_perm r _).symm).eq_of_pairwise (fun a b _ _ h1 h2=>Int.le_antisymm h1 h2) (znv l) (znv r)
theorem zmh {v K:List Int} {m k a:Int} (h:(0<=a/\a<v.length)/\K.Nodup/\∀x∈K,0<=x/\x<(v.length:Int)-k) (hl:1<=m/\1<=k/\k<v.length/\v.length<=200):K.length<=200:=by
  have h1:(K.map Int.toNat).length<=v.length:=zm3 (by
    rw[List.Nodup,List.pairwise_map];exact h.2.1.imp_of_mem fun {a b} ha hb hne=>by
      have:=h.2.2 a ha
      have:=h.2.2 b hb
      omega) (fun i hi=>by
    obtain⟨x,hx,rfl⟩:=mem_map.1 hi
    have:=h.2.2 x hx
    omega)
  rw[length_map] at h1;omega
theorem zsZ (l:List Int) (p:Int->Bool):Tells P 198 [.val (bsl i64T) l,.fn1 P i64T zo p] (.val i64T (idx p l)):=by
 refine zc Tryz.func198 rfl rfl rfl (fun ext w hext=>?_);refine ze (d:=0) rfl zk (fun hsl0=>?_);refine qcK ?_;refine qbw ?_;refine qaF ?_;refine Lp (ι:=Nat) 0 (fun (k:Nat)=>(((((Fr.none).set 0 (.val (bsl i64T) l)).set 1 (.fn1 P i64T zo p)).set 6 (.val (bsl i64T) l)).set 7 (.val i64T (l.length:Int))).set 8 (.val i64T (k:Int))) (fun (k:Nat)=>Hp.none) (fun (k:Nat)=>k<=l.length/\idx p l=shift k (idx p (l.drop k))) (fun (k:Nat)=>l.length-k) (0) (⟨uf _,zcC p l⟩) ?_;intro k hinv;refine qap ?_;refine Cf (p:=k<l.length) (fun ht9=>?_) (fun ht9=>?_)
 .
  obtain⟨x,hx⟩:∃x,l[k]?=some x:=yaN;refine qft ?_;refine qdw ?_;refine qbr ?_;refine zl (p:=p x=true) rfl yw (fun ht16=>?_) (fun ht16=>?_)
  .
   refine qd3 ?_;exact zb rfl rfl (za rfl (hinv.2.trans (zgA hx ht16)).symm)
  refine qbt ?_;exact Nx (k+1) (⟨by omega,hinv.2.trans (zjs hx ht16)⟩) ya
 refine qcs ?_;exact zb rfl rfl (za rfl (hinv.2.trans (zfU ya)).symm)
theorem zoC (l:List Int) (p:Int->Bool):Tells P 214 [.val (bsl i64T) l,.fn1 P i64T zo p] (.val zo (l.any p)):=by
 refine zc Tryz.func214 rfl rfl rfl (fun ext w hext=>?_);refine ze (d:=0) rfl zk (fun hsl0=>?_);refine qe8 ?_;refine A0 mF ?_;refine A0 (oCl (zsZ _ _) rfl fn_198 ⟨yk,(zae rfl rfl),trivial⟩) ?_;refine qfs ?_;exact zb rfl rfl (za rfl (zio p l))
theorem mayN_ok (n:Int):Tells P 213 [.val i64T n] (.val zo (decide (n<0\/31<n))):=by
 refine zc Tryz.func213 rfl rfl rfl (fun ext w hext=>?_);refine ze (d:=0) rfl zz (fun hin0=>?_);refine qe8 ?_;refine qcZ ?_;refine Sp (d:=5) (p:=n<0) (fun g5=>?_) (fun g5=>?_)
 .
  refine qaZ ?_;refine qaE ?_;exact zb rfl rfl (za rfl ((ui (.inl g5)).symm))
 refine qca ?_;refine qaE ?_;exact zb rfl rfl (za rfl yax)
theorem mayV_ok (v:List Int):Tells P 164 [.val (bsl i64T) v] (.val zo (mayV v)):=by
 refine zc Tryz.func164 rfl rfl rfl (fun ext w hext=>?_);refine ze (d:=0) rfl zk (fun hsl0=>?_);refine qf5 ?_;refine A0 aC ?_;refine qd5 ?_;refine qbw ?_;refine A0 zcq ?_;refine qaz ?_;refine Sp (d:=7) (p:=0<v.length) (fun g7=>?_) (fun g7=>?_)
 .
  refine qfY ?_;refine A1 (zaC rfl rfl zpU) ?_;refine A1 zfR ?_;refine qai ?_;refine Sp (d:=12) (p:=v.length<=200) (fun g12=>?_) (fun g12=>?_)
  .
   obtain⟨x,hx⟩:∃x,v[0]?=some x:=⟨_,ub g7⟩;refine qfY ?_;refine A1 (zx (i:=0) rfl rfl rfl ya zdG yj) ?_;refine A1 (zh rfl rfl ty_3) ?_;refine qep ?_;refine Sp (d:=18) (p:=x=31) (fun g18=>?_) (fun g18=>?_)
   .
    refine qfY ?_;refine A1 mC ?_;refine A1 (oCl (zoC v (fun n=>decide (n<0\/31<n))) rfl fn_214 ⟨yk,(by first|exact zdO (Cs:=[]) rfl fn_213 yC trivial rfl (fun x=>mayN_ok x)|exact zdN (Cs:=[]) rfl fn_213 yC trivial rfl (fun x y=>mayN_ok x)|exact zdP rfl),trivial⟩) ?_;refine A1 oN ?_;refine qaE ?_;exact zb rfl rfl (za rfl ((by unfold mayV;rw[ui ⟨g7,g12,by rw[hx,g18]⟩];rfl)))
   refine qda ?_;refine qaE ?_;exact zb rfl rfl (za rfl ((by unfold mayV;rw[uh (fun h=>g18 (by have:=h.2.2;rw[hx] at this;exact Option.some.inj this))];rfl)))
  refine qab ?_;refine qay ?_;refine qaE ?_;exact zb rfl rfl (za rfl ((by unfold mayV;rw[uh (fun h=>g12 h.2.1)];rfl)))
 refine qcX ?_;refine qay ?_;refine qaE ?_;exact zb rfl rfl (za rfl ((by unfold mayV;rw[uh (fun h=>g7 h.1)];rfl)))
theorem mayP_ok (v:List Int) (m k:Int):Tells P 207 [.val (bsl i64T) v,.val i64T m,.val i64T k] (.val zo (mayP v m k)):=by
 refine zc Tryz.func207 rfl rfl rfl (fun ext w hext=>?_);refine ze (d:=0) rfl zk (fun hsl0=>?_);refine ze (d:=1) rfl zz (fun hin1=>?_);refine ze (d:=2) rfl zz (fun hin2=>?_);refine qe8 ?_;refine A0 (oCl (mayV_ok v) rfl fn_164 yd) ?_;refine qaz ?_;refine Sp (d:=9) (p:=mayV v=true) (fun g9=>?_) (fun g9=>?_)
 .
  refine qfY ?_;refine A1 zgb ?_;refine qai ?_;refine Sp (d:=13) (p:=1<=m) (fun g13=>?_) (fun g13=>?_)
  .
   refine qfY ?_;refine A1 zgb ?_;refine qai ?_;refine Sp (d:=17) (p:=1<=k) (fun g17=>?_) (fun g17=>?_)
   .
    refine qfY ?_;refine A1 (zaC rfl rfl zpU) ?_;refine qca ?_;refine qaE ?_;exact zb rfl rfl (za rfl ((by unfold mayP;rw[g9,Bool.true_and,uo];simp only[IntL.toI,id_eq];omega)))
   refine qda ?_;refine qaE ?_;exact zb rfl rfl (za rfl ((by unfold mayP;rw[uh (fun h=>g17 h.2.1),Bool.and_false])))
  refine A2 ?_;refine qay ?_;refine qaE ?_;exact zb rfl rfl (za rfl ((by unfold mayP;rw[uh (fun h=>g13 h.1),Bool.and_false])))
 refine qaZ ?_;refine qai ?_;refine A2 ?_;refine qay ?_;refine qaE ?_;exact zb rfl rfl (za rfl ((by unfold mayP;rw[Bool.eq_false_iff.2 g9];rfl)))
theorem up_ok (v:List Int) (a b n:Int) (hl:v.length<=1000000000000):Tells P 264 [.val (bsl i64T) v,.val i64T a,.val i64T b,.val i64T n] (.fresh 3 i64T (upOf v a b n)):=by
 refine zc Tryz.func264 rfl rfl rfl (fun ext w hext=>?_);refine ze (d:=0) rfl zk (fun hsl0=>?_);refine ze (d:=1) rfl zz (fun hin1=>?_);refine ze (d:=2) rfl zz (fun hin2=>?_);refine ze (d:=3) rfl zz (fun hin3=>?_);refine qeR ?_;refine qbD ?_;refine A0 (g_max rfl rfl rfl) ?_;refine qco ?_;refine zj (d:=10) (y:=(((max a 0).toNat:Nat):Int)) rfl (by first|omega|(simp only[IntL.toI,id_eq];omega)) ?_;refine za7 (T:=i64T) (d:=9) 3 rfl ?_;refine zq (n:=0) (y:=upR v n (max a 0).toNat (max a 0).toNat) rfl (zvi v n _).symm ?_;refine Lp (ι:=Nat) 1 (fun i=>((((Fr.none.set 0 (.val (bsl i64T) v)).set 2 (.val i64T b)).set 3 (.val i64T n)).set 9 (.own 0)).set 10 (.val i64T (i:Int))) (fun i=>Hp.none.set 0 (.row 3 i64T (upR v n (max a 0).toNat i))) (fun i=>(max a 0).toNat<=i/\((i:Int)<=min b v.length\/i=(max a 0).toNat)) (fun i=>v.length-i) ((max a 0).toNat) (⟨ug _,.inr rfl⟩) ?_;intro i hinv;refine qb6 ?_;refine qaz ?_;refine qbw ?_;refine A0 (g_min rfl rfl rfl) ?_;refine qa7 ?_;refine Cf (p:=(i:Int)<min b v.length) (fun ht18=>?_) (fun ht18=>?_)
 .
  obtain⟨x,hx⟩:∃x,v[i]?=some x:=yr;refine qf7 ?_;refine xz ?_;refine qbs ?_;refine qaz ?_;refine qb5 ?_;refine Cf (p:=n<=x) (fun ht26=>?_) (fun ht26=>?_)
  .
   refine qcU ?_;refine qaz ?_;refine qaX ?_;refine zp rfl rfl rfl rfl rfl rfl rfl zhO (by have:=zpn v n (max a 0).toNat i;simp;omega) ?_;refine qeU ?_;refine qbI ?_;refine zq (n:=0) (y:=upR v n (max a 0).toNat (i+1)) rfl (upR_yes hx hinv.1 ht26).symm ?_;exact Nx (i+1) (⟨by omega,by omega⟩) ya
  refine qcG ?_;refine zq (n:=0) (y:=upR v n (max a 0).toNat (i+1)) rfl (upR_no hx hinv.1 ht26).symm ?_;exact Nx (i+1) (⟨by omega,by omega⟩) ya
 refine qa8 ?_;exact zb rfl rfl (zf rfl rfl (upOf_end hinv.1 hinv.2 ht18))
theorem prefix_ok (v:List Int) (m k:Int):Tells P 161 [.val (bsl i64T) v,.val i64T m,.val i64T k] (.tup2 (.fresh 3 i64T (zch v m k).1) (.val zo (zch v m k).2)):=by
 refine zc Tryz.func161 rfl rfl rfl (fun ext w hext=>?_);refine ze (d:=0) rfl zk (fun hsl0=>?_);refine ze (d:=1) rfl zz (fun hin1=>?_);refine ze (d:=2) rfl zz (fun hin2=>?_);refine qau ?_;refine qag ?_;refine qal ?_;refine A0 (oCl (mayP_ok v m k) rfl fn_207 yL) ?_;refine qaT ?_;refine zl (p:=¬mayP v m k=true) rfl yw (fun ht13=>?_) (fun ht13=>?_)
 .
  refine qbE ?_;exact zG rfl rfl (by unfold zch;rw[ur ht13];exact zs rfl) (za rfl (by unfold zch;rw[ur ht13]))
 have hmp:mayP v m k=true:=Classical.byContradiction ht13;have hcl:=znb hmp;have hvl:=zm4 hmp;refine CSQR ?_;refine aw_mkmap rfl rfl rfl rfl (fun b0=>?_);refine zjc zp_301 rfl rfl rfl rfl rfl rfl ?_;refine zay rfl rfl rfl rfl rfl rfl rfl rfl rfl rfl ty_301 ?_;refine CNQR ?_;refine qal ?_;refine qaz ?_;refine qex ?_;refine z6 rfl rfl rfl rfl Tryz.func208 fn_208 rfl rfl (fun ia2 iok2=>?_);refine qf5 ?_;refine qaF ?_;refine Lp (ι:=Nat) 2 (fun (i:Nat)=>((((((Fr.none).set 0 (.val (bsl i64T) v)).set 1 (.val i64T m)).set 2 (.val i64T k)).set 3 (.clo 209 [1])).set 8 (.val i64T (zbt v m k i).1)).set 12 (.val i64T (i:Int))) (fun (i:Nat)=>((Hp.none).set 0 (.objAt b0 (setO (zbt v m k i).2))).set 1 (.parts 301 [.lit (.map (some b0))])) (fun (i:Nat)=>i<=32) (fun (i:Nat)=>32-i) (0) (uf _) ?_;intro i hi;refine qap ?_;refine Cf (p:=i<32) (fun ht13=>?_) (fun ht13=>?_)
 .
  have hci:=hcl i ya;have hup:=zu (up_ok v (zbt v m k i).1 ((v.length:Int)-k) (31-(i:Int)) ya);obtain⟨L,hL⟩:∃L,L=upOf v (zbt v m k i).1 ((v.length:Int)-k) (31-(i:Int)):=⟨_,rfl⟩;rw[<-hL] at hup;have hLl:L.length<=200:=by rw[hL];have:=up_length v (zbt v m k i).1 ((v.length:Int)-k) (31-(i:Int));omega
  refine qbp ?_;refine qaR ?_;refine qfv ?_;refine qbL ?_;refine qaz ?_;refine qbw ?_;refine qcn ?_;refine qaz ?_;refine A0 (oCl (hup) rfl fn_264 ⟨yk,yk,yk,yk,trivial⟩) ?_;refine qaj ?_;refine A0 mC ?_;refine qal ?_;refine qaz ?_;refine zdW rfl rfl rfl rfl rfl Tryz.func209 fn_209 rfl rfl yH (fun ia3 iok3=>?_);refine qb1 ?_;refine qbw ?_;refine qaF ?_;refine Lp (ι:=Nat) 2 (fun (j:Nat)=>((((Fr.none).set 3 (.ptr 1 0)).set 9 (.val (sl i64T) L)).set 10 (.val i64T (L.length:Int))).set 11 (.val i64T (j:Int))) (fun (j:Nat)=>((Hp.none).set 0 (.objAt b0 (setO ((L.take j).foldl zd4 (zbt v m k i).2)))).set 1 (.parts 301 [.lit (.map (some b0))])) (fun (j:Nat)=>j<=L.length) (fun (j:Nat)=>L.length-j) (0) (uf _) ?_;intro j hj;refine qap ?_;refine Cf (p:=j<L.length) (fun ht12=>?_) (fun ht12=>?_)
  .
   obtain⟨x,hx⟩:∃x,L[j]?=some x:=⟨_,ub ht12⟩;refine qeh ?_;refine qdw ?_;refine A0 aX ?_;refine CNR ?_;refine qei ?_;refine A0 mX ?_;refine A0 (zwh rfl zu_186 su_186) ?_;refine aw_mapput (n:=0) rfl rfl rfl rfl rfl rfl rfl mp_301 ui_3 ?_;refine qb8 ?_;refine zlb 0 (setO ((L.take (j+1)).foldl zd4 (zbt v m k i).2)) rfl (by rw[un,hx,foldl_append];rfl) ?_;exact Nx (j+1) ya ya
  refine CE ?_;refine ziG rfl ?_;refine CNQ ?_;refine zlb 0 (setO (L.foldl zd4 (zbt v m k i).2)) rfl yO ?_;refine qe5 ?_;refine qbw ?_;refine qaz ?_;refine qc2 ?_;refine Cf (p:=m<L.length) (fun ht33=>?_) (fun ht33=>?_)
  .
   obtain⟨c,hc⟩:∃c,L[L.length-m.toNat]?=some c:=yr;refine qfJ ?_;refine qbw ?_;refine qcn ?_;refine A0 (zx (i:=L.length-m.toNat) rfl rfl rfl ya zdG yj) ?_;refine qbs ?_;refine A0 aX ?_;refine qb8 ?_;refine zj (d:=8) (y:=(zbt v m k (i+1)).1) rfl (zjz hL hc ht33) ?_;refine zlb 0 (setO (zbt v m k (i+1)).2) rfl (by rw[hL];rfl) ?_;exact Nx (i+1) ya ya
  refine qbt ?_;refine zj (d:=8) (y:=(zbt v m k (i+1)).1) rfl (zk6 hL ht33) ?_;refine zlb 0 (setO (zbt v m k (i+1)).2) rfl (by rw[hL];rfl) ?_;exact Nx (i+1) ya ya
 refine CE ?_;refine ziG rfl ?_;refine CNQ ?_;have hi32:i=32:=ya;subst hi32;obtain⟨K,hK⟩:∃K,K=(zbt v m k 32).2:=⟨_,rfl⟩;have hck:=hcl 32 ya;rw[<-hK] at hck;refine zlb 0 (setO K) rfl (by rw[hK]) ?_;have hkeys:∀x∈K,-9223372036854775808<=x/\x<=9223372036854775807:=fun x hx=>by have:=hck.2.2 x hx;omega
 have hKl:=zmh hck hvl;refine CR ?_;refine qei ?_;refine z6 rfl rfl rfl rfl Tryz.func211 fn_211 rfl rfl (fun ia4 iok4=>?_);refine CQR ?_;refine zrM rfl rfl rfl rfl rfl rfl rfl ?_;refine A0 aL ?_;refine qcI ?_;refine z6 rfl rfl rfl rfl Tryz.func210 fn_210 rfl rfl (fun ia6 iok6=>?_);refine qbQ ?_;refine A0 mC ?_;refine z6 rfl rfl rfl rfl Tryz.func265 fn_265 rfl rfl (fun ia7 iok7=>?_);refine qbQ ?_;refine A0 mC ?_;refine z6 rfl rfl rfl rfl Tryz.func313 fn_313 rfl rfl (fun ia8 iok8=>?_);refine CQR ?_;refine zrM rfl rfl rfl rfl rfl rfl rfl ?_;refine A0 aL ?_;refine CN ?_;refine aw_nilpart 3 3 i64T rfl ?_;refine CQQR ?_;refine A0 mC ?_;refine CNB ?_;refine zi8 rfl rfl rfl Tryz.func266 fn_266 rfl rfl yH (fun fid11 ca11 lN11 DN11 cok11 rc11 hrc11=>?_);refine CQR ?_;refine qei ?_;refine zuZ (n:=0) rfl rfl rfl rfl rfl rfl mp_301 (fun it0=>?_);refine CNB ?_;refine zco 4 8 9 rfl rfl rfl rfl rfl rfl ?_;refine Lp (ι:=List Nat) 9 (fun (seen:List Nat)=>((Fr.none).set 0 (.lit (.func (.yield lN11) #[] #[]))).set 5 (.ptr 7 0)) (fun (seen:List Nat)=>((((((Hp.none).set 0 (.objAt b0 (setO K))).set 3 (.parts 24 [.own 8])).set 8 (.row 3 i64T (seen.map fun i=>K.getD i 0))).set 5 (.objAt DN11 (.deferred (some [])))).set 6 (.objAt lN11 (rc11 .ready none))).set 7 (.objAt it0 (itO b0 K.length seen))) (fun (seen:List Nat)=>seen.Nodup/\∀i∈seen,i<K.length) (fun (seen:List Nat)=>K.length-seen.length) ([]) (⟨List.nodup_nil,fun i h=>by cases h⟩) ?_;intro seen hs;refine CQR ?_;refine aw_nextmap (n1:=0) (n2:=7) rfl rfl rfl rfl rfl (hkeys) rfl rfl (fun hall=>?_) (fun i v hiv his=>?_)
 .
  refine A0 (g_x1f rfl rfl) ?_;refine CNQ ?_;refine Cg ?_;refine CE ?_;refine ze2 (nL:=6) rfl hrc11 rfl yl ?_;refine CI ?_;refine CQR ?_;refine qek ?_;refine qbG ?_;refine zaA (zcp (nD:=5) rfl rfl rfl (ar_back1 rfl ?_));refine qbG ?_;refine zcx rfl ?_;refine qby ?_;refine zja (sortInt_ok (seen.map fun i=>K.getD i 0) (by rw[length_map];have:=zm3 hs.1 hs.2;omega)) rfl fn_217 rfl trivial trivial rfl ⟨yo,trivial⟩ rfl rfl rfl ?_;refine qgn ?_;refine qbG ?_;refine zcx rfl ?_;refine qcl ?_;exact zG rfl rfl (zf rfl rfl (by unfold zch;rw[ut hmp,<-hK];exact sort_perm (seen_all hs hall))) (za rfl (by unfold zch;rw[ut hmp]))
 obtain⟨hs1,hs2,hs3⟩:=seen_step hs hiv his;refine A0 e30 ?_;refine CNQ ?_;refine Ct ?_;refine CS ?_;refine qgf ?_;refine aw_entry (n1:=0) (n2:=7) (v:=v) (i:=i) rfl rfl rfl rfl rfl ybU ybU yj (hkeys) ?_;refine qbO ?_;refine qcR ?_;refine A0 mL ?_;refine A0 mX ?_;refine zi7 (nL:=6) rfl rfl rfl rfl rfl hrc11 rfl rfl rfl (fun ya12 yok12=>?_);refine CR ?_;refine qbe ?_;refine zjb (nL:=6) hrc11 rfl ?_;refine CB ?_;refine CR ?_;refine qek ?_;refine A0 mX ?_;refine qcH ?_;refine qgd ?_;refine CN ?_;refine CI ?_;refine zdV (nL:=6) hrc11 rfl ?_;refine qaT ?_;refine Cg ?_;refine qeS ?_;refine zco 9 8 10 rfl rfl rfl rfl rfl rfl ?_;refine zq (n:=8) (y:=(seen++[i]).map fun i=>K.getD i 0) rfl (by rw[map_append];simp[hiv]) ?_;exact Nx (seen++[i]) (hs1) (hs2)
def proverN:GoT (List Block×Int×Int×List Int×Unit):=zbF (bsl zaz) (zbF i64T (zbF i64T (zbF (sl i64T) nilT)))
def zvK:GoT (Int×Int×Unit):=zbF i64T (zbF i64T nilT)
theorem zn_prover:zaw P 170 proverN ([],0,0,[],()):=z7 (zT zcO (zT zbw (zT zbw (zT zcO zj8)))) yt
theorem zj7:zaw P 27 zvK (0,0,()):=z7 (zT zbw (zT zbw zj8)) yt
theorem zsc {l:List Block} {m k:Int} {v:List Int}:zdQ proverN (l,m,k,v,()) [.val (bsl zaz) l,.val i64T m,.val i64T k,.val (sl i64T) v,.lit (.slice none 0 0)]:=zaY zaZ (zaY zaZ (zaY zaZ (zaY zaZ znt)))
theorem zjD {m k:Int}:zdQ zvK (m,k,()) [.val i64T m,.val i64T k,.lit (.slice none 0 0)]:=zaY zaZ (zaY zaZ znt)
theorem ziT {m k:Int} {l:List Part}:zmo zP (⟨m,k,l⟩:Proof) [.val i64T m,.val i64T k] zaK l:=zv4 (zoa (zoa zsU))
def zeN (l:List Block) (m k:Int):List Int:=(zch (zcj l) m k).1++(List.range k.toNat).map fun j:Nat=>(l.length:Int)-k+(j:Int)
def zkw (l:List Block) (i:Int):Part:=⟨(l.getD i.toNat default).h,(l.getD i.toNat default).l⟩
def prE (l:List Block) (m k:Int):Int:=if ¬(zav l).2=0 then (zav l).2 else if m<1\/20<m\/k<1\/20<k\/l.length<=k then 1 else 0
def prOf (l:List Block) (m k:Int):Proof:=if prE l m k=0 then ⟨m,k,(zeN l m k).map (zkw l)⟩ else zdb
theorem prefix_mem {v:List Int} {m k x:Int} (h:x∈(zch v m k).1):0<=x/\x<(v.length:Int)-k:=by
  unfold zch at h
  split at h
  . rename_i c
    exact(znb c 32 (ug _)).2.2 x (sort_mem.1 h)
  cases h
theorem zkv (v:List Int) (m k:Int):(zch v m k).1.length<=200:=by
  unfold zch
  split
  . rename_i c
    have:=zmh (znb c 32 (ug _)) (zm4 c)
    simpa [zbE] using this
  simp
theorem zri (l:List Block):(zcj l).length=l.length:=by unfold zcj;simp
theorem places_mem {l:List Block} {m k x:Int} (hk:1<=k/\k<l.length) (h:x∈zeN l m k):0<=x/\x<l.length:=by
  unfold zeN at h;rcases mem_append.1 h with h|h
  . have:=prefix_mem h
    rw[zri] at this;omega
  obtain⟨j,hj,rfl⟩:=mem_map.1 h;rw[mem_range] at hj;omega
theorem zqZ {l:List Block} {m k:Int} (hk:k<=20):(zeN l m k).length<=220:=by
  unfold zeN
  have:=zkv (zcj l) m k
  simp;omega
theorem prBuild_ok (l:List Block) (m k:Int) (hl:zl0 l):Tells P 47 [.val (bsl zaz) l,.val i64T m,.val i64T k] (.tup2 (.val zP (prOf l m k)) (.val i64T (prE l m k))):=by
 have hll:=hl.1;refine zc Tryz.func47 rfl rfl rfl (fun ext w hext=>?_);refine ze (d:=0) rfl zk (fun hsl0=>?_);refine ze (d:=1) rfl zz (fun hin1=>?_);refine ze (d:=2) rfl zz (fun hin2=>?_);refine CQR ?_;refine qcv ?_;refine qbL ?_;refine qaz ?_;refine z6 rfl rfl rfl rfl Tryz.func93 fn_93 rfl rfl (fun ia1 iok1=>?_);refine qau ?_;refine qag ?_;refine A0 (oCl (zwJ l hl) rfl fn_21 yd) ?_;refine qcP ?_;refine qaR ?_;refine qaG ?_;refine zl (p:=¬(zav l).2=0) rfl yx (fun ht18=>?_) (fun ht18=>?_)
 .
  refine qb1 ?_;refine A0 aL ?_;refine qad ?_;refine zhK rfl ?_;refine A0 yz ?_;refine qaa ?_;refine qbA ?_;refine zf6 rfl (by simp;exact ht18) ?_;refine CQR ?_;refine xA ?_;refine qeG ?_;exact zi rfl rfl (zm rfl rfl zaO (by unfold prOf;rw[ur (by unfold prE;rw[ut ht18];exact ht18)])) (zC (za rfl (by unfold prE;rw[ut ht18])))
 refine qcb ?_;refine qcZ ?_;refine Sp (d:=22) (p:=m<1) (fun g22=>?_) (fun g22=>?_)
 .
  refine qc1 ?_;refine qai ?_;refine A2 ?_;refine qay ?_;refine qat ?_;refine Ct ?_;refine qbE ?_;refine zhK rfl ?_;refine A0 yz ?_;refine qaa ?_;refine qbA ?_;refine Ct ?_;refine CQR ?_;refine xA ?_;refine qeG ?_;exact zi rfl rfl (zm rfl rfl zaO yY) (zC (za rfl yat))
 refine qca ?_;refine qai ?_;refine Sp (d:=26) (p:=20<m) (fun g26=>?_) (fun g26=>?_)
 .
  refine qaZ ?_;refine qai ?_;refine A2 ?_;refine qay ?_;refine qat ?_;refine Ct ?_;refine qbE ?_;refine zhK rfl ?_;refine A0 yz ?_;refine qaa ?_;refine qbA ?_;refine Ct ?_;refine CQR ?_;refine xA ?_;refine qeG ?_;exact zi rfl rfl (zm rfl rfl zaO yY) (zC (za rfl yat))
 refine qfY ?_;refine qdU ?_;refine Sp (d:=30) (p:=k<1) (fun g30=>?_) (fun g30=>?_)
 .
  refine A2 ?_;refine qay ?_;refine qat ?_;refine Ct ?_;refine qbE ?_;refine zhK rfl ?_;refine A0 yz ?_;refine qaa ?_;refine qbA ?_;refine Ct ?_;refine CQR ?_;refine xA ?_;refine qeG ?_;exact zi rfl rfl (zm rfl rfl zaO yY) (zC (za rfl yat))
 refine qca ?_;refine qai ?_;refine Sp (d:=34) (p:=20<k) (fun g34=>?_) (fun g34=>?_)
 .
  refine qda ?_;refine qat ?_;refine Ct ?_;refine qbE ?_;refine zhK rfl ?_;refine A0 yz ?_;refine qaa ?_;refine qbA ?_;refine Ct ?_;refine CQR ?_;refine xA ?_;refine qeG ?_;exact zi rfl rfl (zm rfl rfl zaO yY) (zC (za rfl yat))
 refine qfY ?_;refine A1 (zaC rfl rfl zpT) ?_;refine qfY ?_;refine A1 zfR ?_;refine qat ?_;refine Cf (p:=l.length<=k) (fun ht39=>?_) (fun ht39=>?_)
 .
  refine qbE ?_;refine zhK rfl ?_;refine A0 yz ?_;refine qaa ?_;refine qbA ?_;refine Ct ?_;refine CQR ?_;refine xA ?_;refine qeG ?_;exact zi rfl rfl (zm rfl rfl zaO yY) (zC (za rfl yat))
 have hpl:=zkv (zcj l) m k;refine qej ?_;refine qal ?_;refine A0 (oCl (zu (levels_ok l ya)) rfl fn_160 yd) ?_;refine A0 (zJ rfl zn_prover bd_170 (.cons zrv (Lens.fst _ _) ty_46 rfl (.cons zwC ((Lens.snd _ _).comp (Lens.fst _ _)) ty_3 rfl (.cons zwB ((Lens.snd _ _).comp ((Lens.snd _ _).comp (Lens.fst _ _))) ty_3 rfl (.cons zwA ((Lens.snd _ _).comp ((Lens.snd _ _).comp ((Lens.snd _ _).comp (Lens.fst _ _)))) zkb rfl .nil)))) rfl) ?_;refine qfn ?_;refine A0 aP ?_;refine CN ?_;refine zek 2 (x:=(l,m,k,zcj l,())) zsc rfl ?_;refine zeD 2 3 i64T [.val (bsl zaz) l,.val i64T m,.val i64T k,.val (sl i64T) (zcj l)] rfl (by intro x hx;simp only[mem_cons,List.not_mem_nil,or_false] at hx;rcases hx with rfl|rfl|rfl|rfl<;>trivial) ?_;refine CQR ?_;refine A0 mP ?_;refine A0 mP ?_;refine qcL ?_;refine A0 (oFp zwA) ?_;refine qek ?_;refine qal ?_;refine ziF (prefix_ok (zcj l) m k) rfl fn_161 yL zit rfl rfl rfl ?_;refine A0 yz ?_;refine qaa ?_;refine qcL ?_;refine A0 (oFp zna) ?_;refine qgd ?_;refine CNQQR ?_;refine qal ?_;refine CNB ?_;refine zq (n:=4) (y:=(zch (zcj l) m k).1++(List.range 0).map fun j:Nat=>(l.length:Int)-k+(j:Int)) rfl yw ?_;refine Lp (ι:=Nat) 5 (fun i=>((((Fr.none.set 0 (.val (bsl zaz) l)).set 2 (.val i64T k)).set 10 (.ptr 2 0)).set 60 (.val i64T k)).set 61 (.val i64T (i:Int))) (fun i=>((Hp.none.set 0 (.box 27 zP zdb)).set 2 (.parts 170 ([.val (bsl zaz) l,.val i64T m,.val i64T k,.val (sl i64T) (zcj l)]++[.own 4]))).set 4 (.row 3 i64T ((zch (zcj l) m k).1++(List.range i).map fun j:Nat=>(l.length:Int)-k+(j:Int)))) (fun i=>(i:Int)<=k) (fun i=>k.toNat-i) (0) yB ?_;intro i hi;refine qap ?_;refine Cf (p:=(i:Int)<k) (fun ht62=>?_) (fun ht62=>?_)
 .
  refine qbp ?_;refine qcc ?_;refine A0 mP ?_;refine A0 mP ?_;refine qcL ?_;refine A0 (oFp zna) ?_;refine qek ?_;refine qaz ?_;refine A0 (zaC rfl rfl zpT) ?_;refine qcn ?_;refine qd9 ?_;refine qcH ?_;refine qcL ?_;refine A0 (oFp zna) ?_;refine qgd ?_;refine qb8 ?_;refine zco 5 4 6 rfl rfl rfl rfl rfl rfl ?_;refine zq (n:=4) (y:=(zch (zcj l) m k).1++(List.range (i+1)).map fun j:Nat=>(l.length:Int)-k+(j:Int)) rfl (by rw[List.range_succ,map_append];simp) ?_;exact Nx (i+1) ya ya
 refine qe7 ?_;obtain⟨PL,hPL⟩:∃PL,PL=zeN l m k:=⟨_,rfl⟩;refine zq (n:=4) (y:=PL) rfl (by rw[hPL];unfold zeN;rw[show k.toNat=i by omega]) ?_;have hpm:∀x∈PL,0<=x/\x<l.length:=fun x hx=>places_mem ya (hPL▸hx)
 have hpn:PL.length<=220:=hPL▸zqZ ya;refine CR ?_;refine A0 mP ?_;refine A0 aP ?_;refine qad ?_;refine zhK rfl ?_;refine A0 yz ?_;refine qaa ?_;refine A0 aP ?_;refine A0 aX ?_;refine CNQQR ?_;refine A0 mX ?_;refine qaG ?_;refine Cg ?_;refine CSQR ?_;refine A0 mP ?_;refine z6 rfl rfl rfl rfl Tryz.func97 fn_97 rfl rfl (fun ia3 iok3=>?_);refine CQR ?_;refine qcv ?_;refine CNQ ?_;refine zA [some 1000001,some 1000001,some 1000001,some 1000001,some 1000001,some 1000001,some 1000001,some 1000001,some 1000001,none,none] mixed yc ?_;refine XK.ga (fun _=>g_mp (.inl rfl) rfl) rfl rfl rfl ?_;refine XK.ga (fun _=>g_nc rfl rfl) rfl rfl rfl ?_;refine XK.ga (fun _=>zdp rfl rfl zwC rfl) rfl rfl rfl ?_;refine XK.gf (t:=8) rfl rfl (fun _ he=>zaf rfl rfl he rfl rfl ty_3) ⟨rfl,trivial⟩ rfl rfl rfl ?_;refine XK.ga (fun _=>g_mp (.inl rfl) rfl) rfl rfl rfl ?_;refine XK.ga (fun _=>g_nc rfl rfl) rfl rfl rfl ?_;refine XK.ga (fun _=>zdp rfl rfl zwB rfl) rfl rfl rfl ?_;refine XK.gf (t:=12) rfl rfl (fun _ he=>zaf rfl rfl he rfl rfl ty_3) ⟨rfl,trivial⟩ rfl rfl rfl ?_;refine XK.ga (fun _=>zJ rfl zj7 zha (.cons zed (Lens.fst _ _) ty_3 rfl (.cons zdJ ((Lens.snd _ _).comp (Lens.fst _ _)) ty_3 rfl .nil)) rfl) rfl rfl rfl ?_;refine XK.e (fun fr' hfr kk H=>by exact zN zj7 rfl rfl rfl rfl (zD H)) ?_;refine XK.e (x:=.idk) (fun fr' hfr kk H=>by exact zg rfl rfl rfl ((hfr 3 yc).trans rfl) rfl (Lens.self _) zaO ((hfr 14 yc).trans rfl) (zD H)) ?_;refine XK.nilp ⟨yA,yA,trivial⟩ ?_;refine zek 6 (x:=(m,k,())) zjD rfl ?_;refine zeD 6 72 zaK [.val i64T m,.val i64T k] rfl yan ?_;refine CQQR ?_;refine A0 mP ?_;refine qcL ?_;refine A0 (oFp zna) ?_;refine qek ?_;refine qfS ?_;refine qaF ?_;refine Lp (ι:=Nat) 8 (fun i=>(((((Fr.none.set 0 (.ptr 2 0)).set 2 (.ptr 5 0)).set 3 (.ptr 6 0)).set 18 (.own 4)).set 19 (.val i64T (PL.length:Int))).set 20 (.val i64T (i:Int))) (fun i=>(((((Hp.none.set 0 (.box 27 zP zdb)).set 2 (.parts 170 ([.val (bsl zaz) l,.val i64T m,.val i64T k,.val (sl i64T) (zcj l)]++[.own 4]))).set 4 (.row 3 i64T PL)).set 5 (.box 27 zP zdb)).set 6 (.parts 27 [.val i64T m,.val i64T k,.own 7])).set 7 (.row 72 zaK ((PL.take i).map (zkw l)))) (fun i=>i<=PL.length) (fun i=>PL.length-i) (0) (uf _) ?_;intro i hi2;refine qap ?_;refine Cf (p:=i<PL.length) (fun ht21=>?_) (fun ht21=>?_)
 .
  obtain⟨x,hx⟩:∃x,PL[i]?=some x:=⟨_,ub ht21⟩;have hxb:=hpm x (ud hx);obtain⟨b,hb⟩:∃b,l[x.toNat]?=some b:=yr;refine qeh ?_;refine A0 (zau (i:=i) rfl rfl rfl rfl yi zdG yh) ?_;refine qfB ?_;refine qad ?_;refine zA [some 1,some 1,some 1,some 1,some 1,some 1,some 1,some 1,some 1,some 1,some 1,some 1,some 1,some 1,some 1,some 1,some 1,some 1,some 1,some 1,some 1,none,some 1,none] mixed yc ?_;refine X0 (oFp za1) ?_;refine X0 (zaf rfl rfl rfl rfl rfl zcy) ?_;refine X0 mP ?_;refine qf2 ?_;refine X0 (oFp zrv) ?_;refine X0 (zaf rfl rfl rfl rfl rfl ty_46) ?_;refine X0 mV ?_;refine X0 (zx (i:=x.toNat) rfl rfl rfl ya zqG yj) ?_;refine X0 (oFr zcV zaU) ?_;refine X0 (zh rfl rfl zbZ) ?_;refine X0 mP ?_;refine qf2 ?_;refine X0 (oFp zrv) ?_;refine X0 (zaf rfl rfl rfl rfl rfl ty_46) ?_;refine X0 mV ?_;refine X0 (zx (i:=x.toNat) rfl rfl rfl ya zqG yj) ?_;refine X0 (oFr zgE zdx) ?_;refine X0 (zh rfl rfl zcl) ?_;refine X0 (oCl (zu (ziB b.l (by have:=(hl.2 b (ud hb)).1;constructor<;>omega))) rfl zs9 yb1) ?_;refine X0 (zJ rfl znj zpk (.cons zbA zbe zbZ rfl (.cons zb3 zcc zcl rfl .nil)) rfl) ?_;refine X0 (zW (T:=zaK) (xs:=[_]) rfl zcu zkp yA rfl rfl) ?_;refine XK.e (fun fr' hfr kk H=>by exact zp rfl rfl rfl rfl ((hfr 25 yc).trans rfl) rfl ((hfr 44 yc).trans rfl) zkp yB (zD H)) ?_;refine X0 (oFp za1) ?_;refine XK.e (x:=.idk) (fun fr' hfr kk H=>by exact zay rfl rfl rfl ((hfr 46 yc).trans rfl) rfl rfl ((hfr 45 yc).trans rfl) rfl rfl rfl zcy (zD H)) ?_;refine qdL ?_;refine zco 8 7 9 rfl rfl rfl rfl rfl rfl ?_;refine zq (n:=7) (y:=(PL.take (i+1)).map (zkw l)) rfl (by rw[un,hx,map_append];simp[zkw,hb]) ?_;exact Nx (i+1) ya ya
 refine qe7 ?_;refine zq (n:=7) (y:=PL.map (zkw l)) rfl yO ?_;refine zi9 6 7 [.val i64T m,.val i64T k] (z:=(⟨m,k,PL.map (zkw l)⟩:Proof)) (R:=zP) rfl rfl rfl ziT ?_;refine CR ?_;refine qa9 ?_;refine qas ?_;refine CN ?_;refine ztO rfl rfl rfl zaO ?_;refine qcp ?_;exact zi rfl rfl (zm rfl rfl zaO (by unfold prOf;rw[ut (by unfold prE;rw[ur ya,ur ya]),hPL])) (zC (za rfl (by unfold prE;rw[ur ya,ur ya])))
theorem toI_u32 {a b:UInt32}:IntL.toI u32T a=IntL.toI u32T b↔a=b:=⟨fun h=>UInt32.toNat_inj.1 (Int.ofNat.inj h),fun h=>by rw[h]⟩
def idsP (p:Proof):List Ab.Id:=p.p.map fun x=>zaN x.h
def zfc (p:Proof):List Int:=p.p.map fun x=>zaa x.h
def zfS (l:List Ab.Id) (prev id:Ab.Id):Bool:=decide (prev=id)||l.any fun x=>decide (id=x)
def zun (y z:Part) (last:Prop) [Decidable last] (d:Ab.Id):Int :=
  if y.h.height<=z.h.height\/¬y.h.bits=z.h.bits\/last/\(¬y.h.height=IntKind.i64.wrap (z.h.height+1)\/¬y.h.prev=d) then 5 else 0
def zrg (y:Part) (c d:Ab.Id):Int :=
  if y.l.length=0\/32<y.l.length\/¬y.l.getD 0 zId=c\/zfS y.l y.h.prev d=false\/¬zc5 y.l=y.h.links then 6 else 0
def zqx (y:Part):Int:=if ¬zcf y.h=true then 4 else 0
def zjk:Part:=⟨zlm,[]⟩
def yOf (x:CTrial):Part:=x.p.p.getD x.at_.toNat zjk
def zOf (x:CTrial):Part:=x.p.p.getD (x.at_.toNat-1) zjk
def dOf (x:CTrial):Ab.Id:=x.ids.getD (x.at_.toNat-1) zId
def cOf (x:CTrial):Ab.Id:=x.ids.getD 0 zId
def zgT (x:CTrial):Int:=zun (yOf x) (zOf x) ((x.p.p.length:Int)-x.p.k<=x.at_) (dOf x)
def zgU (x:CTrial):Int:=zrg (yOf x) (cOf x) (dOf x)
def zj9 (x:CTrial):Int:=zqx (yOf x)
def TrOk (x:CTrial):Prop:=1<=x.at_/\x.at_<x.p.p.length/\x.ids.length=x.p.p.length/\x.p.p.length<=100/\1<=x.p.k/\x.p.k<=20
theorem zh4 {x:CTrial} {y:Part} (h:x.p.p[x.at_.toNat]?=some y):yOf x=y:=by unfold yOf;simp[h]
theorem zOf_at {x:CTrial} {y:Part} (h:x.p.p[x.at_.toNat-1]?=some y):zOf x=y:=by unfold zOf;simp[h]
theorem zqa {x:CTrial} {y:Ab.Id} (h:x.ids[x.at_.toNat-1]?=some y):dOf x=y:=by unfold dOf;simp[h]
theorem cOf_at {x:CTrial} {y:Ab.Id} (h:x.ids[0]?=some y):cOf x=y:=by unfold cOf;simp[h]
theorem zeX {x:CTrial} {y z:Part} {d:Ab.Id} (hy:x.p.p[x.at_.toNat]?=some y) (hz:x.p.p[x.at_.toNat-1]?=some z) (hd:x.ids[x.at_.toNat-1]?=some d)
    (h:y.h.height<=z.h.height\/¬y.h.bits=z.h.bits\/((x.p.p.length:Int)-x.p.k<=x.at_)/\(¬y.h.height=IntKind.i64.wrap (z.h.height+1)\/¬y.h.prev=d)):zgT x=5:=by
  unfold zgT zun;rw[zh4 hy,zOf_at hz,zqa hd,ut h]
theorem zku {x:CTrial} {y z:Part} {d:Ab.Id} (hy:x.p.p[x.at_.toNat]?=some y) (hz:x.p.p[x.at_.toNat-1]?=some z) (hd:x.ids[x.at_.toNat-1]?=some d)
    (h:¬(y.h.height<=z.h.height\/¬y.h.bits=z.h.bits\/((x.p.p.length:Int)-x.p.k<=x.at_)/\(¬y.h.height=IntKind.i64.wrap (z.h.height+1)\/¬y.h.prev=d))):zgT x=0:=by
  unfold zgT zun;rw[zh4 hy,zOf_at hz,zqa hd,ur h]
theorem zdm {x:CTrial} {y:Part} {c d:Ab.Id} (hy:x.p.p[x.at_.toNat]?=some y) (hc:x.ids[0]?=some c) (hd:x.ids[x.at_.toNat-1]?=some d)
    (h:y.l.length=0\/32<y.l.length\/¬y.l.getD 0 zId=c\/zfS y.l y.h.prev d=false\/¬zc5 y.l=y.h.links):zgU x=6:=by
  unfold zgU zrg;rw[zh4 hy,cOf_at hc,zqa hd,ut h]
theorem zrh {x:CTrial} {y:Part} {c d:Ab.Id} (hy:x.p.p[x.at_.toNat]?=some y) (hc:x.ids[0]?=some c) (hd:x.ids[x.at_.toNat-1]?=some d)
    (h:¬(y.l.length=0\/32<y.l.length\/¬y.l.getD 0 zId=c\/zfS y.l y.h.prev d=false\/¬zc5 y.l=y.h.links)):zgU x=0:=by
  unfold zgU zrg;rw[zh4 hy,cOf_at hc,zqa hd,ur h]
def three:List (Option Nat):=[some 53,some 54,some 55]
def askC (f:Option Nat) (x:CTrial):Int:=if f=some 53 then zgT x else if f=some 54 then zgU x else zj9 x
def zcU:List (Option Nat)->CTrial->Int
  | [],_=>0
  | f::l,x=>if askC f x=0 then zcU l x else askC f x
theorem ziv (x:CTrial):zcU three x=if ¬zgT x=0 then zgT x else if ¬zgU x=0 then zgU x else zj9 x:=by
  have e1:askC (some 53) x=zgT x:=by unfold askC;rw[ut rfl]
  have e2:askC (some 54) x=zgU x:=by unfold askC;rw[ur yl,ut rfl]
  have e3:askC (some 55) x=zj9 x:=by unfold askC;rw[ur yl,ur yl]
  unfold three;simp only[zcU,e1,e2,e3];by_cases h1:zgT x=0
  . by_cases h2:zgU x=0
    . by_cases h3:zj9 x=0<;>simp[h1,h2,h3]
    simp[h1,h2]
  simp[h1]
theorem zjU {l:List (Option Nat)} {j:Nat} {f:Option Nat} {x:CTrial} (h:l[j]?=some f) (h0:askC f x=0):zcU (l.drop j) x=zcU (l.drop (j+1)) x:=by
  obtain⟨hj,rfl⟩:=ul.1 h;rw[List.drop_eq_getElem_cons hj];show(if _ then _ else _)=_;rw[ut h0]
theorem zex {l:List (Option Nat)} {j:Nat} {f:Option Nat} {x:CTrial} (h:l[j]?=some f) (h0:¬askC f x=0):zcU (l.drop j) x=askC f x:=by
  obtain⟨hj,rfl⟩:=ul.1 h;rw[List.drop_eq_getElem_cons hj];show(if _ then _ else _)=_;rw[ur h0]
def ze8 (p:Proof) (ids:List Ab.Id):Nat->Nat->Int
  | 0,_=>0
  | n+1,i=>if zcU three ⟨p,ids,i⟩=0 then ze8 p ids n (i+1) else zcU three ⟨p,ids,i⟩
theorem zr5 {p:Proof} {ids:List Ab.Id} {i:Nat} (hi:i<p.p.length) (h:zcU three ⟨p,ids,i⟩=0):ze8 p ids (p.p.length-i) i=ze8 p ids (p.p.length-(i+1)) (i+1):=by
  rw[show p.p.length-i=(p.p.length-(i+1))+1 by omega];show(if _ then _ else _)=_;rw[ut h]
theorem zes {p:Proof} {ids:List Ab.Id} {i:Nat} (hi:i<p.p.length) (h:¬zcU three ⟨p,ids,i⟩=0):ze8 p ids (p.p.length-i) i=zcU three ⟨p,ids,i⟩:=by
  rw[show p.p.length-i=(p.p.length-(i+1))+1 by omega];show(if _ then _ else _)=_;rw[ur h]
def zac (p:Proof):Int :=
  if p.m<1\/20<p.m\/p.k<1\/20<p.k then 1
  else if 100<p.p.length\/(p.p.length:Int)<=p.k then 3
  else if zaV (p.p.getD 0 zjk).h.bits=false\/0<(p.p.getD 0 zjk).l.length\/¬(p.p.getD 0 zjk).h=(zaq (p.p.getD 0 zjk).h.bits).b.h then 12
  else ze8 p (idsP p) (p.p.length-1) 1
def zpi (p:Proof):Bool:=p.p.all (fun x=>decide (x.l.length<=40))&&decide (p.p.length<=110)
theorem zs1 (p:Proof) (hl:p.p.length<=1000000000000):Tells P 22 [.val zP p] (.fresh 49 idT (idsP p)):=by
 refine zc Tryz.func22 rfl rfl rfl (fun ext w hext=>?_);refine qbN ?_;refine qfI ?_;refine CNQQR ?_;refine qaD ?_;refine qbM ?_;refine qaF ?_;refine qfL ?_;refine Lp (ι:=Nat) 2 (fun (k:Nat)=>((((Fr.none).set 3 (.own 1)).set 7 (.val (sl zaK) p.p)).set 8 (.val i64T (p.p.length:Int))).set 9 (.val i64T (k:Int))) (fun (k:Nat)=>(Hp.none).set 1 (.row 49 idT ((p.p.take k).map fun x=>zaN x.h))) (fun (k:Nat)=>k<=p.p.length) (fun (k:Nat)=>p.p.length-k) (0) (uf _) ?_;intro k hinv;refine qap ?_;refine Cf (p:=k<p.p.length) (fun ht10=>?_) (fun ht10=>?_)
 .
  obtain⟨x,hx⟩:∃x,p.p[k]?=some x:=⟨_,ub ht10⟩;refine qeh ?_;refine qd7 ?_;refine qbn ?_;refine qdA ?_;refine qdt ?_;refine A0 (oCl (zoc x.h) rfl fn_23 yd) ?_;refine qaJ ?_;refine qam ?_;refine qc8 ?_;refine zq (n:=1) (y:=(p.p.take (k+1)).map fun x=>zaN x.h) rfl ybo ?_;exact Nx (k+1) ya ya
 refine qa8 ?_;exact zb rfl rfl (zf rfl rfl ybV)
theorem levelsP_ok (p:Proof) (hl:p.p.length<=1000000000000):Tells P 65 [.val zP p] (.fresh 3 i64T (zfc p)):=by
 refine zc Tryz.func65 rfl rfl rfl (fun ext w hext=>?_);refine qbN ?_;refine qfI ?_;refine CNQQR ?_;refine qaD ?_;refine qbM ?_;refine qaF ?_;refine za7 (T:=i64T) (d:=3) 3 rfl ?_;refine Lp (ι:=Nat) 2 (fun (k:Nat)=>((((Fr.none).set 3 (.own 1)).set 7 (.val (sl zaK) p.p)).set 8 (.val i64T (p.p.length:Int))).set 9 (.val i64T (k:Int))) (fun (k:Nat)=>(Hp.none).set 1 (.row 3 i64T ((p.p.take k).map fun x=>zaa x.h))) (fun (k:Nat)=>k<=p.p.length) (fun (k:Nat)=>p.p.length-k) (0) (uf _) ?_;intro k hinv;refine qap ?_;refine Cf (p:=k<p.p.length) (fun ht10=>?_) (fun ht10=>?_)
 .
  obtain⟨x,hx⟩:∃x,p.p[k]?=some x:=⟨_,ub ht10⟩;refine qeh ?_;refine qd7 ?_;refine qbn ?_;refine qdA ?_;refine qdt ?_;refine A0 (oCl (zgk x.h) rfl zwr yd) ?_;refine qcH ?_;refine qem ?_;refine qc8 ?_;refine zq (n:=1) (y:=(p.p.take (k+1)).map fun x=>zaa x.h) rfl ybo ?_;exact Nx (k+1) ya ya
 refine qa8 ?_;exact zb rfl rfl (zf rfl rfl ybV)
theorem cprev_ok (x:CTrial) (h:TrOk x):Tells P 53 [.rptr zf0 x] (.val i64T (zgT x)):=by
 obtain⟨h1,h2,h3,h4,h5,h6⟩:=h;obtain⟨y,hy⟩:∃y,x.p.p[x.at_.toNat]?=some y:=yr;obtain⟨z,hz⟩:∃z,x.p.p[x.at_.toNat-1]?=some z:=yr;obtain⟨d,hd⟩:∃d,x.ids[x.at_.toNat-1]?=some d:=yr;refine zc Tryz.func53 rfl rfl rfl (fun ext w hext=>?_);refine CQR ?_;refine qaL ?_;refine zwS 25 (.box 55 zbk zlm) [some 1000001,some 1000001,some 1000001,some 1000001,some 1000001,some 1000001,some 1000001,some 1000001,some 1000001,some 1000001,some 1000001,some 1000001,some 1000001,some 1000001,some 1000001,some 1000001,some 1000001,some 1000001,some 1000001,some 1000001,some 1000001,some 1000001,some 1000001,some 1000001,some 1000001,some 1000001,none,none,none] mixed yc rfl ?_;refine XKF.ga rfl (fun _=>g_mr (.inl rfl) rfl) rfl rfl rfl rfl ?_;refine XKF.ga rfl (fun _=>zep rfl rfl) rfl rfl rfl rfl ?_;refine XKF.ga rfl (fun _=>zhR rfl rfl zhD zeJ) rfl rfl rfl rfl ?_;refine XKF.ga rfl (fun _=>zhR rfl rfl za1 zaB) rfl rfl rfl rfl ?_;refine XKF.ga rfl (fun _=>zh rfl rfl zcy) rfl rfl rfl rfl ?_;refine XKF.ga rfl (fun _=>g_mr (.inl rfl) rfl) rfl rfl rfl rfl ?_;refine XKF.ga rfl (fun _=>zep rfl rfl) rfl rfl rfl rfl ?_;refine XKF.ga rfl (fun _=>zhR rfl rfl zeh zbv) rfl rfl rfl rfl ?_;refine XKF.ga rfl (fun _=>zh rfl rfl ty_3) rfl rfl rfl rfl ?_;refine XKF.ga rfl (fun _=>zx (i:=x.at_.toNat) rfl rfl rfl ya zcu yj) rfl rfl rfl rfl ?_;refine XKF.ga rfl (fun _=>zhR rfl rfl zbA zbe) rfl rfl rfl rfl ?_;refine XKF.ga rfl (fun _=>zh rfl rfl zbZ) rfl rfl rfl rfl ?_;refine XKF.ga rfl (fun _=>g_mr (.inl rfl) rfl) rfl rfl rfl rfl ?_;refine XKF.ga rfl (fun _=>zep rfl rfl) rfl rfl rfl rfl ?_;refine XKF.ga rfl (fun _=>zhR rfl rfl zhD zeJ) rfl rfl rfl rfl ?_;refine XKF.ga rfl (fun _=>zhR rfl rfl za1 zaB) rfl rfl rfl rfl ?_;refine XKF.ga rfl (fun _=>zh rfl rfl zcy) rfl rfl rfl rfl ?_;refine XKF.ga rfl (fun _=>g_mr (.inl rfl) rfl) rfl rfl rfl rfl ?_;refine XKF.ga rfl (fun _=>zep rfl rfl) rfl rfl rfl rfl ?_;refine XKF.ga rfl (fun _=>zhR rfl rfl zeh zbv) rfl rfl rfl rfl ?_;refine XKF.ga rfl (fun _=>zh rfl rfl ty_3) rfl rfl rfl rfl ?_;refine XKF.ga rfl yP rfl rfl rfl rfl ?_;refine XKF.ga rfl (fun _=>zx (i:=x.at_.toNat-1) rfl rfl rfl ya zcu yj) rfl rfl rfl rfl ?_;refine XKF.ga rfl (fun _=>zhR rfl rfl zbA zbe) rfl rfl rfl rfl ?_;refine XKF.ga rfl (fun _=>zh rfl rfl zbZ) rfl rfl rfl rfl ?_;refine XKF.f rfl zlj rfl rfl rfl rfl rfl rfl ?_;refine XKF.e rfl (fun fr' hfr kk H=>by exact zN zlj rfl rfl rfl rfl (zD H)) (EffA.conv (fun fr' hfr kk H=>by exact zN zlj rfl rfl rfl rfl (zD H)) (by first|exact zpX rfl|exact hp_out2 rfl rfl|exact hp_out3 rfl rfl rfl|rfl)) ybU ybU ybU (by (repeat refine zwV ?_ rfl);exact fun _ _=>rfl) ?_;refine XKF.ew (x:=.idk) rfl yc (fun fr' hfr kk H=>by exact zg rfl rfl rfl ((hfr 3 yc).trans rfl) rfl (Lens.self _) zbZ ((hfr 17 yc).trans rfl) (zD H)) ybU (by (repeat refine zwV ?_ rfl);exact fun _ _=>rfl) ?_;refine XKF.ew (x:=.idk) rfl yc (fun fr' hfr kk H=>by exact zg rfl rfl rfl ((hfr 4 yc).trans rfl) rfl (Lens.self _) zbZ ((hfr 30 yc).trans rfl) (zD H)) ybU (by (repeat refine zwV ?_ rfl);exact fun _ _=>rfl) ?_
 refine XKF.nilp trivial ?_;refine qaI ?_;refine qcx ?_;refine G0 (oFr zeh zbv) ?_;refine qfp ?_;refine qcx ?_;refine G0 (oFr zhD zeJ) ?_;refine G0 (oFr za1 zaB) ?_;refine G0 (zh rfl rfl zcy) ?_;refine G0 yae ?_;refine qcx ?_;refine G0 (oFr zhD zeJ) ?_;refine G0 (oFr zdJ zdu) ?_;refine qfp ?_;refine G0 zc3 ?_;refine G0 zgb ?_;refine qaM ?_;refine CQ ?_;refine qaI ?_;refine G0 (oFp zcI) ?_;refine G0 (oLb zal ty_3) ?_;refine G0 (oFp zcI) ?_;refine G0 (oLb zal ty_3) ?_;refine G0 zfR ?_;refine G0 mV ?_;refine zaj (d:=53) (p:=y.h.height<=z.h.height) rfl yu (fun g53=>?_) (fun g53=>?_)
 .
  refine qaP ?_;refine G2 ?_;refine G2 ?_;refine qct ?_;refine G2 ?_;refine G2 ?_;refine qah ?_;refine qah ?_;refine G2 ?_;refine qaY ?_;refine Ct ?_;refine qar ?_;exact zb rfl rfl (za rfl ((zeX hy hz hd (.inl g53)).symm))
 refine G1 (oFp zdg) ?_;refine G1 (oLb zaX zbC) ?_;refine G1 (oFp zdg) ?_;refine G1 (oLb zaX zbC) ?_;refine G1 zd1 ?_;refine qct ?_;refine zaj (d:=60) (p:=¬y.h.bits=z.h.bits) rfl (by simp[toI_u32]) (fun g60=>?_) (fun g60=>?_)
 .
  refine G2 ?_;refine G2 ?_;refine qah ?_;refine qah ?_;refine G2 ?_;refine qaY ?_;refine Ct ?_;refine qar ?_;exact zb rfl rfl (za rfl ((zeX hy hz hd (.inr (.inl g60))).symm))
 refine qfz ?_;refine zaj (d:=62) (p:=(x.p.p.length:Int)-x.p.k<=x.at_) rfl yu (fun g62=>?_) (fun g62=>?_)
 .
  refine qeC ?_;refine qeC ?_;refine G1 zhZ ?_;refine G1 zd1 ?_;refine G1 mV ?_;refine zaj (d:=69) (p:=¬y.h.height=IntKind.i64.wrap (z.h.height+1)) rfl yx (fun g69=>?_) (fun g69=>?_)
  .
   refine qac ?_;refine qdN ?_;refine G2 ?_;refine G1 oK ?_;refine G1 oK ?_;refine qaY ?_;refine Ct ?_;refine qar ?_;exact zb rfl rfl (za rfl ((zeX hy hz hd (.inr (.inr ⟨g62,.inl g69⟩))).symm))
  refine G1 (oFp zez) ?_;refine G1 (oLb zbB zY) ?_;refine qdy ?_;refine G1 mR ?_;refine G1 (zep rfl rfl) ?_;refine G1 (oFr zeh zbv) ?_;refine G1 (zh rfl rfl ty_3) ?_;refine G1 zc3 ?_;refine G1 (zx (i:=x.at_.toNat-1) rfl rfl rfl ya zce yj) ?_;refine G1 (zh rfl rfl zY) ?_;refine qfM ?_;refine G1 oK ?_;refine G1 oK ?_;refine qaY ?_;refine zl (p:=¬y.h.prev=d) rfl yw (fun ht86=>?_) (fun ht86=>?_)
  .
   refine qar ?_;exact zb rfl rfl (za rfl ((zeX hy hz hd (.inr (.inr ⟨g62,.inr ht86⟩))).symm))
  refine qeE ?_;exact zb rfl rfl (za rfl ((zku hy hz hd (fun h=>h.elim g53 (fun h=>h.elim g60 (fun h=>h.2.elim g69 ht86)))).symm))
 refine qdN ?_;refine qah ?_;refine G3 ?_;refine G3 ?_;refine G3 ?_;refine G2 ?_;refine G1 oK ?_;refine qaY ?_;refine Cg ?_;refine qeE ?_;exact zb rfl rfl (za rfl ((zku hy hz hd (fun h=>h.elim g53 (fun h=>h.elim g60 (fun h=>g62 h.1)))).symm))
theorem clink_ok (x:CTrial) (h:TrOk x):Tells P 54 [.rptr zf0 x] (.val i64T (zgU x)):=by
 obtain⟨h1,h2,h3,h4,h5,h6⟩:=h;obtain⟨y,hy⟩:∃y,x.p.p[x.at_.toNat]?=some y:=yr;obtain⟨d,hd⟩:∃d,x.ids[x.at_.toNat-1]?=some d:=yr;obtain⟨c,hc⟩:∃c,x.ids[0]?=some c:=yr;refine zc Tryz.func54 rfl rfl rfl (fun ext w hext=>?_);refine CQR ?_;refine qaL ?_;refine zA [some 1000001,some 1000001,some 1000001,some 1000001,some 1000001,some 1000001,some 1000001,some 1000001,some 1000001,some 1000001,some 1000001,none,none] mixed yc ?_;refine XK.ga (fun _=>g_mr (.inl rfl) rfl) rfl rfl rfl ?_;refine XK.ga (fun _=>zep rfl rfl) rfl rfl rfl ?_;refine XK.ga (fun _=>zhR rfl rfl zhD zeJ) rfl rfl rfl ?_;refine XK.ga (fun _=>zhR rfl rfl za1 zaB) rfl rfl rfl ?_;refine XK.ga (fun _=>zh rfl rfl zcy) rfl rfl rfl ?_;refine XK.ga (fun _=>g_mr (.inl rfl) rfl) rfl rfl rfl ?_;refine XK.ga (fun _=>zep rfl rfl) rfl rfl rfl ?_;refine XK.ga (fun _=>zhR rfl rfl zeh zbv) rfl rfl rfl ?_;refine XK.ga (fun _=>zh rfl rfl ty_3) rfl rfl rfl ?_;refine XK.ga (fun _=>zx (i:=x.at_.toNat) rfl rfl rfl ya zcu yj) rfl rfl rfl ?_;refine XK.ga (fun _=>zh rfl rfl zeR) rfl rfl rfl ?_;refine XK.e (fun fr' hfr kk H=>by exact zN znj rfl rfl rfl rfl (zD H)) ?_;refine XK.e (x:=.idk) (fun fr' hfr kk H=>by exact zg rfl rfl rfl ((hfr 3 yc).trans rfl) rfl (Lens.self _) zeR ((hfr 14 yc).trans rfl) (zD H)) ?_;refine qe6 ?_;refine CQ ?_;refine qfC ?_;refine G0 (zaC rfl rfl zdn) ?_;refine G0 zd7 ?_;refine G0 mV ?_;refine zaj (d:=19) (p:=y.l.length=0) rfl (by rw[uo];simp[IntL.toI]) (fun g19=>?_) (fun g19=>?_)
 .
  refine qaP ?_;refine G2 ?_;refine qct ?_;refine qf0 ?_;refine G2 ?_;refine G2 ?_;refine qct ?_;refine qfk ?_;refine Ct ?_;refine qar ?_;exact zb rfl rfl (za rfl ((zdm hy hc hd (.inl g19)).symm))
 refine qcJ ?_;refine G1 (zaC rfl rfl zdn) ?_;refine G1 zcq ?_;refine qct ?_;refine zaj (d:=25) (p:=32<y.l.length) rfl yu (fun g25=>?_) (fun g25=>?_)
 .
  refine qf0 ?_;refine G2 ?_;refine G2 ?_;refine qct ?_;refine qfk ?_;refine Ct ?_;refine qar ?_;exact zb rfl rfl (za rfl ((zdm hy hc hd (.inr (.inl g25))).symm))
 obtain⟨e,he⟩:∃e,y.l[0]?=some e:=yr;have hel:y.l.getD 0 zId=e:=by simp[he]
 refine qcJ ?_;refine qb0 ?_;refine qdy ?_;refine qb0 ?_;refine qfM ?_;refine qct ?_;refine zaj (d:=38) (p:=¬e=c) rfl yw (fun g38=>?_) (fun g38=>?_)
 .
  refine qfk ?_;refine Ct ?_;refine qar ?_;exact zb rfl rfl (za rfl ((zdm hy hc hd (.inr (.inr (.inl (by rw[hel];exact g38))))).symm))
 refine qcJ ?_;refine G1 (oFp zbA) ?_;refine G1 (oFp zez) ?_;refine G1 (oLb (zbe.comp zbB) zY) ?_;refine qdy ?_;refine G1 mR ?_;refine G1 (zep rfl rfl) ?_;refine G1 (oFr zeh zbv) ?_;refine G1 (zh rfl rfl ty_3) ?_;refine G1 zc3 ?_;refine G1 (zx (i:=x.at_.toNat-1) rfl rfl rfl ya zce yj) ?_;refine G1 (zh rfl rfl zY) ?_;refine G1 (oCl (leads_ok y.l y.h.prev d) rfl fn_119 ⟨yk,yk,yb,trivial⟩) ?_;refine G1 oN ?_;refine qct ?_;refine zaj (d:=58) (p:=zfS y.l y.h.prev d=false) rfl (by show(!(zfS y.l y.h.prev d))=_;cases zfS y.l y.h.prev d<;>rfl) (fun g58=>?_) (fun g58=>?_)
 .
  refine qdN ?_;refine qaY ?_;refine Ct ?_;refine qar ?_;exact zb rfl rfl (za rfl ((zdm hy hc hd (.inr (.inr (.inr (.inl g58))))).symm))
 refine qcJ ?_;refine G1 (oCl (zjO y.l ya) rfl fn_114 yd) ?_;refine G1 (oFp zbA) ?_;refine G1 (oFp zey) ?_;refine G1 (oLb (zbe.comp zbc) zY) ?_;refine qfM ?_;refine qaY ?_;refine zl (p:=¬zc5 y.l=y.h.links) rfl yw (fun ht66=>?_) (fun ht66=>?_)
 .
  refine qar ?_;exact zb rfl rfl (za rfl ((zdm hy hc hd (.inr (.inr (.inr (.inr ht66))))).symm))
 refine qeE ?_;exact zb rfl rfl (za rfl ((zrh hy hc hd (fun h=>h.elim g19 (fun h=>h.elim g25 (fun h=>h.elim (by rw[hel];exact g38) (fun h=>h.elim g58 ht66))))).symm))
theorem cwork_ok (x:CTrial) (h:TrOk x):Tells P 55 [.rptr zf0 x] (.val i64T (zj9 x)):=by
 obtain⟨h1,h2,h3,h4,h5,h6⟩:=h;obtain⟨y,hy⟩:∃y,x.p.p[x.at_.toNat]?=some y:=yr;refine zc Tryz.func55 rfl rfl rfl (fun ext w hext=>?_);refine CQR ?_;refine qaL ?_;refine qaI ?_;refine qcx ?_;refine G0 (oFr zhD zeJ) ?_;refine G0 (oFr za1 zaB) ?_;refine G0 (zh rfl rfl zcy) ?_;refine qcx ?_;refine G0 (oFr zeh zbv) ?_;refine qfp ?_;refine G0 (zx (i:=x.at_.toNat) rfl rfl rfl ya zcu yj) ?_;refine G0 (oFr zbA zbe) ?_;refine qfa ?_;refine G0 (oCl (zlK y.h) rfl fn_120 yb1) ?_;refine G0 oN ?_;refine GK.nil ?_;refine zl (p:=¬zcf y.h=true) rfl (by cases zcf y.h<;>rfl) (fun ht16=>?_) (fun ht16=>?_)
 .
  refine qar ?_;exact zb rfl rfl (za rfl (by unfold zj9 zqx;rw[zh4 hy,ut ht16]))
 refine qeE ?_;exact zb rfl rfl (za rfl (by unfold zj9 zqx;rw[zh4 hy,ur ht16]))
theorem ziD (p:Proof):Tells P 17 [.val zP p] (.val i64T (zac p)):=by
 refine zc Tryz.func17 rfl rfl rfl (fun ext w hext=>?_);refine qae ?_;refine qbT ?_;refine qbX ?_;refine qcZ ?_;refine Sp (d:=12) (p:=p.m<1) (fun g12=>?_) (fun g12=>?_)
 .
  refine qcX ?_;refine qeA ?_;refine Ct ?_;refine qar ?_;exact zb rfl rfl (za rfl (yak))
 refine qeb ?_;refine A1 zcq ?_;refine qai ?_;refine Sp (d:=17) (p:=20<p.m) (fun g17=>?_) (fun g17=>?_)
 .
  refine qcX ?_;refine qat ?_;refine Ct ?_;refine qar ?_;exact zb rfl rfl (za rfl (yak))
 refine qbb ?_;refine qdU ?_;refine Sp (d:=22) (p:=p.k<1) (fun g22=>?_) (fun g22=>?_)
 .
  refine qcA ?_;refine Ct ?_;refine qar ?_;exact zb rfl rfl (za rfl (yak))
 refine qbb ?_;refine qeK ?_;refine Cf (p:=20<p.k) (fun ht26=>?_) (fun ht26=>?_)
 .
  refine qar ?_;exact zb rfl rfl (za rfl (yak))
 refine CSQQR ?_;refine qaD ?_;refine qbM ?_;refine A0 zcq ?_;refine qaz ?_;refine Sp (d:=31) (p:=100<p.p.length) (fun g31=>?_) (fun g31=>?_)
 .
  refine qab ?_;refine qcA ?_;refine Ct ?_;refine qar ?_;exact zb rfl rfl (za rfl (yaK))
 refine qdR ?_;refine A1 (zaC rfl rfl zdc) ?_;refine qbb ?_;refine A1 zfR ?_;refine qat ?_;refine Cf (p:=(p.p.length:Int)<=p.k) (fun ht38=>?_) (fun ht38=>?_)
 .
  refine qar ?_;exact zb rfl rfl (za rfl (yaK))
 obtain⟨a,ha⟩:∃a,p.p[0]?=some a:=yr;have hag:p.p.getD 0 zjk=a:=by simp[ha]
 refine CSQR ?_;refine qaD ?_;refine A0 (zx (i:=0) rfl rfl rfl ya zcu yj) ?_;refine A0 (oFr zbA zbe) ?_;refine qdZ ?_;refine A0 (oCl (zjT a.h.bits) rfl fn_52 yb1) ?_;refine qfG ?_;refine zaj (d:=51) (p:=zaV a.h.bits=false) rfl (by cases zaV a.h.bits<;>rfl) (fun g51=>?_) (fun g51=>?_)
 .
  refine qdN ?_;refine qct ?_;refine qf0 ?_;refine qaY ?_;refine Ct ?_;refine qar ?_;exact zb rfl rfl (za rfl ((by unfold zac;rw[ur ya,ur ya,hag,ut (.inl g51)])))
 refine qbZ ?_;refine G1 (oFr zb3 zcc) ?_;refine G1 (zh rfl rfl zcl) ?_;refine G1 yaC ?_;refine G1 zcq ?_;refine qct ?_;refine zaj (d:=60) (p:=0<a.l.length) rfl yu (fun g60=>?_) (fun g60=>?_)
 .
  refine qf0 ?_;refine qaY ?_;refine Ct ?_;refine qar ?_;exact zb rfl rfl (za rfl ((by unfold zac;rw[ur ya,ur ya,hag,ut (.inr (.inl g60))])))
 refine qbZ ?_;refine qel ?_;refine G1 (oFp zfV) ?_;refine G1 (oFp zcV) ?_;refine G1 (oLb (zdR.comp zaU) zbZ) ?_;refine G1 (zgY rfl rfl rfl (zmd)) ?_;refine qaY ?_;refine zl (p:=¬a.h=(zaq a.h.bits).b.h) rfl yw (fun ht70=>?_) (fun ht70=>?_)
 .
  refine qar ?_;exact zb rfl rfl (za rfl ((by unfold zac;rw[ur ya,ur ya,hag,ut (.inr (.inr ht70))])))
 have hcp:zac p=ze8 p (idsP p) (p.p.length-1) 1:=by unfold zac;rw[ur ya,ur ya,hag,ur (fun h=>h.elim g51 (fun h=>h.elim g60 ht70))]
 have hids:=zu (zs1 p ya);obtain⟨ids,hid⟩:∃ids,ids=idsP p:=⟨_,rfl⟩;rw[<-hid] at hids hcp;have hidl:ids.length=p.p.length:=by rw[hid];unfold idsP;simp
 refine qfE ?_;refine zA [some 1,some 1,some 1,some 1,none,some 1] mixed yc ?_;refine X0 (oLs rfl rfl rfl zaO) ?_;refine X0 (oLs rfl rfl rfl zaO) ?_;refine X0 (oCl (hids) rfl fn_22 yd) ?_;refine X0 (zJ rfl ze_117 bd_117 (.cons zhD zeJ zaO rfl (.cons zwD zmn zcl rfl .nil)) rfl) ?_;refine XK.e (fun fr' hfr kk H=>by exact ztN rfl rfl rfl rfl ((hfr 74 yc).trans rfl) (zD H)) ?_;refine X0 aP ?_;refine qe6 ?_;refine CQQR ?_;refine A0 mP ?_;refine qcL ?_;refine A0 (oFp zeh) ?_;refine zg rfl rfl rfl rfl rfl zbv ty_3 rfl ?_;refine CNB ?_;refine zt (n:=2) (y:=(⟨p,ids,((1:Nat):Int)⟩:CTrial)) rfl rfl ?_;refine Lp (ι:=Nat) 3 (fun i=>(Fr.none.set 1 (.ptr 0 0)).set 5 (.ptr 2 0)) (fun i=>(Hp.none.set 0 (.box 27 zP p)).set 2 (.box 117 zf0 ⟨p,ids,(i:Int)⟩)) (fun i=>1<=i/\i<=p.p.length/\zac p=ze8 p ids (p.p.length-i) i) (fun i=>p.p.length-i) (1) (⟨ug _,by omega,hcp⟩) ?_;intro i hinv;refine CQ ?_;refine qaI ?_;refine qfF ?_;refine G0 (oFp zeh) ?_;refine G0 (oLb zbv ty_3) ?_;refine G0 (oFp za1) ?_;refine G0 (oLb zaB zcy) ?_;refine G0 (zaC rfl rfl zdc) ?_;refine G0 zc4 ?_;refine GK.nil ?_;refine Cf (p:=i<p.p.length) (fun ht86=>?_) (fun ht86=>?_)
 .
  have htr:TrOk ⟨p,ids,(i:Int)⟩:=⟨by show(1:Int)<=i;omega,by show(i:Int)<p.p.length;omega,hidl,by show p.p.length<=100;omega,by show 1<=p.k;omega,by show p.k<=20;omega⟩;refine qeh ?_;refine A0 (zrq (xs:=[_,_,_]) rfl ar_120 ze_120 ⟨rfl,⟨_,rfl,rfl⟩,rfl,⟨_,rfl,rfl⟩,rfl,⟨_,rfl,rfl⟩,trivial⟩ rfl) ?_;refine zj (d:=94) (y:=three) rfl rfl ?_;refine qaF ?_;refine Lp (ι:=Nat) 3 (fun (j:Nat)=>((((Fr.none).set 1 (.ptr 0 0)).set 5 (.ptr 2 0)).set 94 (.val (arrT 3 yl fnoT) three)).set 95 (.val i64T (j:Int))) (fun (j:Nat)=>((Hp.none).set 0 (.box 27 zP p)).set 2 (.box 117 zf0 ⟨p,ids,(i:Int)⟩)) (fun (j:Nat)=>j<=3/\zcU three ⟨p,ids,i⟩=zcU (three.drop j) ⟨p,ids,i⟩) (fun (j:Nat)=>3-j) (0) (⟨by omega,rfl⟩) ?_;intro j hj;refine qap ?_;refine Cf (p:=j<3) (fun ht96=>?_) (fun ht96=>?_)
  .
   obtain⟨e,he⟩:∃e,three[j]?=some e:=⟨_,ub (show j<three.length from ht96)⟩;have hask:e=some 53\/e=some 54\/e=some 55:=by have h:=ud he;unfold three at h;simpa using h
   rcases hask with hk|hk|hk
   .
    refine qfq ?_;refine zj (d:=97) rfl hk ?_;refine zdC (d:=97) (f:=53) rfl ?_;refine A0 aC ?_;refine CNQR ?_;refine A0 mC ?_;refine A0 mP ?_;refine A0 (zfd (As:=[_]) (Cs:=[]) (cprev_ok ⟨p,ids,i⟩ htr) rfl rfl fn_53 yb4 yC trivial rfl) ?_;refine qaw ?_;refine zl (p:=¬askC e ⟨p,ids,i⟩=0) rfl (by simp[askC,hk,IntL.toI]) (fun ht102=>?_) (fun ht102=>?_)
    .
     refine qcq ?_;exact zb rfl rfl (za rfl yau)
    refine qbt ?_;exact Nx (j+1) (⟨by omega,hj.2.trans (zjU he (ua ht102))⟩) ya
   .
    refine qfq ?_;refine zj (d:=97) rfl hk ?_;refine zdC (d:=97) (f:=54) rfl ?_;refine A0 aC ?_;refine CNQR ?_;refine A0 mC ?_;refine A0 mP ?_;refine A0 (zfd (As:=[_]) (Cs:=[]) (clink_ok ⟨p,ids,i⟩ htr) rfl rfl fn_54 yb4 yC trivial rfl) ?_;refine qaw ?_;refine zl (p:=¬askC e ⟨p,ids,i⟩=0) rfl (by simp[askC,hk,IntL.toI]) (fun ht102=>?_) (fun ht102=>?_)
    .
     refine qcq ?_;exact zb rfl rfl (za rfl yau)
    refine qbt ?_;exact Nx (j+1) (⟨by omega,hj.2.trans (zjU he (ua ht102))⟩) ya
   refine qfq ?_;refine zj (d:=97) rfl hk ?_;refine zdC (d:=97) (f:=55) rfl ?_;refine A0 aC ?_;refine CNQR ?_;refine A0 mC ?_;refine A0 mP ?_;refine A0 (zfd (As:=[_]) (Cs:=[]) (cwork_ok ⟨p,ids,i⟩ htr) rfl rfl fn_55 yb4 yC trivial rfl) ?_;refine qaw ?_;refine zl (p:=¬askC e ⟨p,ids,i⟩=0) rfl (by simp[askC,hk,IntL.toI]) (fun ht102=>?_) (fun ht102=>?_)
   .
    refine qcq ?_;exact zb rfl rfl (za rfl yau)
   refine qbt ?_;exact Nx (j+1) (⟨by omega,hj.2.trans (zjU he (ua ht102))⟩) ya
  refine CE ?_;refine CI ?_;refine CR ?_;refine A0 mP ?_;refine qcL ?_;refine A0 (oFp zeh) ?_;refine A0 (oLb zbv ty_3) ?_;refine qfX ?_;refine qcL ?_;refine A0 (oFp zeh) ?_;refine zg rfl rfl rfl rfl rfl zbv ty_3 rfl ?_;refine CN ?_;refine zt (n:=2) (y:=(⟨p,ids,((i+1:Nat):Int)⟩:CTrial)) rfl rfl ?_;exact Nx (i+1) (⟨by omega,by omega,by rw[hinv.2.2];exact zr5 ht86 (hj.2.trans (by rw[List.drop_of_length_le (show three.length<=j by show 3<=j;omega)];rfl))⟩) ya
 refine qcs ?_;exact zb rfl rfl (za rfl (by rw[hinv.2.2,show p.p.length-i=0 by omega];rfl))
theorem fewPr_ok (p:Proof):Tells P 81 [.val zP p] (.val zo (zpi p)):=by
 refine zc Tryz.func81 rfl rfl rfl (fun ext w hext=>?_);refine qae ?_;refine qcz ?_;refine Lp (ι:=Nat) 1 (fun (k:Nat)=>((Fr.none).set 1 (.ptr 0 0)).set 3 (.val i64T (k:Int))) (fun (k:Nat)=>(Hp.none).set 0 (.box 27 zP p)) (fun (k:Nat)=>k<=p.p.length/\(p.p.take k).all (fun x=>decide (x.l.length<=40))=true) (fun (k:Nat)=>p.p.length-k) (0) (⟨uf _,rfl⟩) ?_;intro k hinv;refine qbd ?_;refine qaD ?_;refine ze (d:=6) rfl zk (fun hsl6=>?_);refine qbM ?_;refine qa7 ?_;refine Cf (p:=k<p.p.length) (fun ht8=>?_) (fun ht8=>?_)
 .
  obtain⟨x,hx⟩:∃x,p.p[k]?=some x:=⟨_,ub ht8⟩;refine qeh ?_;refine qaD ?_;refine qaz ?_;refine qd7 ?_;refine A0 (oFr zb3 zcc) ?_;refine A0 (zh rfl rfl zcl) ?_;refine qc5 ?_;refine qc2 ?_;refine Cf (p:=40<x.l.length) (fun ht18=>?_) (fun ht18=>?_)
  .
   refine qar ?_;exact zb rfl rfl (za rfl ((by symm;unfold zpi;rw[Bool.and_eq_false_iff];left;rw[List.all_eq_false];exact⟨x,ud hx,by simp;omega⟩)))
  refine qcG ?_;exact Nx (k+1) (⟨by omega,by rw[un,hx,List.all_append,hinv.2];simp;omega⟩) ya
 refine qaU ?_;refine qaD ?_;refine qbM ?_;refine A0 zfR ?_;refine qad ?_;exact zb rfl rfl (za rfl ((by have h:=hinv.2;rw[uc ya] at h;unfold zpi;rw[h,Bool.true_and,uo];simp only[IntL.toI,id_eq];omega)))
theorem easy_newOf:newOf 545259519=[zdr]:=by unfold newOf;rw[ut zry,zrw];rfl
def zfg:Proof:=⟨1,1,[⟨ziy,[]⟩,⟨zb1.h,[id0]⟩]⟩
theorem zqg (y:Int):∀i:Nat,i<=32->zbt [31,y] 1 1 i=(0,if i=0 then [] else [0])
  | 0,_=>rfl
  | i+1,h=>by
    have ih:=zqg y i ya;have hu:upOf [31,y] 0 ((([31,y]:List Int).length:Int)-1) (31-(i:Int))=[0]:=by
      show upR [31,y] (31-(i:Int)) 0 (0+1)=[0];rw[upR_yes (v:=[31,y]) (n:=31-(i:Int)) (x:=31) (a:=0) (i:=0) rfl (ug _) ya,zvi];rfl
    have e1:(zbt [31,y] 1 1 i).1=0:=by rw[ih]
    have e2:(zbt [31,y] 1 1 i).2=if i=0 then [] else [0]:=by rw[ih]
    show(if _ then _ else _,_)=_;have h0:(if i+1=0 then ([]:List Int) else [0])=[0]:=ur ya;rw[e1,e2,hu,h0,ur yl];by_cases c:i=0<;>simp[c,zd4]
theorem easy_lvs:zcj [zdr,zb1]=[31,zaa zb1.h]:=by
  show [zaa ziy,zaa zb1.h]=_;rw[easy_level]
theorem easy_le1:decide (zaa zb1.h<=31)=true:=yt
theorem easy_mayP:mayP [31,zaa zb1.h] 1 1=true:=by
  have h1:=of_decide_eq_true zuK;have h2:=of_decide_eq_true easy_le1;unfold mayP mayV;generalize zaa zb1.h=y at h1 h2;simp;omega
theorem zuI:zch (zcj [zdr,zb1]) 1 1=([0],true):=by
  unfold zch;rw[easy_lvs,ut easy_mayP,zqg _ 32 (ug _),ur yl];simp[zbE]
theorem easy_prE:prE [zdr,zb1] 1 1=0:=by
  unfold prE;rw[zuL,ur yl,ur yl]
theorem easy_pr:prOf [zdr,zb1] 1 1=zfg:=by
  unfold prOf;rw[ut easy_prE];unfold zeN;rw[zuI];rfl
theorem zuJ:zc5 [id0]=zb1.h.links:=(zvD _).trans easy_lk
theorem easy_check:zac zfg=0:=by
  have ei:idsP zfg=[id0,zaN zb1.h]:=by show [zaN ziy,zaN zb1.h]=_;rw[zrz]
  unfold zac;rw[ur yl,ur yl,ur (by
    rintro (h|h|h)
    . exact absurd (show zaV 545259519=true from zry) (by rw[show zaV 545259519=false from h];decide)
    . exact absurd h yl
    exact h (show ziy=(zaq 545259519).b.h by rw[zrw];rfl)),ei]
  show(if _ then _ else _)=_;have hf:zcU three ⟨zfg,[id0,zaN zb1.h],((1:Nat):Int)⟩=0:=by
    rw[ziv];have e1:zgT ⟨zfg,[id0,zaN zb1.h],((1:Nat):Int)⟩=0:=zku (y:=⟨zb1.h,[id0]⟩) (z:=⟨ziy,[]⟩) (d:=id0) rfl rfl rfl (by
      rintro (h|h|⟨_,h|h⟩)
      . exact absurd h yl
      . exact h rfl
      . exact h rfl
      exact h rfl)
    have e2:zgU ⟨zfg,[id0,zaN zb1.h],((1:Nat):Int)⟩=0:=zrh (y:=⟨zb1.h,[id0]⟩) (c:=id0) (d:=id0) rfl rfl rfl (by
      rintro (h|h|h|h|h)
      . exact absurd h yl
      . exact absurd h yl
      . exact h rfl
      . rw[show zfS [id0] zb1.h.prev id0=true by unfold zfS;rw[ui (show zb1.h.prev=id0 from rfl)];rfl] at h;cases h
      exact h zuJ)
    have e3:zj9 ⟨zfg,[id0,zaN zb1.h],((1:Nat):Int)⟩=0:=by
      unfold zj9 zqx;rw[zh4 (y:=⟨zb1.h,[id0]⟩) rfl,ur (fun h=>h zoA)]
    rw[ur (fun h=>h e1),ur (fun h=>h e2),e3]
  rw[ut hf];rfl
def yAt (p:Proof) (i:Nat):Part:=p.p.getD i zjk
def stepOk (p:Proof) (i:Nat):Prop :=
  zun (yAt p i) (yAt p (i-1)) ((p.p.length:Int)-p.k<=(i:Int)) (zaN (yAt p (i-1)).h)=0/\zrg (yAt p i) (zaN (yAt p 0).h) (zaN (yAt p (i-1)).h)=0/\zqx (yAt p i)=0
def beginOk (a:Part):Prop:=zaV a.h.bits=true/\a.l.length=0/\a.h=(zaq a.h.bits).b.h
structure HoldsP (p:Proof):Prop where
  m1:1<=p.m
  m2:p.m<=20
  k1:1<=p.k
  k2:p.k<=20
  l1:p.k<p.p.length
  l2:p.p.length<=100
  fst:beginOk (yAt p 0)
  steps:∀i,1<=i->i<p.p.length->stepOk p i
theorem linkF_zero {y:Part} {c d:Ab.Id}:zrg y c d=0↔1<=y.l.length/\y.l.length<=32/\y.l.getD 0 zId=c/\zfS y.l y.h.prev d=true/\zc5 y.l=y.h.links:=by
  unfold zrg
  constructor
  . intro h
    have hn:¬(y.l.length=0\/32<y.l.length\/¬y.l.getD 0 zId=c\/zfS y.l y.h.prev d=false\/¬zc5 y.l=y.h.links):=fun c=>by rw[ut c] at h;cases h
    refine⟨Nat.one_le_iff_ne_zero.2 fun e=>hn (.inl e),Nat.not_lt.1 fun e=>hn (.inr (.inl e)),ua fun e=>hn (.inr (.inr (.inl e))),?_,ua fun e=>hn (.inr (.inr (.inr (.inr e))))⟩;cases e:zfS y.l y.h.prev d
    . exact absurd (.inr (.inr (.inr (.inl e)))) hn
    rfl
  rintro ⟨h1,h2,h3,h4,h5⟩
  rw[ur]
  rintro (e|e|e|e|e)
  . omega
  . omega
  . exact e h3
  . rw[h4] at e;cases e
  exact e h5
theorem zjC {p:Proof} {ids:List Ab.Id}:∀(n i:Nat),ze8 p ids n i=0↔∀j,i<=j->j<i+n->zcU three ⟨p,ids,j⟩=0
  | 0,i=>by simp[ze8];intro j h1 h2;omega
  | n+1,i=>by
    show(if zcU three ⟨p,ids,i⟩=0 then ze8 p ids n (i+1) else zcU three ⟨p,ids,i⟩)=0↔_;by_cases c:zcU three ⟨p,ids,i⟩=0
    . rw[ut c,zjC n (i+1)]
      constructor
      . intro h j h1 h2
        by_cases e:j=i
        . rw[e];exact c
        exact h j ya ya
      intro h j h1 h2;exact h j ya ya
    rw[ur c];exact⟨fun h=>absurd h c,fun h=>h i (ug _) ya⟩
theorem zob (p:Proof) {i:Nat} (h:i<p.p.length):(idsP p)[i]?=some (zaN (yAt p i).h):=by
  unfold idsP yAt;rw[List.getElem?_map,ub h];simp[h]
theorem at_ (p:Proof) {i:Nat} (h:i<p.p.length):p.p[i]?=some (yAt p i):=by unfold yAt;rw[ub h];simp[h]
theorem zp4 (p:Proof) {i:Nat} (h1:1<=i) (h:i<p.p.length):zcU three ⟨p,idsP p,(i:Int)⟩=0↔stepOk p i:=by
  rw[ziv];have e1:zgT ⟨p,idsP p,(i:Int)⟩=zun (yAt p i) (yAt p (i-1)) ((p.p.length:Int)-p.k<=(i:Int)) (zaN (yAt p (i-1)).h):=by
    unfold zgT;rw[zh4 (y:=yAt p i) (at_ p h),zOf_at (y:=yAt p (i-1)) (at_ p (i:=i-1) ya),zqa (zob p (i:=i-1) ya)]
  have e2:zgU ⟨p,idsP p,(i:Int)⟩=zrg (yAt p i) (zaN (yAt p 0).h) (zaN (yAt p (i-1)).h):=by
    unfold zgU;rw[zh4 (y:=yAt p i) (at_ p h),cOf_at (zob p (i:=0) ya),zqa (zob p (i:=i-1) ya)]
  have e3:zj9 ⟨p,idsP p,(i:Int)⟩=zqx (yAt p i):=by
    unfold zj9;rw[zh4 (y:=yAt p i) (at_ p h)]
  rw[e1,e2,e3];unfold stepOk;generalize zun (yAt p i) (yAt p (i-1)) ((p.p.length:Int)-p.k<=(i:Int)) (zaN (yAt p (i-1)).h)=a;generalize zrg (yAt p i) (zaN (yAt p 0).h) (zaN (yAt p (i-1)).h)=b;by_cases ha:a=0
  . by_cases hb:b=0
    . simp[ha,hb]
    simp[ha,hb]
  simp[ha]
theorem zmj {p:Proof}:zac p=0↔HoldsP p:=by
  have ey:p.p.getD 0 zjk=yAt p 0:=rfl;unfold zac;rw[ey]
  constructor
  . intro h
    by_cases c1:p.m<1\/20<p.m\/p.k<1\/20<p.k
    . rw[ut c1] at h;cases h
    rw[ur c1] at h;by_cases c2:100<p.p.length\/(p.p.length:Int)<=p.k
    . rw[ut c2] at h;cases h
    rw[ur c2] at h;by_cases c3:zaV (yAt p 0).h.bits=false\/0<(yAt p 0).l.length\/¬(yAt p 0).h=(zaq (yAt p 0).h.bits).b.h
    . rw[ut c3] at h;cases h
    rw[ur c3,zjC] at h;refine⟨by omega,by omega,by omega,by omega,by omega,by omega,⟨?_,by omega,ua fun e=>c3 (.inr (.inr e))⟩,fun i h1 h2=>(zp4 p h1 h2).1 (h i h1 ya)⟩;cases e:zaV (yAt p 0).h.bits
    . exact absurd (.inl e) c3
    rfl
  intro h
  have:=h.m1;have:=h.m2;have:=h.k1;have:=h.k2;have:=h.l1;have:=h.l2
  rw[ur ya,ur ya,ur (by
    rintro (e|e|e)
    . rw[h.fst.1] at e;cases e
    . have:=h.fst.2.1;omega
    exact e h.fst.2.2),zjC]
  exact fun i h1 h2=>(zp4 p h1 ya).2 (h.steps i h1 ya)
theorem fewPr_len {p:Proof} (h:zpi p=true):p.p.length<=110:=by
  unfold zpi at h;rw[uk,uj] at h;exact h.2
theorem zuE {p:Proof} (h:zpi p=true) {x:Part} (hx:x∈p.p):x.l.length<=40:=by
  unfold zpi at h;rw[uk] at h;exact of_decide_eq_true (all_eq_true.1 h.1 x hx)
theorem zsd (p:Proof):zdQ zP p [.val i64T p.m,.val i64T p.k,.val (sl zaK) p.p]:=zkf (zaY zaZ (zaY zaZ zaZ))
theorem two_ok:Tells P 46 [] (.val (sl zaz) [zdr,zb1]):=by
 refine zc Tryz.func46 rfl rfl rfl (fun ext w hext=>?_);refine qbQ ?_;refine A0 (oCl (newC_ok 545259519) rfl fn_104 yd) ?_;refine A0 mX ?_;refine qbO ?_;refine zj (d:=7) (y:=[zdr]) rfl easy_newOf ?_;refine qcg ?_;refine qfx ?_;refine A0 (oCl (zbi (growC_ok [zdr] [] 0 zsh ⟨by decide,fun t ht=>by cases ht⟩)) rfl fn_105 ⟨yk,yb,yk,trivial⟩) ?_;refine A0 mX ?_;refine qbO ?_;refine zj (d:=12) (y:=[zdr,zb1]) rfl easy_grown ?_;refine qcg ?_;refine qfx ?_;refine qad ?_;exact zb rfl rfl (za rfl (rfl))
theorem ziN {x:CTrial}:zcU three x=if ¬decide (zgT x=0)=true then zgT x else if ¬decide (zgU x=0)=true then zgU x else zj9 x:=by
  rw[ziv];simp only[uj]
theorem prevC_or (x:CTrial):zgT x=0\/zgT x=5:=by unfold zgT zun;split<;>simp
theorem linkC_or (x:CTrial):zgU x=0\/zgU x=6:=by unfold zgU zrg;split<;>simp
theorem zig (p:Proof) (hl:p.p.length<=1000000000000):Tells P 257 [.val zP p] (.fresh 49 idT (idsP p)):=by
 refine zc Tryz.func257 rfl rfl rfl (fun ext w hext=>?_);refine qbN ?_;refine qfI ?_;refine qa4 ?_;refine qfL ?_;refine Lp (ι:=Nat) 2 (fun (k:Nat)=>(((Fr.none).set 1 (.ptr 0 0)).set 3 (.own 1)).set 4 (.val i64T (k:Int))) (fun (k:Nat)=>((Hp.none).set 0 (.box 27 zP p)).set 1 (.row 49 idT ((p.p.take k).map fun x=>zaN x.h))) (fun (k:Nat)=>k<=p.p.length) (fun (k:Nat)=>p.p.length-k) (0) (uf _) ?_;intro k hinv;refine qf4 ?_;refine Cf (p:=k<p.p.length) (fun ht9=>?_) (fun ht9=>?_)
 .
  obtain⟨x,hx⟩:∃x,p.p[k]?=some x:=yaN;refine qaS ?_;refine qcU ?_;refine qaD ?_;refine qaz ?_;refine A0 (zx (i:=k) rfl rfl rfl ya zcu yj) ?_;refine qdq ?_;refine A0 (oCl (zlC x.h) rfl fn_303 yb1) ?_;refine qaJ ?_;refine qan ?_;refine qc7 ?_;refine zq (n:=1) (y:=(p.p.take (k+1)).map fun x=>zaN x.h) rfl ybo ?_;exact Nx (k+1) ya ya
 refine qa8 ?_;exact zb rfl rfl (zf rfl rfl ybV)
theorem zl3 (p:Proof) (hl:p.p.length<=1000000000000):Tells P 307 [.val zP p] (.fresh 3 i64T (zfc p)):=by
 refine zc Tryz.func307 rfl rfl rfl (fun ext w hext=>?_);refine qbN ?_;refine qfI ?_;refine qa4 ?_;refine za7 (T:=i64T) (d:=3) 3 rfl ?_;refine Lp (ι:=Nat) 2 (fun (k:Nat)=>(((Fr.none).set 1 (.ptr 0 0)).set 3 (.own 1)).set 4 (.val i64T (k:Int))) (fun (k:Nat)=>((Hp.none).set 0 (.box 27 zP p)).set 1 (.row 3 i64T ((p.p.take k).map fun x=>zaa x.h))) (fun (k:Nat)=>k<=p.p.length) (fun (k:Nat)=>p.p.length-k) (0) (uf _) ?_;intro k hinv;refine qf4 ?_;refine Cf (p:=k<p.p.length) (fun ht9=>?_) (fun ht9=>?_)
 .
  obtain⟨x,hx⟩:∃x,p.p[k]?=some x:=yaN;refine qaS ?_;refine qcU ?_;refine qaD ?_;refine qaz ?_;refine A0 (zx (i:=k) rfl rfl rfl ya zcu yj) ?_;refine qdq ?_;refine A0 (oCl (zks x.h) rfl fn_305 yb1) ?_;refine qcH ?_;refine qeU ?_;refine qc7 ?_;refine zq (n:=1) (y:=(p.p.take (k+1)).map fun x=>zaa x.h) rfl ybo ?_;exact Nx (k+1) ya ya
 refine qa8 ?_;exact zb rfl rfl (zf rfl rfl ybV)
theorem rleads_ok (l:List Ab.Id) (prev id:Ab.Id):Tells P 304 [.val (bsl idT) l,.val idT prev,.val idT id] (.val zo (zfS l prev id)):=by
 refine zc Tryz.func304 rfl rfl rfl (fun ext w hext=>?_);refine ze (d:=0) rfl zk (fun hsl0=>?_);refine qav ?_;refine qcz ?_;refine Lp (ι:=Nat) 2 (fun (k:Nat)=>((((Fr.none).set 0 (.val (bsl idT) l)).set 4 (.ptr 0 0)).set 5 (.ptr 1 0)).set 7 (.val i64T (k:Int))) (fun (k:Nat)=>((Hp.none).set 0 (.box 49 idT prev)).set 1 (.box 49 idT id)) (fun (k:Nat)=>k<=l.length/\((l.take k).any fun x=>decide (id=x))=false) (fun (k:Nat)=>l.length-k) (0) (⟨uf _,rfl⟩) ?_;intro k hinv;refine qb6 ?_;refine qbj ?_;refine qa7 ?_;refine Cf (p:=k<l.length) (fun ht11=>?_) (fun ht11=>?_)
 .
  obtain⟨x,hx⟩:∃x,l[k]?=some x:=ybv;refine qff ?_;refine qbl ?_;refine G0 (zx (i:=k) rfl rfl rfl ya zce yj) ?_;refine qe2 ?_;refine GK.nil ?_;refine zl (p:=x=id) rfl yw (fun ht19=>?_) (fun ht19=>?_)
  .
   refine qar ?_;exact zb rfl rfl (za rfl ((by symm;unfold zfS;rw[Bool.or_eq_true];right;rw[List.any_eq_true];exact⟨x,ud hx,ui ht19.symm⟩)))
  refine qcG ?_;exact Nx (k+1) (⟨by omega,by rw[un,hx,List.any_append,hinv.2];simpa using fun c=>ht19 c.symm⟩) ya
 refine qaU ?_;refine qfP ?_;refine qad ?_;exact zb rfl rfl (za rfl ((by have h:=hinv.2;rw[uc ya] at h;unfold zfS;rw[h,Bool.or_false])))
theorem r18prev_ok (x:CTrial) (h:TrOk x):Tells P 258 [.val zP x.p,.val (bsl idT) x.ids,.val i64T x.at_] (.val zo (decide (zgT x=0))):=by
 obtain⟨h1,h2,h3,h4,h5,h6⟩:=h;obtain⟨y,hy⟩:∃y,x.p.p[x.at_.toNat]?=some y:=yr;obtain⟨z,hz⟩:∃z,x.p.p[x.at_.toNat-1]?=some z:=yr;obtain⟨d,hd⟩:∃d,x.ids[x.at_.toNat-1]?=some d:=yr;refine zc Tryz.func258 rfl rfl rfl (fun ext w hext=>?_);refine ze (d:=1) rfl zk (fun hsl1=>?_);refine ze (d:=2) rfl zz (fun hin2=>?_);refine qe9 ?_;refine qaD ?_;refine qaz ?_;refine A0 (zx (i:=x.at_.toNat) rfl rfl rfl ya zcu yj) ?_;refine qdq ?_;refine qce ?_;refine qaK ?_;refine CNQR ?_;refine qaD ?_;refine qcn ?_;refine A0 (zx (i:=x.at_.toNat-1) rfl rfl rfl ya zcu yj) ?_;refine qdq ?_;refine qce ?_;refine qaK ?_;refine CNQQR ?_;refine qb7 ?_;refine qb7 ?_;refine A0 zfR ?_;refine qaz ?_;refine Sp (d:=27) (p:=y.h.height<=z.h.height) (fun g27=>?_) (fun g27=>?_)
 .
  refine qab ?_;refine qdg ?_;refine Ct ?_;refine qar ?_;exact zb rfl rfl (za rfl ((uh (by rw[zeX hy hz hd (.inl g27)];decide)).symm))
 refine A1 (oFp zdg) ?_;refine A1 (oLb zaX zbC) ?_;refine A1 (oFp zdg) ?_;refine A1 (oLb zaX zbC) ?_;refine A1 zd1 ?_;refine qat ?_;refine zl (p:=¬y.h.bits=z.h.bits) rfl (by simp[toI_u32]) (fun ht33=>?_) (fun ht33=>?_)
 .
  refine qar ?_;exact zb rfl rfl (za rfl ((uh (by rw[zeX hy hz hd (.inr (.inl ht33))];decide)).symm))
 refine CS ?_;refine qdO ?_;refine G0 (oFp za1) ?_;refine G0 (oLb zaB zcy) ?_;refine G0 (zaC rfl rfl zdc) ?_;refine G0 (oFp zdJ) ?_;refine G0 (oLb zdu ty_3) ?_;refine G0 zc3 ?_;refine G0 zc4 ?_;refine G0 mV ?_;refine zaj (d:=42) (p:=x.at_<(x.p.p.length:Int)-x.p.k) rfl yu (fun g42=>?_) (fun g42=>?_)
 .
  refine qdN ?_;refine qeD ?_;refine G3 ?_;refine G3 ?_;refine G3 ?_;refine G2 ?_;refine G0 oK ?_;refine qaM ?_;exact zb rfl rfl (za rfl ((ui (zku hy hz hd (fun h=>h.elim g27 (fun h=>h.elim ht33 (fun h=>by have:=h.1;omega))))).symm))
 refine qeC ?_;refine qeC ?_;refine G1 zhZ ?_;refine G1 zd7 ?_;refine G1 mV ?_;refine zaj (d:=49) (p:=y.h.height=IntKind.i64.wrap (z.h.height+1)) rfl yx (fun g49=>?_) (fun g49=>?_)
 .
  refine G1 (oFp zez) ?_;refine G1 (oLb zbB zY) ?_;refine qfz ?_;refine G1 zc3 ?_;refine G1 (zx (i:=x.at_.toNat-1) rfl rfl rfl ya zce yj) ?_;refine G1 (zh rfl rfl zY) ?_;refine G1 (zgZ rfl rfl rfl (zix)) ?_;refine G1 oK ?_;refine G0 oK ?_;refine qaM ?_;exact zb rfl rfl (za rfl ((by rw[uo];exact⟨fun e=>zku hy hz hd (fun h=>h.elim g27 (fun h=>h.elim ht33 (fun h=>h.2.elim (fun c=>c g49) (fun c=>c e)))),fun e=>Classical.byContradiction fun c=>by rw[zeX hy hz hd (.inr (.inr ⟨by omega,.inr c⟩))] at e;cases e⟩)))
 refine qdN ?_;refine G2 ?_;refine G1 oK ?_;refine G0 oK ?_;refine qaM ?_;exact zb rfl rfl (za rfl ((uh (by rw[zeX hy hz hd (.inr (.inr ⟨by omega,.inl g49⟩))];decide)).symm))
theorem zul (x:CTrial) (h:TrOk x):Tells P 259 [.val zP x.p,.val (bsl idT) x.ids,.val i64T x.at_] (.val zo (decide (zgU x=0))):=by
 obtain⟨h1,h2,h3,h4,h5,h6⟩:=h;obtain⟨y,hy⟩:∃y,x.p.p[x.at_.toNat]?=some y:=yr;obtain⟨d,hd⟩:∃d,x.ids[x.at_.toNat-1]?=some d:=yr;obtain⟨c,hc⟩:∃c,x.ids[0]?=some c:=yr;refine zc Tryz.func259 rfl rfl rfl (fun ext w hext=>?_);refine ze (d:=1) rfl zk (fun hsl1=>?_);refine ze (d:=2) rfl zz (fun hin2=>?_);refine qe9 ?_;refine qaD ?_;refine qaz ?_;refine A0 (zx (i:=x.at_.toNat) rfl rfl rfl ya zcu yj) ?_;refine qbn ?_;refine CNQ ?_;refine qfC ?_;refine G0 (zaC rfl rfl zdn) ?_;refine G0 zcq ?_;refine G0 mV ?_;refine zaj (d:=18) (p:=32<y.l.length) rfl yu (fun g18=>?_) (fun g18=>?_)
 .
  refine qaP ?_;refine G2 ?_;refine qct ?_;refine qdN ?_;refine G2 ?_;refine qaY ?_;refine Ct ?_;refine qar ?_;exact zb rfl rfl (za rfl ((uh (by rw[zdm hy hc hd (.inr (.inl g18))];decide)).symm))
 refine qcJ ?_;refine G1 (zaC rfl rfl zdn) ?_;refine G1 zc4 ?_;refine qct ?_;refine zaj (d:=24) (p:=y.l.length<1) rfl yu (fun g24=>?_) (fun g24=>?_)
 .
  refine qdN ?_;refine G2 ?_;refine qaY ?_;refine Ct ?_;refine qar ?_;exact zb rfl rfl (za rfl ((uh (by rw[zdm hy hc hd (.inl ya)];decide)).symm))
 obtain⟨e,he⟩:∃e,y.l[0]?=some e:=yr;have hel:y.l.getD 0 zId=e:=by simp[he]
 refine qcJ ?_;refine qb0 ?_;refine G1 mV ?_;refine qb0 ?_;refine qfM ?_;refine qaY ?_;refine zl (p:=¬e=c) rfl yw (fun ht33=>?_) (fun ht33=>?_)
 .
  refine qar ?_;exact zb rfl rfl (za rfl ((uh (by rw[zdm hy hc hd (.inr (.inr (.inl (by rw[hel];exact ht33))))];decide)).symm))
 refine CS ?_;refine qfC ?_;refine G0 (oFp zbA) ?_;refine G0 (oFp zez) ?_;refine G0 (oLb (zbe.comp zbB) zY) ?_;refine qbl ?_;refine G0 zc3 ?_;refine G0 (zx (i:=x.at_.toNat-1) rfl rfl rfl ya zce yj) ?_;refine qcE ?_;refine G0 (oCl (rleads_ok y.l y.h.prev d) rfl fn_304 ⟨yk,yk,yb,trivial⟩) ?_;refine qaM ?_;refine qaI ?_;refine qbl ?_;refine zaj (d:=46) (p:=zfS y.l y.h.prev d=true) rfl yw (fun g46=>?_) (fun g46=>?_)
 .
  refine G1 (oFp zbA) ?_;refine G1 (oFp zey) ?_;refine G1 (oLb (zbe.comp zbc) zY) ?_;refine qcJ ?_;refine G1 (oCl (zl2 y.l ya) rfl fn_298 yd) ?_;refine G1 (zgZ rfl rfl rfl (zix)) ?_;refine G0 oK ?_;refine qaM ?_;exact zb rfl rfl (za rfl ((by rw[uo];exact⟨fun e1=>zrh hy hc hd (fun h=>h.elim (fun c=>by omega) (fun h=>h.elim (fun c=>by omega) (fun h=>h.elim (fun c=>by rw[hel] at c;exact ht33 c) (fun h=>h.elim (fun c=>by rw[g46] at c;cases c) (fun c=>c e1.symm))))),fun e1=>Classical.byContradiction fun c=>by rw[zdm hy hc hd (.inr (.inr (.inr (.inr (fun c2=>c c2.symm)))))] at e1;cases e1⟩)))
 refine qdN ?_;refine G0 oK ?_;refine qaM ?_;exact zb rfl rfl (za rfl ((uh (by rw[zdm hy hc hd (.inr (.inr (.inr (.inl (by simpa using g46)))))];decide)).symm))
theorem zgS (p:Proof):Tells P 200 [.val zP p] (.val i64T (zac p)):=by
 refine zc Tryz.func200 rfl rfl rfl (fun ext w hext=>?_);refine qae ?_;refine qbT ?_;refine qbX ?_;refine qcZ ?_;refine Sp (d:=13) (p:=p.m<1) (fun g13=>?_) (fun g13=>?_)
 .
  refine qcX ?_;refine qeA ?_;refine Ct ?_;refine qar ?_;exact zb rfl rfl (za rfl (yak))
 refine qeb ?_;refine A1 zcq ?_;refine qai ?_;refine Sp (d:=18) (p:=20<p.m) (fun g18=>?_) (fun g18=>?_)
 .
  refine qcX ?_;refine qat ?_;refine Ct ?_;refine qar ?_;exact zb rfl rfl (za rfl (yak))
 refine qbb ?_;refine qdU ?_;refine Sp (d:=23) (p:=p.k<1) (fun g23=>?_) (fun g23=>?_)
 .
  refine qcA ?_;refine Ct ?_;refine qar ?_;exact zb rfl rfl (za rfl (yak))
 refine qbb ?_;refine qeK ?_;refine Cf (p:=20<p.k) (fun ht27=>?_) (fun ht27=>?_)
 .
  refine qar ?_;exact zb rfl rfl (za rfl (yak))
 refine CSQQR ?_;refine qaD ?_;refine qbM ?_;refine A0 zcq ?_;refine qaz ?_;refine Sp (d:=32) (p:=100<p.p.length) (fun g32=>?_) (fun g32=>?_)
 .
  refine qab ?_;refine qcA ?_;refine Ct ?_;refine qar ?_;exact zb rfl rfl (za rfl (yaK))
 refine qdR ?_;refine A1 (zaC rfl rfl zdc) ?_;refine qbb ?_;refine A1 zfR ?_;refine qat ?_;refine Cf (p:=(p.p.length:Int)<=p.k) (fun ht39=>?_) (fun ht39=>?_)
 .
  refine qar ?_;exact zb rfl rfl (za rfl (yaK))
 obtain⟨a,ha⟩:∃a,p.p[0]?=some a:=yr;have hag:p.p.getD 0 zjk=a:=by simp[ha]
 refine CSQR ?_;refine qaD ?_;refine A0 (zx (i:=0) rfl rfl rfl ya zcu yj) ?_;refine A0 (oFr zbA zbe) ?_;refine qdZ ?_;refine A0 (oCl (zsz a.h.bits) rfl fn_256 yb1) ?_;refine qfG ?_;refine zaj (d:=52) (p:=zaV a.h.bits=false) rfl (by cases zaV a.h.bits<;>rfl) (fun g52=>?_) (fun g52=>?_)
 .
  refine qdN ?_;refine qct ?_;refine qf0 ?_;refine qaY ?_;refine Ct ?_;refine qar ?_;exact zb rfl rfl (za rfl ((by unfold zac;rw[ur ya,ur ya,hag,ut (.inl g52)])))
 refine qbZ ?_;refine G1 (oFr zb3 zcc) ?_;refine G1 (zh rfl rfl zcl) ?_;refine G1 yaC ?_;refine G1 zcq ?_;refine qct ?_;refine zaj (d:=61) (p:=0<a.l.length) rfl yu (fun g61=>?_) (fun g61=>?_)
 .
  refine qf0 ?_;refine qaY ?_;refine Ct ?_;refine qar ?_;exact zb rfl rfl (za rfl ((by unfold zac;rw[ur ya,ur ya,hag,ut (.inr (.inl g61))])))
 refine qbZ ?_;refine qel ?_;refine G1 (oFp zfV) ?_;refine G1 (oFp zcV) ?_;refine G1 (oLb (zdR.comp zaU) zbZ) ?_;refine G1 (zgY rfl rfl rfl (zmd)) ?_;refine qaY ?_;refine zl (p:=¬a.h=(zaq a.h.bits).b.h) rfl yw (fun ht71=>?_) (fun ht71=>?_)
 .
  refine qar ?_;exact zb rfl rfl (za rfl ((by unfold zac;rw[ur ya,ur ya,hag,ut (.inr (.inr ht71))])))
 have hcp:zac p=ze8 p (idsP p) (p.p.length-1) 1:=by unfold zac;rw[ur ya,ur ya,hag,ur (fun h=>h.elim g52 (fun h=>h.elim g61 ht71))]
 have hids:=zu (zig p ya);obtain⟨ids,hid⟩:∃ids,ids=idsP p:=⟨_,rfl⟩;rw[<-hid] at hids hcp;have hidl:ids.length=p.p.length:=by rw[hid];unfold idsP;simp
 refine qeM ?_;refine A0 (oCl (hids) rfl ztc yd) ?_;refine qcz ?_;refine Lp (ι:=Nat) 2 (fun (i:Nat)=>(((Fr.none).set 1 (.ptr 0 0)).set 5 (.val (sl idT) ids)).set 6 (.val i64T (i:Int))) (fun (i:Nat)=>(Hp.none).set 0 (.box 27 zP p)) (fun (i:Nat)=>1<=i/\i<=p.p.length/\zac p=ze8 p ids (p.p.length-i) i) (fun (i:Nat)=>p.p.length-i) (1) (⟨ug _,by omega,hcp⟩) ?_;intro i hinv;refine qf4 ?_;refine Cf (p:=i<p.p.length) (fun ht78=>?_) (fun ht78=>?_)
 .
  have htr:TrOk ⟨p,ids,(i:Int)⟩:=⟨by show(1:Int)<=i;omega,by show(i:Int)<p.p.length;omega,hidl,by show p.p.length<=100;omega,by show 1<=p.k;omega,by show p.k<=20;omega⟩;obtain⟨y,hy⟩:∃y,p.p[i]?=some y:=⟨_,ub ht78⟩;have hwk:zj9 ⟨p,ids,(i:Int)⟩=zqx y:=by unfold zj9;rw[zh4 (y:=y) hy]
  refine qeh ?_;refine qa9 ?_;refine qal ?_;refine A0 (oCl (r18prev_ok ⟨p,ids,i⟩ htr) rfl fn_258 yL) ?_;refine qeV ?_;refine qal ?_;refine A0 (oCl (zul ⟨p,ids,i⟩ htr) rfl fn_259 yL) ?_;refine qaj ?_;refine qaD ?_;refine qaz ?_;refine xB ?_;refine qdq ?_;refine A0 (oCl (zug y.h) rfl fn_260 yb1) ?_;refine qfg ?_;refine zl (p:=¬decide (zgT ⟨p,ids,(i:Int)⟩=0)=true) rfl yw (fun ht97=>?_) (fun ht97=>?_)
  .
   refine qar ?_;exact zb rfl rfl (za rfl (by have e:zcU three ⟨p,ids,(i:Int)⟩=5:=(by rw[ziN,ut ht97];exact(prevC_or _).resolve_left (by simpa using ht97));rw[hinv.2.2,zes ht78 (by rw[e];decide),e]))
  refine qcb ?_;refine qaT ?_;refine zl (p:=¬decide (zgU ⟨p,ids,(i:Int)⟩=0)=true) rfl yw (fun ht99=>?_) (fun ht99=>?_)
  .
   refine qar ?_;exact zb rfl rfl (za rfl (by have e:zcU three ⟨p,ids,(i:Int)⟩=6:=(by rw[ziN,ur ht97,ut ht99];exact(linkC_or _).resolve_left (by simpa using ht99));rw[hinv.2.2,zes ht78 (by rw[e];decide),e]))
  refine qbY ?_;refine qaT ?_;refine zl (p:=¬zcf y.h=true) rfl yw (fun ht101=>?_) (fun ht101=>?_)
  .
   refine qar ?_;exact zb rfl rfl (za rfl (by have e:zcU three ⟨p,ids,(i:Int)⟩=4:=(by rw[ziN,ur ht97,ur ht99,hwk];unfold zqx;rw[ut ht101]);rw[hinv.2.2,zes ht78 (by rw[e];decide),e]))
  refine qcG ?_;exact Nx (i+1) (⟨by omega,by omega,by rw[hinv.2.2];exact zr5 ht78 (by rw[ziN,ur ht97,ur ht99,hwk];unfold zqx;rw[ur ht101])⟩) ya
 refine qcs ?_;exact zb rfl rfl (za rfl (by rw[hinv.2.2,show p.p.length-i=0 by omega];rfl))
theorem zwM (n:UInt64) {k:Nat} (hk:k<=64):(zaF (IntL.toI u64T (zax n k))).toNat=n.toNat/2^k%256:=by
  unfold zaF;show(UInt8.ofNat ((((zax n k).toNat:Nat):Int)%256).toNat).toNat=_;rw[zdi n hk,UInt8.toNat_ofNat_of_lt' ybx];omega
theorem zkE (n:UInt64) (s:Nat):zB n (s+1)=zaF (IntL.toI u64T (zax n (8*s)))::zB n s:=by
  unfold zB;rw[List.range_succ_eq_map,map_cons,map_map];have e1:s+1-1-0=s:=ya;rw[e1];congr 1;apply map_congr_left;intro j _;show zaF (IntL.toI u64T (zax n (8*(s+1-1-(j+1)))))=_;rw[show s+1-1-(j+1)=s-1-j by omega]
theorem zl6 {n m:UInt64}:∀s:Nat,s<=8->zB n s=zB m s->n.toNat%2^(8*s)=m.toNat%2^(8*s)
  | 0,_,_=>by simp[Nat.mod_one]
  | s+1,hs,h=>by
    rw[zkE,zkE] at h;injection h with h1 h2;have ih:=zl6 s ya h2;have h1:=congrArg UInt8.toNat h1;rw[zwM n ya,zwM m ya] at h1;rw[Nat.mul_add,Nat.pow_add,Nat.mod_mul,Nat.mod_mul (x:=m.toNat),ih,show 2^(8*1)=256 from rfl,h1]
theorem zgh {n m:UInt64} (h:zB n 8=zB m 8):n=m:=by
  have h1:=zl6 8 (ug _) h;have hn:n.toNat<18446744073709551616:=n.toNat_lt;have hm:m.toNat<18446744073709551616:=m.toNat_lt;rw[show(2:Nat)^(8*8)=18446744073709551616 from rfl,Nat.mod_eq_of_lt hn,Nat.mod_eq_of_lt hm] at h1;exact toNat_inj.1 h1
theorem zj1 (a b c d:UInt64):zeq [a,b,c,d]=zB d 8++(zB c 8++(zB b 8++zB a 8)):=by rfl
theorem bytesW_inj {a b:Wide} (ha:a.length=4) (hb:b.length=4) (h:zeq a=zeq b):a=b:=by
  match a,ha with
  | [a0,a1,a2,a3],_=>match b,hb with
    | [b0,b1,b2,b3],_ =>
      rw[zj1,zj1] at h;obtain⟨h3,h⟩:=append_inj h (by rw[zF,zF]);obtain⟨h2,h⟩:=append_inj h (by rw[zF,zF]);obtain⟨h1,h0⟩:=append_inj h (by rw[zF,zF]);rw[zgh h0,zgh h1,zgh h2,zgh h3]
def HW (h:Head):Prop:=h.prev.length=32/\h.links.length=32/\h.txs.length=32/\h.past.length=32/\h.work.length=4
theorem zc0 {n:Int} (h0:0<=n) (h1:n<4294967296):(zK n).toNat=n.toNat:=by
  unfold zK;rw[UInt64.toNat_ofNat_of_lt' yQ];omega
theorem hOk_iff {h:Head}:hOk h=true↔0<=h.height/\h.height<=1048576:=by unfold hOk;rw[uj]
structure BuildOk (l:List Block) (m k:Int):Prop where
  c:(zav l).2=0
  m1:1<=m
  m2:m<=20
  k1:1<=k
  k2:k<=20
  kl:k<l.length
section
variable {l:List Block} {m k:Int}
end
set_option maxRecDepth 20000
def swpI {α:Type} [Inhabited α] (l:List α) (k:Nat):List α:=(List.range l.length).map fun j=>if j<k\/l.length-k<=j then l.getD (l.length-1-j) default else l.getD j default
theorem zhj {α:Type} [Inhabited α] {l:List α} {k:Nat}:(swpI l k).length=l.length:=by unfold swpI;simp
theorem zls {α:Type} [Inhabited α] {l:List α} {k j:Nat} (h:j<l.length):(swpI l k)[j]?=some (if j<k\/l.length-k<=j then l.getD (l.length-1-j) default else l.getD j default):=by
  unfold swpI;rw[List.getElem?_map,List.getElem?_range h];rfl
theorem swpI_zero {α:Type} [Inhabited α] {l:List α}:swpI l 0=l:=by
  apply ext_getElem?;intro j;by_cases h:j<l.length
  . rw[zls h,ur ya,uq,ub h];rfl
  rw[List.getElem?_eq_none (by rw[zhj];omega),List.getElem?_eq_none ya]
theorem swpI_step {α:Type} [Inhabited α] {l:List α} {k:Nat} {x y:α} (hk:2*(k+1)<=l.length) (hx:(swpI l k)[k]?=some x) (hy:(swpI l k)[l.length-1-k]?=some y):((swpI l k).set k y).set (l.length-1-k) x=swpI l (k+1):=by
  rw[zls ya,ur ya] at hx;rw[zls ya,ur ya] at hy;injection hx with hx;injection hy with hy;apply ext_getElem?;intro j;by_cases h:j<l.length
  . rw[zls h,List.getElem?_set]
    by_cases c:l.length-1-k=j
    . rw[ut c,ut (by rw[length_set,zhj];omega),ut ya,<-hx]
      congr 2;omega
    rw[ur c,List.getElem?_set];by_cases d:k=j
    . rw[ut d,ut (by rw[zhj];omega),ut ya,<-hy]
      congr 2;omega
    rw[ur d,zls h];by_cases e:j<k\/l.length-k<=j
    . rw[ut e,ut ya]
    rw[ur e,ur ya]
  rw[List.getElem?_eq_none (by rw[length_set,length_set,zhj];omega),List.getElem?_eq_none (by rw[zhj];omega)]
theorem swpI_end {α:Type} [Inhabited α] {l:List α} {k:Nat} (h1:2*k<=l.length) (h2:¬(k:Int)<(l.length:Int)-1-k):swpI l k=l.reverse:=by
  apply ext_getElem?;intro j;by_cases h:j<l.length
  . rw[zls h,List.getElem?_reverse h,ub ya]
    congr 1
    split
    . rw[uq,ub ya];rfl
    have e:j=l.length-1-j:=ya;rw[uq,ub ya];show l[j]=_;congr 1
  rw[List.getElem?_eq_none (by rw[zhj];omega),List.getElem?_eq_none (by rw[List.length_reverse];omega)]
theorem revInt (l:List Int) (hl:l.length<=1000000000000):zfp P 158 (.row 3 i64T l) [.own 0] (.lit (.tuple #[])) (.row 3 i64T l.reverse):=by
 refine zg1 trivial Tryz.func158 rfl rfl ⟨Nat.one_pos,trivial⟩ (fun ext pg w hext hgr=>?_);refine zlV (n:=0) rfl (fun hrl=>?_);refine qdP ?_;refine qfS ?_;refine qfv ?_;refine A0 aV ?_;refine qco ?_;refine zq (n:=0) (y:=swpI l 0) rfl swpI_zero.symm ?_;refine zj (d:=3) (y:=(l.length:Int)-1-((0:Nat):Int)) rfl ya ?_;refine Lp (ι:=Nat) 1 (fun (k:Nat)=>(((Fr.none).set 0 (.own 0)).set 2 (.val i64T (k:Int))).set 3 (.val i64T ((l.length:Int)-1-k))) (fun (k:Nat)=>(Hp.none).set 0 (.row 3 i64T (swpI l k))) (fun (k:Nat)=>2*k<=l.length) (fun (k:Nat)=>l.length-k) (0) (uf _) ?_;intro k hinv;refine qb6 ?_;refine qa7 ?_;refine Cf (p:=(k:Int)<(l.length:Int)-1-k) (fun ht9=>?_) (fun ht9=>?_)
 .
  have hsl:=zhj (l:=l) (k:=k);obtain⟨x,hx⟩:∃x,(swpI l k)[k]?=some x:=yr;obtain⟨y,hy⟩:∃y,(swpI l k)[l.length-1-k]?=some y:=yr;have hsl2:((swpI l k).set k y).length=l.length:=by rw[length_set,hsl]
  have hy2:((swpI l k).set k y)[l.length-1-k]?=some y:=by rw[List.getElem?_set_ne ya];exact hy
  refine qaS ?_;refine zA [some 1,some 1,some 1000001,some 1000001,some 1,some 1,some 1,some 1,some 1,some 1,some 1,some 1,some 1,none,some 1,none] mixed yc ?_;refine qdm ?_;refine XK.ga (fun _=>g_mo (.inl rfl) rfl) rfl rfl rfl ?_;refine XK.ga (fun _=>g_mv (.inl rfl) rfl) rfl rfl rfl ?_;refine qdm ?_;refine X0 (zau (i:=l.length-1-k) rfl rfl rfl rfl yi zdG yh) ?_;refine X0 (zc8 rfl rfl rfl rfl yj (Lens.self _) ty_3) ?_;refine qdm ?_;refine X0 (zau (i:=k) rfl rfl rfl rfl yi zdG yh) ?_;refine X0 (zc8 rfl rfl rfl rfl yj (Lens.self _) ty_3) ?_;refine X0 (zau (i:=k) rfl rfl rfl rfl yi zdG yh) ?_;refine XK.e (x:=.idk) (fun fr' hfr kk H=>by exact zda rfl rfl rfl ((hfr 26 yc).trans rfl) rfl rfl yj (Lens.self _) ty_3 ((hfr 21 yc).trans rfl) (zD H)) ?_;refine X0 (zau (i:=l.length-1-k) rfl rfl rfl rfl yi zdG yh) ?_;refine XK.e (x:=.idk) (fun fr' hfr kk H=>by exact zda rfl rfl rfl ((hfr 27 yc).trans rfl) rfl rfl yj (Lens.self _) ty_3 ((hfr 25 yc).trans rfl) (zD H)) ?_;refine qaV ?_;refine qd9 ?_;refine qcn ?_;refine qb2 ?_;refine zq (n:=0) (y:=swpI l (k+1)) rfl (swpI_step ya hx hy) ?_;refine zj (d:=3) (y:=(l.length:Int)-1-((k+1:Nat):Int)) rfl ya ?_;exact Nx (k+1) ya ya
 refine CE ?_;exact ztJ rfl rfl rfl rfl rfl (give_row rfl (swpI_end hinv ht9))
theorem equalFPart (l m:List Part):Tells P 58 [.val (bsl zaK) l,.val (bsl zaK) m,.fn2 P zaK zaK zo (fun x y=>decide (x=y))] (.val zo (decide (l=m))):=by
 refine zc Tryz.func58 rfl rfl rfl (fun ext w hext=>?_);refine ze (d:=0) rfl zk (fun hsl0=>?_);refine ze (d:=1) rfl zk (fun hsl1=>?_);refine qcK ?_;refine qbM ?_;refine qaz ?_;refine qbM ?_;refine qaG ?_;refine Cf (p:=¬l.length=m.length) (fun ht14=>?_) (fun ht14=>?_)
 .
  refine qar ?_;exact zb rfl rfl (za rfl (uh (fun e=>ht14 ybI)).symm)
 refine qcb ?_;refine qbM ?_;refine qaF ?_;refine Lp (ι:=Nat) 0 (fun (k:Nat)=>((((((Fr.none).set 0 (.val (bsl zaK) l)).set 1 (.val (bsl zaK) m)).set 2 (.fn2 P zaK zaK zo (fun x y=>decide (x=y)))).set 15 (.val (bsl zaK) l)).set 16 (.val i64T (l.length:Int))).set 17 (.val i64T (k:Int))) (fun (k:Nat)=>Hp.none) (fun (k:Nat)=>k<=l.length/\l.take k=m.take k) (fun (k:Nat)=>l.length-k) (0) (⟨uf _,by simp⟩) ?_;intro k hinv;refine qap ?_;refine Cf (p:=k<l.length) (fun ht18=>?_) (fun ht18=>?_)
 .
  obtain⟨x,hx⟩:∃x,l[k]?=some x:=⟨_,ub ht18⟩;obtain⟨y,hy⟩:∃y,m[k]?=some y:=yr;refine qbp ?_;refine qd7 ?_;refine A0 (zh rfl rfl zeR) ?_;refine qcw ?_;refine A0 aV ?_;refine qa0 ?_;refine CNQR ?_;refine qal ?_;refine qd7 ?_;refine qbn ?_;refine CNQR ?_;refine A0 mH ?_;refine A0 (oLs rfl rfl rfl zeR) ?_;refine A0 (oLs rfl rfl rfl zeR) ?_;refine A0 (zm6 rfl rfl yk yk) ?_;refine qaT ?_;refine zl (p:=¬x=y) rfl yw (fun ht30=>?_) (fun ht30=>?_)
  .
   refine qar ?_;exact zb rfl rfl (za rfl (uh (zd8 hx hy ht30)).symm)
  refine qbt ?_;exact Nx (k+1) (⟨by omega,zbN hx hy hinv.2 (by simpa using ht30)⟩) ya
 refine qcs ?_;exact zb rfl rfl (za rfl (ui yI).symm)
theorem zl1 (x y:Part):Tells P 56 [.val zaK x,.val zaK y] (.val zo (decide (x=y))):=by
 refine zc Tryz.func56 rfl rfl rfl (fun ext w hext=>?_);refine qeJ ?_;refine qdt ?_;refine qdt ?_;refine A0 (zgZ rfl rfl rfl (zmd)) ?_;refine qaz ?_;refine zX (d:=10) (p:=x.h=y.h) rfl yw (fun g10=>?_) (fun g10=>?_)
 .
  refine A1 (oFp zb3) ?_;refine A1 (oLb zcc zcl) ?_;refine A1 (oFp zb3) ?_;refine A1 (oLb zcc zcl) ?_;refine A1 (oCl (zuG x.l y.l) rfl fn_57 ye) ?_;refine qaE ?_;exact zb rfl rfl (za rfl ((by rw[uo];exact⟨fun h=>by cases x;cases y;simp_all,fun h=>by rw[h]⟩)))
 refine qer ?_;exact zb rfl rfl (za rfl ((by symm;apply uh;intro h;exact g10 yaY)))
theorem sameP_ok (a b:Proof):Tells P 18 [.val zP a,.val zP b] (.val zo (decide (a=b))):=by
 refine zc Tryz.func18 rfl rfl rfl (fun ext w hext=>?_);refine qeJ ?_;refine A0 aC ?_;refine CNQR ?_;refine qbX ?_;refine qbX ?_;refine A0 zd7 ?_;refine qaz ?_;refine zX (d:=11) (p:=a.m=b.m) rfl yx (fun g11=>?_) (fun g11=>?_)
 .
  refine qbb ?_;refine qbb ?_;refine qep ?_;refine zX (d:=18) (p:=a.k=b.k) rfl yx (fun g18=>?_) (fun g18=>?_)
  .
   refine qdR ?_;refine qdR ?_;refine A1 mC ?_;refine A1 (oCl (equalFPart a.p b.p) rfl fn_58 ⟨yk,yk,(by first|exact zdO (Cs:=[]) rfl fn_56 yC trivial rfl (fun x=>zl1 x y)|exact zdN (Cs:=[]) rfl fn_56 yC trivial rfl (fun x y=>zl1 x y)|exact zdP rfl),trivial⟩) ?_;refine qaE ?_;exact zb rfl rfl (za rfl (yaj))
  refine qab ?_;refine qab ?_;refine qaE ?_;exact zb rfl rfl (za rfl ((by symm;apply uh;intro h;exact g18 yaY)))
 refine qab ?_;refine qaZ ?_;refine qaH ?_;refine qab ?_;refine qaE ?_;exact zb rfl rfl (za rfl ((by symm;apply uh;intro h;exact g11 yaY)))
def valU (l:List UInt8):UInt64:=l.foldl (fun n c=>zgv n 8|||zK (IntL.toI u8T c)) 0
def zc7 (b:List UInt8) (p size:Int):Bool:=decide (0<=size/\size<=8/\0<=p/\p<=b.length/\size<=(b.length:Int)-p)
def getU (b:List UInt8) (p size:Int):UInt64:=if zc7 b p size=true then valU ((b.drop p.toNat).take size.toNat) else 0
def cutE (b:List UInt8) (p:Int):Bool:=zc7 b p 2&&decide (((getU b p 2).toNat:Int)<=(b.length:Int)-p-2)
def cutX (b:List UInt8) (p:Int):List UInt8:=if cutE b p=true then (b.drop (p.toNat+2)).take (getU b p 2).toNat else []
def ziA (b:List UInt8) (p:Int):Int:=if cutE b p=true then p+2+(getU b p 2).toNat else 0
def zh0 (x:List UInt8):List UInt8:=zB (zK (x.length:Int)) 2++x
def zcn (x:List UInt8):Bool:=decide (x.length<=65535)
def zh9 (l:List (List UInt8)):List UInt8:=zaF (l.length:Int)::(l.map zh0).flatten
def zdj (l:List (List UInt8)):Bool:=decide (l.length<=255)&&l.all zcn
def cutN:List UInt8->Option (List UInt8×List UInt8)
  | a::c::r=>if 256*a.toNat+c.toNat<=r.length then some (r.take (256*a.toNat+c.toNat),r.drop (256*a.toNat+c.toNat)) else none
  | _=>none
def pieces:Nat->List UInt8->List (List UInt8)×List UInt8
  | 0,r=>([],r)
  | n+1,r=>match cutN r with
    | none=>([],r)
    | some (x,z)=>(x::(pieces n z).1,(pieces n z).2)
def zw (b:List UInt8):List (List UInt8)×Bool :=
  match b with
  | []=>([],false)
  | n::r=>if (pieces n.toNat r).1.length=n.toNat/\(pieces n.toNat r).2=[] then ((pieces n.toNat r).1,true) else ([],false)
theorem or_low {a c:Nat} (hc:c<256):a*256|||c=a*256+c:=by
  have:=Nat.two_pow_add_eq_or_of_lt (i:=8) (b:=c) hc a
  rw[show(2:Nat)^8=256 from rfl,Nat.mul_comm] at this;exact this.symm
theorem val_step (n:UInt64) (c:UInt8):(zgv n 8|||zK (IntL.toI u8T c)).toNat=(256*n.toNat+c.toNat)%18446744073709551616:=by
  have hc:c.toNat<256:=c.toNat_lt;have hn:n.toNat<18446744073709551616:=n.toNat_lt;have e1:(zK (IntL.toI u8T c)).toNat=c.toNat:=zc0 (n:=(c.toNat:Int)) ya ya;have e2:(zgv n 8).toNat=n.toNat*256%18446744073709551616:=by
    unfold zgv;rw[UInt64.toNat_ofNat'];rfl
  rw[UInt64.toNat_or,e1,e2];have e3:n.toNat*256%18446744073709551616=(n.toNat%72057594037927936)*256:=ya;rw[e3,or_low hc];omega
def valN (l:List UInt8):Nat:=l.foldl (fun n c=>256*n+c.toNat) 0
theorem zgK (l:List UInt8) (c:UInt8):valN (l++[c])=256*valN l+c.toNat:=by unfold valN;rw[foldl_append];rfl
theorem zrZ (l:List UInt8) (c:UInt8):valU (l++[c])=zgv (valU l) 8|||zK (IntL.toI u8T c):=by unfold valU;rw[foldl_append];rfl
theorem zqF {α:Type} {P:List α->Prop} (h0:P []) (h1:∀l x,P l->P (l++[x])) (l:List α):P l:=by
  have:∀n:Nat,∀l:List α,l.length=n->P l:=by
    intro n
    induction n with
    | zero=>intro l hl;rw[List.length_eq_zero_iff.1 hl];exact h0
    | succ n ih =>
      intro l hl;have hne:l≠[]:=by intro e;rw[e] at hl;cases hl
      rw[<-List.dropLast_concat_getLast hne];exact h1 _ _ (ih _ (by rw[List.length_dropLast];omega))
  exact this _ l rfl
theorem zjA (l:List UInt8):valN l<256^l.length:=by
  refine zqF (P:=fun l=>valN l<256^l.length) yl (fun l c ih=>?_) l;have hc:c.toNat<256:=c.toNat_lt;rw[zgK,ue,List.length_singleton,Nat.pow_succ];omega
theorem zgJ:∀l:List UInt8,l.length<=8->(valU l).toNat=valN l:=by
  refine zqF (P:=fun l=>l.length<=8->(valU l).toNat=valN l) (fun _=>rfl) (fun l c ih hl=>?_);rw[ue,List.length_singleton] at hl;rw[zrZ,zgK,val_step,ih ya];have h1:=zjA (l++[c]);rw[zgK] at h1;have h2:256^(l++[c]).length<=256^8:=Nat.pow_le_pow_right yl yB;have h3:(256:Nat)^8=18446744073709551616:=rfl;exact Nat.mod_eq_of_lt ya
theorem zkG (n:UInt64) (s:Nat) (hs:s<8):zB n (s+1)=zB (zax n 8) s++[zaF (IntL.toI u64T n)]:=by
  unfold zB;rw[List.range_succ,map_append];congr 1
  . apply map_congr_left
    intro j hj;rw[mem_range] at hj;congr 2;apply toNat_inj.1;rw[zdi _ ya,zdi _ ya,zdi _ ya,Nat.div_div_eq_div_mul,<-Nat.pow_add];congr 2;omega
  show [zaF (IntL.toI u64T (zax n (8*(s+1-1-s))))]=_;rw[show s+1-1-s=0 by omega,<-zqH]
theorem ze1:∀l:List UInt8,l.length<=8->zB (valU l) l.length=l:=by
  refine zqF (P:=fun l=>l.length<=8->zB (valU l) l.length=l) (fun _=>rfl) (fun l c ih hl=>?_);rw[ue,List.length_singleton] at hl ⊢;have hc:c.toNat<256:=c.toNat_lt;have hv:=zgJ (l++[c]) yB;have hw:=zgJ l ya;rw[zgK] at hv;rw[zkG _ _ ya];have e1:zax (valU (l++[c])) 8=valU l:=by
    apply toNat_inj.1;rw[zdi _ yl,hv,hw];omega
  have e2:zaF (IntL.toI u64T (valU (l++[c])))=c:=by
    apply UInt8.toNat_inj.1;unfold zaF;show(UInt8.ofNat ((((valU (l++[c])).toNat:Nat):Int)%256).toNat).toNat=_;rw[UInt8.toNat_ofNat_of_lt' ybx,hv];omega
  rw[e1,e2,ih ya]
theorem zka (n:UInt64):∀s:Nat,s<=8->valN (zB n s)=n.toNat%256^s
  | 0,_=>by show 0=_;simp[Nat.mod_one]
  | s+1,hs=>by
    have ih:=zka (zax n 8) s ya;rw[zkG _ _ ya,zgK,ih,zdi _ yl];have e:(zaF (IntL.toI u64T n)).toNat=n.toNat%256:=by
      unfold zaF;show(UInt8.ofNat (((n.toNat:Nat):Int)%256).toNat).toNat=_;rw[UInt8.toNat_ofNat_of_lt' ybx];omega
    have e8:(2:Nat)^8=256:=rfl;have ep:256^(s+1)=256*256^s:=by rw[Nat.pow_succ,Nat.mul_comm]
    rw[e,e8,ep,Nat.mod_mul];omega
theorem two_bytes {n:Nat} (h:n<=65535):∃a c:UInt8,zB (zK (n:Int)) 2=[a,c]/\256*a.toNat+c.toNat=n:=by
  have hl:=zF (zK (n:Int)) 2;have hv:=zka (zK (n:Int)) 2 yl;rw[zc0 ya ya] at hv
  match hb:zB (zK (n:Int)) 2 with
  | [a,c] =>
    rw[hb] at hv;refine⟨a,c,rfl,?_⟩;have e:valN [a,c]=256*(256*0+a.toNat)+c.toNat:=rfl;rw[e] at hv
    have:(256:Nat)^2=65536:=rfl
    omega
  | []=>rw[hb] at hl;cases hl
  | [_]=>rw[hb] at hl;cases hl
  | _::_::_::_=>rw[hb] at hl;simp at hl
theorem bytes_two (a c:UInt8):zB (zK ((256*a.toNat+c.toNat:Nat):Int)) 2=[a,c]:=by
  have ha:a.toNat<256:=a.toNat_lt;have hc:c.toNat<256:=c.toNat_lt;have e:zK ((256*a.toNat+c.toNat:Nat):Int)=valU [a,c]:=by
    apply toNat_inj.1;rw[zc0 ya ya,zgJ [a,c] yw];show _=256*(256*0+a.toNat)+c.toNat
    omega
  rw[e];exact ze1 [a,c] yw
theorem cut_blob {x r:List UInt8} (h:zcn x=true):cutN (zh0 x++r)=some (x,r):=by
  have hx:=of_decide_eq_true h;obtain⟨a,c,e1,e2⟩:=two_bytes hx;unfold zh0;rw[e1];have e3:[a,c]++x++r=a::c::(x++r):=rfl;rw[e3,cutN,e2,ut yw,List.take_left,List.drop_left]
theorem cut_back {b x z:List UInt8} (h:cutN b=some (x,z)):b=zh0 x++z/\zcn x=true:=by
  match b,h with
  | a::c::r,h =>
    have ha:a.toNat<256:=a.toNat_lt;have hc:c.toNat<256:=c.toNat_lt;rw[cutN] at h;by_cases q:256*a.toNat+c.toNat<=r.length
    . rw[ut q] at h
      simp only[Option.some.injEq,Prod.mk.injEq] at h;obtain⟨rfl,rfl⟩:=h;have hl:(r.take (256*a.toNat+c.toNat)).length=256*a.toNat+c.toNat:=ybR;refine⟨?_,ui (by rw[hl];omega)⟩;unfold zh0;rw[hl,bytes_two];show a::c::r=a::c::(r.take _++r.drop _);rw[List.take_append_drop]
    rw[ur q] at h;cases h
  | [],h=>cases h
  | [_],h=>cases h
theorem znU (r:List UInt8):∀l:List (List UInt8),l.all zcn=true->pieces l.length ((l.map zh0).flatten++r)=(l,r)
  | [],_=>rfl
  | x::l,h=>by
    rw[all_cons,uk] at h;rw[map_cons,flatten_cons,List.append_assoc,length_cons,pieces,cut_blob h.1];simp only[];rw[znU r l h.2]
theorem znV:∀(n:Nat) (r:List UInt8),(pieces n r).1.length<=n/\r=((pieces n r).1.map zh0).flatten++(pieces n r).2/\(pieces n r).1.all zcn=true
  | 0,r=>⟨ug _,rfl,rfl⟩
  | n+1,r=>by
    rw[pieces]
    match hc:cutN r with
    | none=>exact⟨uf _,rfl,rfl⟩
    | some (x,z) =>
      obtain⟨h1,h2⟩:=cut_back hc;obtain⟨i1,i2,i3⟩:=znV n z;refine⟨Nat.succ_le_succ i1,?_,?_⟩
      . show r=((x::(pieces n z).1).map zh0).flatten++(pieces n z).2
        rw[map_cons,flatten_cons,List.append_assoc,<-i2];exact h1
      show(x::(pieces n z).1).all zcn=true;rw[all_cons,h2,i3];rfl
theorem zvj {n:Nat} (h:n<=255):(zaF (n:Int)).toNat=n:=by
  unfold zaF;rw[UInt8.toNat_ofNat_of_lt' ybx];omega
theorem zpt {l:List (List UInt8)} (h:zdj l=true):zw (zh9 l)=(l,true):=by
  unfold zdj at h;rw[uk,uj] at h;unfold zh9 zw;have hp:=znU [] l h.2;rw[append_nil] at hp;simp only[];rw[zvj h.1,hp,ut ⟨rfl,rfl⟩]
theorem ziQ {b:List UInt8} (h:(zw b).2=true):zh9 (zw b).1=b/\zdj (zw b).1=true:=by
  match b,h with
  | n::r,h =>
    have hn:n.toNat<256:=n.toNat_lt;unfold zw at h ⊢;simp only[] at h ⊢;by_cases q:(pieces n.toNat r).1.length=n.toNat/\(pieces n.toNat r).2=[]
    . rw[ut q]
      obtain⟨i1,i2,i3⟩:=znV n.toNat r;rw[q.2,append_nil] at i2;refine⟨?_,?_⟩
      . show zaF ((pieces n.toNat r).1.length:Int)::((pieces n.toNat r).1.map zh0).flatten=n::r
        rw[<-i2,q.1];congr 1;apply UInt8.toNat_inj.1;rw[zvj ya]
      unfold zdj;rw[i3,ui (show(pieces n.toNat r).1.length<=255 by omega)];rfl
    rw[ur q] at h;cases h
  | [],h=>cases h
theorem znd (x:List UInt8):(zh0 x).length=2+x.length:=by unfold zh0;rw[ue,zF]
theorem zmS:∀l:List (List UInt8),(zh9 l).length=1+(l.map fun x=>2+x.length).sum
  | []=>rfl
  | x::l=>by
    have ih:=zmS l;unfold zh9 at ih ⊢;rw[length_cons,map_cons,flatten_cons,ue,znd,map_cons,sum_cons];rw[length_cons] at ih;omega
def zaD (b:List UInt8):Head:=⟨((valU (b.take 4)).toNat:Int),(b.drop 4).take 32,(b.drop 36).take 32,(b.drop 68).take 32,(b.drop 100).take 32,zfa ((b.drop 132).take 32),UInt32.ofNat (valU ((b.drop 164).take 4)).toNat,valU ((b.drop 168).take 8)⟩
def za0 (b:List UInt8):Bool:=decide (b.length=176)&&decide ((valU (b.take 4)).toNat<=1048576)
def zgx (b:List UInt8):Head:=if za0 b=true then zaD b else zlm
def zh8 (p:Proof):Bool:=decide (1<=p.m/\p.m<=20/\1<=p.k/\p.k<=20/\p.p.length<=100)&&p.p.all fun x=>decide (x.l.length<=32)
def wOk (p:Proof):Bool:=zh8 p&&p.p.all fun x=>hOk x.h
def zaL (x:Part):List UInt8:=zh9 (zad x.h::x.l)
def putL (p:Proof):List UInt8:=zaF p.m::zaF p.k::zh9 (p.p.map zaL)
def zaS (r:List UInt8):Bool:=(zw r).2&&match (zw r).1 with
  | []=>false
  | h::l=>za0 h&&l.all fun x=>decide (x.length=32)
def za6 (r:List UInt8):Part:=match (zw r).1 with
  | []=>⟨zlm,[]⟩
  | h::l=>⟨zaD h,l⟩
def zeV (b:List UInt8):Proof:=⟨((b.getD 0 0).toNat:Int),((b.getD 1 0).toNat:Int),(zw (b.drop 2)).1.map za6⟩
def zbK (b:List UInt8):Bool:=decide (2<b.length)&&(zw (b.drop 2)).2&&(zw (b.drop 2)).1.all zaS&&zh8 (zeV b)
theorem u8_nat {n:Int} (h0:0<=n) (h1:n<=255):(zaF n).toNat=n.toNat:=by
  obtain⟨m,rfl⟩:∃m:Nat,n=m:=⟨n.toNat,by omega⟩;rw[zvj ya];rfl
theorem u8_back (c:UInt8):zaF (c.toNat:Int)=c:=by
  apply UInt8.toNat_inj.1
  have:c.toNat<256:=c.toNat_lt
  rw[zvj ya]
theorem of32_four (x0 x1 x2 x3 x4 x5 x6 x7 x8 x9 x10 x11 x12 x13 x14 x15 x16 x17 x18 x19 x20 x21 x22 x23 x24 x25 x26 x27 x28 x29 x30 x31:UInt8):zfa [x0,x1,x2,x3,x4,x5,x6,x7,x8,x9,x10,x11,x12,x13,x14,x15,x16,x17,x18,x19,x20,x21,x22,x23,x24,x25,x26,x27,x28,x29,x30,x31]=[valU [x24,x25,x26,x27,x28,x29,x30,x31],valU [x16,x17,x18,x19,x20,x21,x22,x23],valU [x8,x9,x10,x11,x12,x13,x14,x15],valU [x0,x1,x2,x3,x4,x5,x6,x7]]:=yt
theorem list32 {b:List UInt8} (h:b.length=32):∃x0 x1 x2 x3 x4 x5 x6 x7 x8 x9 x10 x11 x12 x13 x14 x15 x16 x17 x18 x19 x20 x21 x22 x23 x24 x25 x26 x27 x28 x29 x30 x31,b=[x0,x1,x2,x3,x4,x5,x6,x7,x8,x9,x10,x11,x12,x13,x14,x15,x16,x17,x18,x19,x20,x21,x22,x23,x24,x25,x26,x27,x28,x29,x30,x31]:=by
  match b,h with
  | [x0,x1,x2,x3,x4,x5,x6,x7,x8,x9,x10,x11,x12,x13,x14,x15,x16,x17,x18,x19,x20,x21,x22,x23,x24,x25,x26,x27,x28,x29,x30,x31],_=>exact⟨x0,x1,x2,x3,x4,x5,x6,x7,x8,x9,x10,x11,x12,x13,x14,x15,x16,x17,x18,x19,x20,x21,x22,x23,x24,x25,x26,x27,x28,x29,x30,x31,rfl⟩
theorem zqi {b:List UInt8} (h:b.length=32):zeq (zfa b)=b:=by
  obtain⟨x0,x1,x2,x3,x4,x5,x6,x7,x8,x9,x10,x11,x12,x13,x14,x15,x16,x17,x18,x19,x20,x21,x22,x23,x24,x25,x26,x27,x28,x29,x30,x31,rfl⟩:=list32 h;rw[of32_four,zj1];have e1:=ze1 [x0,x1,x2,x3,x4,x5,x6,x7] (ug _);have e2:=ze1 [x8,x9,x10,x11,x12,x13,x14,x15] (ug _);have e3:=ze1 [x16,x17,x18,x19,x20,x21,x22,x23] (ug _);have e4:=ze1 [x24,x25,x26,x27,x28,x29,x30,x31] (ug _);have e1:zB (valU [x0,x1,x2,x3,x4,x5,x6,x7]) 8=[x0,x1,x2,x3,x4,x5,x6,x7]:=e1;have e2:zB (valU [x8,x9,x10,x11,x12,x13,x14,x15]) 8=[x8,x9,x10,x11,x12,x13,x14,x15]:=e2;have e3:zB (valU [x16,x17,x18,x19,x20,x21,x22,x23]) 8=[x16,x17,x18,x19,x20,x21,x22,x23]:=e3;have e4:zB (valU [x24,x25,x26,x27,x28,x29,x30,x31]) 8=[x24,x25,x26,x27,x28,x29,x30,x31]:=e4;rw[e1,e2,e3,e4];rfl
theorem of32_bytes {a:Wide} (ha:a.length=4):zfa (zeq a)=a:=by
  have hl:(zeq a).length=32:=zcE a;exact bytesW_inj zq5 ha (zqi hl)
theorem zhq {h:Head} (hh:HW h) (ho:hOk h=true):(zad h).length=176:=by
  obtain⟨h1,h2,h3,h4,h5⟩:=hh;unfold zad;rw[ut ho];simp[zbQ,h1,h2,h3,h4,zcE,zF]
theorem head_parts {h:Head} (hh:HW h):(zbQ h).take 4=zB (zK (IntL.toI i64T h.height)) 4/\((zbQ h).drop 4).take 32=h.prev/\((zbQ h).drop 36).take 32=h.links/\((zbQ h).drop 68).take 32=h.txs/\((zbQ h).drop 100).take 32=h.past/\
    ((zbQ h).drop 132).take 32=zeq h.work/\((zbQ h).drop 164).take 4=zB (zK (IntL.toI u32T h.bits)) 4/\((zbQ h).drop 168).take 8=zB h.nonce 8:=by
  obtain⟨h1,h2,h3,h4,h5⟩:=hh;have l0:=zF (zK (IntL.toI i64T h.height)) 4;have l6:=zF (zK (IntL.toI u32T h.bits)) 4;have l7:=zF h.nonce 8;have l5:=zcE h.work;unfold zbQ;simp only[flatten_cons,List.flatten_nil,append_nil];generalize zB (zK (IntL.toI i64T h.height)) 4=A at *;generalize zB (zK (IntL.toI u32T h.bits)) 4=F at *;generalize zB h.nonce 8=G at *;generalize zeq h.work=E at *;have d1:(A++(h.prev++(h.links++(h.txs++(h.past++(E++(F++G))))))).drop 4=h.prev++(h.links++(h.txs++(h.past++(E++(F++G))))):=drop_left' l0;have d2:(A++(h.prev++(h.links++(h.txs++(h.past++(E++(F++G))))))).drop 36=h.links++(h.txs++(h.past++(E++(F++G)))):=by rw[show 36=4+32 from rfl,<-drop_drop,d1];exact drop_left' h1
  have d3:(A++(h.prev++(h.links++(h.txs++(h.past++(E++(F++G))))))).drop 68=h.txs++(h.past++(E++(F++G))):=by rw[show 68=36+32 from rfl,<-drop_drop,d2];exact drop_left' h2
  have d4:(A++(h.prev++(h.links++(h.txs++(h.past++(E++(F++G))))))).drop 100=h.past++(E++(F++G)):=by rw[show 100=68+32 from rfl,<-drop_drop,d3];exact drop_left' h3
  have d5:(A++(h.prev++(h.links++(h.txs++(h.past++(E++(F++G))))))).drop 132=E++(F++G):=by rw[show 132=100+32 from rfl,<-drop_drop,d4];exact drop_left' h4
  have d6:(A++(h.prev++(h.links++(h.txs++(h.past++(E++(F++G))))))).drop 164=F++G:=by rw[show 164=132+32 from rfl,<-drop_drop,d5];exact drop_left' l5
  have d7:(A++(h.prev++(h.links++(h.txs++(h.past++(E++(F++G))))))).drop 168=G:=by rw[show 168=164+4 from rfl,<-drop_drop,d6];exact drop_left' l6
  rw[d1,d2,d3,d4,d5,d6,d7];exact⟨take_left' l0,take_left' h1,take_left' h2,take_left' h3,take_left' h4,take_left' l5,take_left' l6,uc (Nat.le_of_eq l7)⟩
theorem zt2 (n:UInt64) {s:Nat} (hs:s<=8):(valU (zB n s)).toNat=n.toNat%256^s:=by rw[zgJ _ (by rw[zF];exact hs),zka n s hs]
theorem zrY (n:UInt64):valU (zB n 8)=n:=by
  apply toNat_inj.1;have hn:n.toNat<18446744073709551616:=n.toNat_lt;rw[zt2 n (ug _),show(256:Nat)^8=18446744073709551616 from rfl,Nat.mod_eq_of_lt hn]
theorem read_put {h:Head} (hh:HW h) (ho:hOk h=true):za0 (zbQ h)=true/\zaD (zbQ h)=h:=by
  obtain⟨p1,p2,p3,p4,p5,p6,p7,p8⟩:=head_parts hh;have ho2:=hOk_iff.1 ho;have hlen:(zbQ h).length=176:=by
    have:=zhq hh ho
    unfold zad at this
    rwa [ut ho] at this
  have hv:(valU ((zbQ h).take 4)).toNat=h.height.toNat:=by
    rw[p1,zt2 _ yl,show(256:Nat)^4=4294967296 from rfl];have e:(zK (IntL.toI i64T h.height)).toNat=h.height.toNat:=zc0 (n:=h.height) ho2.1 ya;rw[e];omega
  refine⟨?_,?_⟩
  . unfold za0
    rw[ui hlen,ui (by rw[hv];omega)];rfl
  unfold zaD;rw[hv,p2,p3,p4,p5,p6,p7,p8,of32_bytes hh.2.2.2.2,zrY,zt2 _ yl];have eb:(zK (IntL.toI u32T h.bits)).toNat=h.bits.toNat:=by
    have:h.bits.toNat<4294967296:=h.bits.toNat_lt
    exact zc0 (n:=(h.bits.toNat:Int)) ya ya
  have eb2:UInt32.ofNat (h.bits.toNat%256^4)=h.bits:=by
    apply UInt32.toNat_inj.1
    have:h.bits.toNat<4294967296:=h.bits.toNat_lt
    rw[show(256:Nat)^4=4294967296 from rfl,Nat.mod_eq_of_lt this,UInt32.toNat_ofNat_of_lt' this]
  have eh:((h.height.toNat:Nat):Int)=h.height:=ya;rw[eb,eb2,eh]
theorem num4 {b:List UInt8} (h:b.length=4):zB (zK (IntL.toI i64T ((valU b).toNat:Int))) 4=b:=by
  have v4:=zgJ b ya;have lt4:=zjA b;rw[h,show(256:Nat)^4=4294967296 from rfl] at lt4;have e:zK (IntL.toI i64T ((valU b).toNat:Int))=valU b:=by
    apply toNat_inj.1;exact zc0 (n:=((valU b).toNat:Int)) ya ya
  rw[e]
  have:=ze1 b ya
  rwa [h] at this
theorem bits4 {b:List UInt8} (h:b.length=4):zB (zK (IntL.toI u32T (UInt32.ofNat (valU b).toNat))) 4=b:=by
  have v4:=zgJ b ya;have lt4:=zjA b;rw[h,show(256:Nat)^4=4294967296 from rfl] at lt4;have e0:(UInt32.ofNat (valU b).toNat).toNat=(valU b).toNat:=UInt32.toNat_ofNat_of_lt' (by show _<4294967296;omega);have e:zK (IntL.toI u32T (UInt32.ofNat (valU b).toNat))=valU b:=by
    apply toNat_inj.1;show(zK (((UInt32.ofNat (valU b).toNat).toNat:Nat):Int)).toNat=_;rw[e0];exact zc0 (n:=((valU b).toNat:Int)) ya ya
  rw[e]
  have:=ze1 b ya
  rwa [h] at this
theorem num8 {b:List UInt8} (h:b.length=8):zB (valU b) 8=b:=by
  have:=ze1 b ya
  rwa [h] at this
theorem zlt (b:List UInt8) (i n:Nat):(b.drop i).take n++b.drop (i+n)=b.drop i:=by rw[<-drop_drop,List.take_append_drop]
theorem zfZ {b:List UInt8} (hl:b.length=176) {i n:Nat} (h:i+n<=176):((b.drop i).take n).length=n:=by rw[um,length_drop];omega
theorem chunks {b:List UInt8} (hl:b.length=176):b.take 4++((b.drop 4).take 32++((b.drop 36).take 32++((b.drop 68).take 32++((b.drop 100).take 32++((b.drop 132).take 32++((b.drop 164).take 4++(b.drop 168).take 8))))))=b:=by
  have r7:(b.drop 168).take 8=b.drop 168:=uc yby;rw[r7,zlt b 164 4,zlt b 132 32,zlt b 100 32,zlt b 68 32,zlt b 36 32,zlt b 4 32,List.take_append_drop]
theorem rd_ok {b:List UInt8} (hv:(valU (b.take 4)).toNat<=1048576):0<=(zaD b).height/\(zaD b).height<=1048576:=by
  have e:(zaD b).height=((valU (b.take 4)).toNat:Int):=yaz;rw[e];omega
theorem rd_hw {b:List UInt8} (hl:b.length=176):HW (zaD b):=by
  have w:=zq5 (b:=(b.drop 132).take 32);have e1:(zaD b).prev=(b.drop 4).take 32:=yaz;have e2:(zaD b).links=(b.drop 36).take 32:=yaz;have e3:(zaD b).txs=(b.drop 68).take 32:=yaz;have e4:(zaD b).past=(b.drop 100).take 32:=yaz;have e5:(zaD b).work=zfa ((b.drop 132).take 32):=yaz;unfold HW;rw[e1,e2,e3,e4,e5];exact⟨zfZ hl (i:=4) (n:=32) yl,zfZ hl (i:=36) (n:=32) yl,zfZ hl (i:=68) (n:=32) yl,zfZ hl (i:=100) (n:=32) yl,w⟩
theorem put_read {b:List UInt8} (h:za0 b=true):HW (zaD b)/\hOk (zaD b)=true/\zbQ (zaD b)=b:=by
  unfold za0 at h;rw[uk,uj,uj] at h;obtain⟨hl,hv⟩:=h;have t4:(b.take 4).length=4:=ybR;have e1:=num4 t4;have e6:=bits4 (zfZ hl (i:=164) (n:=4) yl);have e7:=num8 (zfZ hl (i:=168) (n:=8) yl);have e5:=zqi (zfZ hl (i:=132) (n:=32) yl);refine⟨rd_hw hl,hOk_iff.2 (rd_ok hv),?_⟩
  have ep : zbQ (zaD b) = zB (zK (IntL.toI i64T ((valU (b.take 4)).toNat : Int))) 4 ++ ((b.drop 4).take 32 ++ ((b.drop 36).take 32 ++ ((b.drop 68).take 32 ++ ((b.drop 100).take 32 ++ (zeq (zfa ((b.drop 132).take 32)) ++
      (zB (zK (IntL.toI u32T (UInt32.ofNat (valU ((b.drop 164).take 4)).toNat))) 4++zB (valU ((b.drop 168).take 8)) 8)))))):=by
    simp only[zbQ,zaD,flatten_cons,List.flatten_nil,append_nil]
  rw[ep,e1,e5,e6,e7];exact chunks hl
theorem row_ok {x:Part} (hh:HW x.h) (ho:hOk x.h=true) (hi:∀y∈x.l,y.length=32) (hl:x.l.length<=32):zdj (zad x.h::x.l)=true:=by
  unfold zdj;rw[uk,uj,all_cons,uk,all_eq_true];refine⟨by simp;omega,ui (by rw[zhq hh ho];omega),fun y hy=>ui (by rw[hi y hy];omega)⟩
theorem sum_32:∀l:List (List UInt8),(∀y∈l,y.length=32)->(l.map fun x=>2+x.length).sum=34*l.length
  | [],_=>rfl
  | x::l,h=>by
    rw[map_cons,sum_cons,sum_32 l (fun y hy=>h y (List.mem_cons_of_mem _ hy)),h x (mem_cons_self ..),length_cons];omega
theorem znX {x:Part} (hh:HW x.h) (ho:hOk x.h=true) (hi:∀y∈x.l,y.length=32):(zaL x).length=179+34*x.l.length:=by
  unfold zaL;rw[zmS,map_cons,sum_cons,zhq hh ho,sum_32 _ hi];omega
def PW (p:Proof):Prop:=∀x∈p.p,HW x.h/\∀y∈x.l,y.length=32
theorem zbz {p:Proof} (h:zh8 p=true):(1<=p.m/\p.m<=20/\1<=p.k/\p.k<=20/\p.p.length<=100)/\∀x∈p.p,x.l.length<=32:=by
  unfold zh8 at h;rw[uk,uj,all_eq_true] at h;exact⟨h.1,fun x hx=>of_decide_eq_true (h.2 x hx)⟩
theorem zhi {p:Proof} (h:wOk p=true):zh8 p=true/\∀x∈p.p,hOk x.h=true:=by
  unfold wOk at h;rw[uk,all_eq_true] at h;exact h
theorem zmY {p:Proof} (hw:PW p) (h:wOk p=true):zdj (p.p.map zaL)=true:=by
  obtain⟨h1,h2⟩:=zhi h;obtain⟨h3,h4⟩:=zbz h1;unfold zdj;rw[uk,uj,all_eq_true];refine⟨by simp;omega,fun r hr=>?_⟩;obtain⟨x,hx,rfl⟩:=mem_map.1 hr
  have:=h4 x hx
  exact ui (by rw[znX (hw x hx).1 (h2 x hx) (hw x hx).2];omega)
theorem zsG {x:Part} (hh:HW x.h) (ho:hOk x.h=true) (hi:∀y∈x.l,y.length=32) (hl:x.l.length<=32):zaS (zaL x)=true/\za6 (zaL x)=x:=by
  have hs:=zpt (row_ok hh ho hi hl);have eb:zad x.h=zbQ x.h:=by unfold zad;rw[ut ho]
  obtain⟨r1,r2⟩:=read_put hh ho;unfold zaS za6 zaL;rw[hs];simp only[];rw[eb,r1,r2];refine⟨?_,rfl⟩;rw[Bool.true_and,Bool.true_and,all_eq_true];exact fun y hy=>ui (hi y hy)
theorem put_get {p:Proof} (h0:0<=p.m/\p.m<=255/\0<=p.k/\p.k<=255):(((putL p).getD 0 0).toNat:Int)=p.m/\(((putL p).getD 1 0).toNat:Int)=p.k:=by
  have e0:(putL p).getD 0 0=zaF p.m:=rfl;have e1:(putL p).getD 1 0=zaF p.k:=rfl;rw[e0,e1,u8_nat h0.1 h0.2.1,u8_nat h0.2.2.1 h0.2.2.2];omega
theorem proof_back {p:Proof} (hw:PW p) (h:wOk p=true):zbK (putL p)=true/\zeV (putL p)=p:=by
  obtain⟨h1,h2⟩:=zhi h;obtain⟨h3,h4⟩:=zbz h1;have hs:=zpt (zmY hw h);have hd:(putL p).drop 2=zh9 (p.p.map zaL):=rfl;have hm:(p.p.map zaL).map za6=p.p:=by
    rw[map_map]
    conv=>rhs;rw[<-map_id p.p]
    exact map_congr_left fun x hx=>(zsG (hw x hx).1 (h2 x hx) (hw x hx).2 (h4 x hx)).2
  obtain⟨g1,g2⟩:=put_get (p:=p) ya;have hr:zeV (putL p)=p:=by
    unfold zeV;rw[hd,hs,g1,g2];show(⟨p.m,p.k,(p.p.map zaL).map za6⟩:Proof)=p;rw[hm]
  refine⟨?_,hr⟩;unfold zbK;rw[hr,h1,hd,hs,ui (show 2<(putL p).length by unfold putL zh9;simp)];simp only[Bool.true_and,Bool.and_true];rw[all_eq_true];intro r hr;obtain⟨x,hx,rfl⟩:=mem_map.1 hr;exact(zsG (hw x hx).1 (h2 x hx) (hw x hx).2 (h4 x hx)).1
theorem zmZ {r:List UInt8} (h:zaS r=true):HW (za6 r).h/\hOk (za6 r).h=true/\(∀y∈(za6 r).l,y.length=32)/\zaL (za6 r)=r:=by
  unfold zaS at h;rw[uk] at h;obtain⟨h1,h2⟩:=h;obtain⟨e1,e2⟩:=ziQ h1;unfold za6 zaL
  match hl:(zw r).1 with
  | []=>rw[hl] at h2;cases h2
  | b::l =>
    rw[hl] at h2 e1;simp only[] at h2 ⊢;rw[uk,all_eq_true] at h2;obtain⟨p1,p2,p3⟩:=put_read h2.1;refine⟨p1,p2,fun y hy=>of_decide_eq_true (h2.2 y hy),?_⟩;unfold zad;rw[ut p2,p3,e1]
theorem zqm {b:List UInt8} (h:zbK b=true):wOk (zeV b)=true/\PW (zeV b)/\putL (zeV b)=b:=by
  unfold zbK at h;rw[uk,uk,uk,uj,all_eq_true] at h;obtain⟨⟨⟨h1,h2⟩,h3⟩,h4⟩:=h;obtain⟨e1,e2⟩:=ziQ h2;have hp:(zeV b).p=(zw (b.drop 2)).1.map za6:=rfl;refine⟨?_,?_,?_⟩
  . unfold wOk
    rw[h4,Bool.true_and,all_eq_true];intro x hx;rw[hp] at hx;obtain⟨r,hr,rfl⟩:=mem_map.1 hx;exact(zmZ (h3 r hr)).2.1
  . intro x hx
    rw[hp] at hx;obtain⟨r,hr,rfl⟩:=mem_map.1 hx;exact⟨(zmZ (h3 r hr)).1,(zmZ (h3 r hr)).2.2.1⟩
  match b,h1 with
  | m::k::t,_ =>
    have hm:((zw t).1.map za6).map zaL=(zw t).1:=by
      rw[map_map]
      conv=>rhs;rw[<-map_id (zw t).1]
      exact map_congr_left fun r hr=>(zmZ (h3 r hr)).2.2.2
    show zaF (m.toNat:Int)::zaF (k.toNat:Int)::zh9 (((zw t).1.map za6).map zaL)=m::k::t;rw[u8_back,u8_back,hm];congr 2
  | [],h1=>simp at h1
  | [_],h1=>simp at h1
theorem put_len {p:Proof} (hw:PW p) (h:wOk p=true):(putL p).length=3+(p.p.map fun x=>181+34*x.l.length).sum:=by
  obtain⟨h1,h2⟩:=zhi h;unfold putL;rw[length_cons,length_cons,zmS,map_map]
  have:p.p.map ((fun x:List UInt8=>2+x.length) ∘ zaL)=p.p.map fun x=>181+34*x.l.length:=map_congr_left fun x hx=>by
    show 2+(zaL x).length=_;rw[znX (hw x hx).1 (h2 x hx) (hw x hx).2];omega
  rw[this];omega
theorem zbp {b:List UInt8} {p size:Int} (h:size<0\/8<size\/p<0\/(b.length:Int)<p\/(b.length:Int)-p<size):zc7 b p size=false:=by
  unfold zc7;apply uh;omega
theorem zs5 {b:List UInt8} {p size:Int} (h1:¬size<0) (h2:¬8<size) (h3:¬p<0) (h4:¬(b.length:Int)<p) (h5:¬(b.length:Int)-p<size):zc7 b p size=true:=by
  unfold zc7;apply ui;omega
theorem zgB {b:List UInt8} {p size:Int} (h:zc7 b p size=false):getU b p size=0:=by unfold getU;rw[h];rfl
theorem zgm {b:List UInt8} {p size:Int} (h:zc7 b p size=true):getU b p size=valU ((b.drop p.toNat).take size.toNat):=by unfold getU;rw[ut h]
theorem zux {b:List UInt8} {p:Int} (h:zc7 b p 2=true):(getU b p 2).toNat<=65535:=by
  rw[zgm h,show(2:Int).toNat=2 from rfl];have hl:((b.drop p.toNat).take 2).length<=2:=ybR;have h2:=zgJ ((b.drop p.toNat).take 2) ya;have h3:=zjA ((b.drop p.toNat).take 2);have h4:256^((b.drop p.toNat).take 2).length<=256^2:=Nat.pow_le_pow_right yl hl;have h5:(256:Nat)^2=65536:=rfl;omega
theorem zme {b:List UInt8} {p:Int} (h:cutE b p=false):cutX b p=[]/\ziA b p=0:=by
  unfold cutX ziA;rw[h];exact⟨rfl,rfl⟩
theorem ziz {b:List UInt8} {p:Int} (h:cutE b p=true):cutX b p=(b.drop (p.toNat+2)).take (getU b p 2).toNat/\ziA b p=p+2+(getU b p 2).toNat:=by
  unfold cutX ziA;rw[h];exact⟨rfl,rfl⟩
def zmJ (x:List UInt8):List UInt8:=if zcn x=true then zh0 x else []
def zjJ (l:List (List UInt8)):List UInt8:=if zdj l=true then zh9 l else []
theorem zqP {l:List (List UInt8)} (h:255<l.length):zdj l=false:=by unfold zdj;rw[uh ya];rfl
theorem zmT {l:List (List UInt8)} {k:Nat} {x:List UInt8} (hx:l[k]?=some x) (h:¬zcn x=true):zdj l=false:=by
  unfold zdj;rw[Bool.and_eq_false_iff];right;rw[List.all_eq_false];exact⟨x,ud hx,h⟩
theorem zmU {l:List (List UInt8)} {k:Nat} (h:¬255<l.length) (hb:∀x∈l.take k,zcn x=true) (hk:l.length<=k):zdj l=true:=by
  rw[uc hk] at hb;unfold zdj;rw[ui ya,Bool.true_and,all_eq_true];exact hb
def zlz (l:List (List UInt8)) (k:Nat):List UInt8:=zaF (IntL.toI i64T (l.length:Int))::((l.take k).map zh0).flatten
theorem zpD {l:List (List UInt8)} {k:Nat} {x:List UInt8} (h:l[k]?=some x):zlz l (k+1)=zlz l k++zh0 x:=by
  unfold zlz;rw[un,h];simp
theorem zsu {l:List (List UInt8)} {k:Nat} (h:l.length<=k):zlz l k=zh9 l:=by
  unfold zlz zh9;rw[uc h];rfl
theorem zst {l:List (List UInt8)} {k:Nat} (h:∀x∈l.take k,zcn x=true):(zlz l k).length<=1+k*65537:=by
  unfold zlz;rw[length_cons]
  have:∀(m:List (List UInt8)),(∀x∈m,zcn x=true)->(m.map zh0).flatten.length<=m.length*65537:=by
    intro m
    induction m with
    | nil=>intro _;simp
    | cons x m ih =>
      intro hm;have h1:=ih (fun y hy=>hm y (List.mem_cons_of_mem _ hy));have h2:=of_decide_eq_true (hm x (mem_cons_self ..));rw[map_cons,flatten_cons,ue,znd,length_cons];omega
  have h1:=this (l.take k) h;have h2:(l.take k).length<=k:=ybR;have h3:(l.take k).length*65537<=k*65537:=Nat.mul_le_mul_right _ h2;omega
theorem cloneU8 (l:List UInt8) (hl:l.length*1<=140737488355328/\l.length<=9223372036854775807):Tells P 323 [.val (bsl u8T) l] (.fresh 5 u8T l):=by
 refine zc Tryz.func323 rfl rfl rfl (fun ext w hext=>?_);refine ze (d:=0) rfl zk (fun hsl0=>?_);refine qdK ?_;refine zfB rfl rfl rfl rfl rfl zfT (fun c4 hc4=>?_);refine CN ?_;refine zl (p:=c4=true) rfl yw (fun ht4=>?_) (fun ht4=>?_)
 .
  obtain rfl:=hc4 ht4;refine qfu ?_;exact zb rfl rfl (zs rfl)
 refine CSQR ?_;refine zbg (T:=u8T) (xs:=[]) rfl rfl rfl rfl zb0 zat trivial rfl rfl ?_;refine qaz ?_;refine zp rfl rfl rfl rfl rfl rfl rfl zat yaD ?_;refine qbG ?_;exact zb rfl rfl (zf rfl rfl yw)
theorem ztE (b:List UInt8) (p size:Int):Tells P 233 [.val (bsl u8T) b,.val i64T p,.val i64T size] (.tup2 (.val u64T (getU b p size)) (.val zo (zc7 b p size))):=by
 refine zc Tryz.func233 rfl rfl rfl (fun ext w hext=>?_);refine ze (d:=0) rfl zk (fun hsl0=>?_);refine ze (d:=1) rfl zz (fun hin1=>?_);refine ze (d:=2) rfl zz (fun hin2=>?_);refine CQR ?_;refine A0 aV ?_;refine qag ?_;refine A0 zc4 ?_;refine Sp (d:=12) (p:=size<0) (fun g12=>?_) (fun g12=>?_)
 .
  refine qaz ?_;refine qaZ ?_;refine qew ?_;refine Ct ?_;refine qev ?_;exact zG rfl rfl (za rfl ((zgB (zbp (.inl g12))).symm)) (za rfl ((zbp (.inl g12)).symm))
 refine qaz ?_;refine qca ?_;refine Sp (d:=15) (p:=8<size) (fun g15=>?_) (fun g15=>?_)
 .
  refine qew ?_;refine Ct ?_;refine qev ?_;exact zG rfl rfl (za rfl ((zgB (zbp (.inr (.inl g15)))).symm)) (za rfl ((zbp (.inr (.inl g15))).symm))
 refine qai ?_;refine qfY ?_;refine A1 zc4 ?_;refine Sp (d:=19) (p:=p<0) (fun g19=>?_) (fun g19=>?_)
 .
  refine qaH ?_;refine A2 ?_;refine qaH ?_;refine qcA ?_;refine Ct ?_;refine qev ?_;exact zG rfl rfl (za rfl ((zgB (zbp (.inr (.inr (.inl g19))))).symm)) (za rfl ((zbp (.inr (.inr (.inl g19)))).symm))
 refine qai ?_;refine qdi ?_;refine A1 (zaC rfl rfl zfT) ?_;refine A1 zcq ?_;refine Sp (d:=25) (p:=(b.length:Int)<p) (fun g25=>?_) (fun g25=>?_)
 .
  refine qaH ?_;refine qcA ?_;refine Ct ?_;refine qev ?_;exact zG rfl rfl (za rfl ((zgB (zbp (.inr (.inr (.inr (.inl g25)))))).symm)) (za rfl ((zbp (.inr (.inr (.inr (.inl g25))))).symm))
 refine qai ?_;refine qdi ?_;refine qeq ?_;refine qeK ?_;refine Cf (p:=(b.length:Int)-p<size) (fun ht34=>?_) (fun ht34=>?_)
 .
  refine qev ?_;exact zG rfl rfl (za rfl ((zgB (zbp (.inr (.inr (.inr (.inr ht34)))))).symm)) (za rfl ((zbp (.inr (.inr (.inr (.inr ht34))))).symm))
 have hok:=zs5 g12 g15 g19 g25 ht34;obtain⟨M,hM⟩:∃M,M=(b.drop p.toNat).take size.toNat:=⟨_,rfl⟩;have hml:M.length=size.toNat:=ycp;refine CSQR ?_;refine qag ?_;refine qal ?_;refine qd9 ?_;refine qeT ?_;refine zj (d:=40) (y:=M) rfl (by rw[hM,List.drop_take];congr 1;omega) ?_;refine qcr ?_;refine qaF ?_;refine Lp (ι:=Nat) 0 (fun (k:Nat)=>((((Fr.none).set 8 (.val u64T (valU (M.take k)))).set 40 (.val (bsl u8T) M)).set 41 (.val i64T (M.length:Int))).set 42 (.val i64T (k:Int))) (fun (k:Nat)=>Hp.none) (fun (k:Nat)=>k<=M.length) (fun (k:Nat)=>M.length-k) (0) (uf _) ?_;intro k hinv;refine qap ?_;refine Cf (p:=k<M.length) (fun ht43=>?_) (fun ht43=>?_)
 .
  obtain⟨x,hx⟩:∃x,M[k]?=some x:=⟨_,ub ht43⟩;refine qeh ?_;refine A0 (zx (i:=k) rfl rfl rfl ya zb0 yj) ?_;refine A0 (zh rfl rfl ty_5) ?_;refine A0 aX ?_;refine qf1 ?_;refine A0 (zlL rfl rfl rfl yp rfl) ?_;refine A0 mX ?_;refine A0 (zg0 rfl (zlp) (us_5) rfl) ?_;refine A0 (zs6 rfl rfl rfl) ?_;refine A0 aV ?_;refine qb8 ?_;refine zj (d:=8) (y:=valU (M.take (k+1))) rfl (by rw[un,hx];show _=valU (M.take k++[x]);rw[zrZ];rfl) ?_;exact Nx (k+1) ya ya
 refine qaU ?_;refine qaz ?_;refine qb2 ?_;exact zG rfl rfl (za rfl (by rw[zgm hok,uc ya,hM])) (za rfl (hok.symm))
theorem binBlob_ok (x:List UInt8):Tells P 269 [.val (bsl u8T) x] (.tup2 (.fresh 5 u8T (zmJ x)) (.val zo (zcn x))):=by
 refine zc Tryz.func269 rfl rfl rfl (fun ext w hext=>?_);refine ze (d:=0) rfl zk (fun hsl0=>?_);refine qau ?_;refine qag ?_;refine qcr ?_;refine qc2 ?_;refine Cf (p:=65535<x.length) (fun ht6=>?_) (fun ht6=>?_)
 .
  refine qbE ?_;exact zG rfl rfl ybG (za rfl (by unfold zcn;symm;apply uh;omega))
 have hbo:zcn x=true:=ui ya;have hn:=zF (zK (IntL.toI i64T (x.length:Int))) 2;refine qbY ?_;refine qcr ?_;refine qd1 ?_;refine A0 (oCl (zu (zla _ 2 yl)) rfl zwq ye) ?_;refine zfi (S:=bsl u8T) (d:=10) rfl ?_;refine qaz ?_;refine qbW ?_;refine zao (zg3 [zB (zK (IntL.toI i64T (x.length:Int))) 2,x] (by simp[hn];omega)) rfl zp3 yd rfl rfl rfl ?_;refine qcl ?_;exact zG rfl rfl (zf rfl rfl (by unfold zmJ;rw[ut hbo];unfold zh0;simp[IntL.toI])) (za rfl (hbo.symm))
theorem binCut_ok (b:List UInt8) (p:Int) (hb:b.length<=1000000000):Tells P 274 [.val (bsl u8T) b,.val i64T p] (.tup3 (.fresh 5 u8T (cutX b p)) (.val i64T (ziA b p)) (.val zo (cutE b p))):=by
 have hu:=zux (b:=b) (p:=p);refine zc Tryz.func274 rfl rfl rfl (fun ext w hext=>?_);refine ze (d:=0) rfl zk (fun hsl0=>?_);refine ze (d:=1) rfl zz (fun hin1=>?_);refine qau ?_;refine A0 aV ?_;refine qbL ?_;refine A0 (oCl (ztE b p 2) rfl fn_233 yL) ?_;refine qbF ?_;refine A0 oN ?_;refine zX (d:=18) (p:=zc7 b p 2=false) rfl (by cases zc7 b p 2<;>rfl) (fun g18=>?_) (fun g18=>?_)
 .
  have hcn:cutE b p=false:=by unfold cutE;rw[g18];rfl
  refine qf6 ?_;refine qab ?_;refine qdg ?_;refine Ct ?_;refine qau ?_;refine qb2 ?_;exact zdM rfl rfl ybu (za rfl (by rw[(zme hcn).2])) (za rfl hcn.symm)
 have hg:zc7 b p 2=true:=by simpa using g18
 have hu2:=hu hg;have hgs:0<=p/\p<=b.length/\2<=(b.length:Int)-p:=by have h:=hg;unfold zc7 at h;rw[uj] at h;omega
 have hti:IntL.toI u64T (getU b p 2)=((getU b p 2).toNat:Int):=rfl;refine qaz ?_;refine qfY ?_;refine A1 (zhs rfl (ui_3) (zqB) rfl yaE) ?_;refine qfY ?_;refine qeq ?_;refine A1 zc3 ?_;refine qeK ?_;refine Cf (p:=(b.length:Int)-p-2<((getU b p 2).toNat:Int)) (fun ht28=>?_) (fun ht28=>?_)
 .
  have hcn:cutE b p=false:=ycq;refine qau ?_;refine qb2 ?_;exact zdM rfl rfl ybu (za rfl (by rw[(zme hcn).2])) (za rfl hcn.symm)
 have hce:cutE b p=true:=by unfold cutE;rw[hg,Bool.true_and,uj];omega
 refine qbY ?_;refine qfX ?_;refine qcT ?_;refine A0 aV ?_;refine qbL ?_;refine qal ?_;refine A0 (zwe rfl rfl rfl rfl rfl zb0 yh) ?_;refine zj (d:=40) (y:=cutX b p) rfl ybT ?_;have hcl:(cutX b p).length<=b.length:=by rw[(ziz hce).1,um,length_drop];omega
 refine zao (cloneU8 (cutX b p) yV) rfl fn_323 yd rfl rfl rfl ?_;refine qaz ?_;refine A0 aO ?_;refine qb2 ?_;exact zdM rfl rfl (zf rfl rfl yw) (za rfl (by rw[(ziz hce).2,hti])) (za rfl hce.symm)
theorem binRows_ok (l:List (List UInt8)):Tells P 219 [.val (bsl (bsl u8T)) l] (.tup2 (.fresh 5 u8T (zjJ l)) (.val zo (zdj l))):=by
 refine zc Tryz.func219 rfl rfl rfl (fun ext w hext=>?_);refine ze (d:=0) rfl zk (fun hsl0=>?_);refine qau ?_;refine qag ?_;refine qc6 ?_;refine qc2 ?_;refine Cf (p:=255<l.length) (fun ht11=>?_) (fun ht11=>?_)
 .
  refine qbE ?_;exact zG rfl rfl (by rw[show zjJ l=[] by unfold zjJ;rw[ur (by rw[zqP ht11];decide)]];exact zs rfl) (za rfl ((zqP ht11).symm))
 refine qbY ?_;refine qc6 ?_;refine qcF ?_;refine qbD ?_;refine qc6 ?_;refine qaF ?_;refine zq (n:=0) (y:=zlz l 0) rfl (by rfl) ?_;refine Lp (ι:=Nat) 1 (fun (k:Nat)=>(((((Fr.none).set 0 (.val (bsl (bsl u8T)) l)).set 4 (.own 0)).set 16 (.val (bsl (bsl u8T)) l)).set 17 (.val i64T (l.length:Int))).set 18 (.val i64T (k:Int))) (fun (k:Nat)=>(Hp.none).set 0 (.row 5 u8T (zlz l k))) (fun (k:Nat)=>k<=l.length/\∀x∈l.take k,zcn x=true) (fun (k:Nat)=>l.length-k) (0) (⟨uf _,fun x hx=>by simp at hx⟩) ?_;intro k hinv;refine qap ?_;refine Cf (p:=k<l.length) (fun ht19=>?_) (fun ht19=>?_)
 .
  obtain⟨x,hx⟩:∃x,l[k]?=some x:=⟨_,ub ht19⟩;have hnl:=zst hinv.2;refine qeh ?_;refine A0 (zx (i:=k) rfl rfl rfl ya zcK yj) ?_;refine qcC ?_;refine qfw ?_;refine A0 (oCl (zbi (binBlob_ok x)) rfl fn_269 yb1) ?_;refine qbF ?_;refine qaT ?_;refine zl (p:=¬zcn x=true) rfl (by cases zcn x<;>rfl) (fun ht28=>?_) (fun ht28=>?_)
  .
   refine qbE ?_;exact zG rfl rfl (by rw[show zjJ l=[] by unfold zjJ;rw[ur (by rw[zmT hx ht28];decide)]];exact zs rfl) (za rfl ((zmT hx ht28).symm))
  have hbo:zcn x=true:=ua ht28;have hbr:zmJ x=zh0 x:=by unfold zmJ;rw[ut hbo]
  have hbx:=of_decide_eq_true hbo;have hbl:=znd x;refine CS ?_;refine qcU ?_;refine qaz ?_;refine zp rfl rfl rfl rfl rfl rfl rfl zat (by rw[hbr];simp;omega) ?_;refine qem ?_;refine qbI ?_;refine zq (n:=0) (y:=zlz l (k+1)) rfl (by rw[hbr,zpD hx]) ?_;exact Nx (k+1) (⟨by omega,fun y hy=>by rw[un,hx] at hy;rcases mem_append.1 hy with h|h;exact hinv.2 y h;simp at h;rw[h];exact hbo⟩) ya
 refine qeY ?_;refine qcl ?_;exact zG rfl rfl (zf rfl rfl (by unfold zjJ;rw[zmU ht11 hinv.2 ya,ut rfl];exact zsu ya)) (za rfl ((zmU ht11 hinv.2 ya).symm))
end Go.Proofs.YtikaeepohlkjdaaGreat
