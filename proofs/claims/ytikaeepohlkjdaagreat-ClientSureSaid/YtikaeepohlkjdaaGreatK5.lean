/- Parts of the proof: the layer that reads Go values as data, and what the functions of the program tell. -/
import Derived.Test.YtikaeepohlkjdaaGreatK4
set_option linter.unusedVariables false
set_option linter.unusedSimpArgs false
set_option maxRecDepth 20000
namespace Go.Proofs.YtikaeepohlkjdaaGreat
open Go.Ab Go.RowKit
def setN {α:Type} (f:Nat→α) (z:List α) (k:Nat):List α:=(List.range k).foldl (fun l i=>l.set i (f i)) z
theorem znW {α:Type} {f:Nat→α} {z:List α} {k:Nat}:(setN f z k).set k (f k)=setN f z (k+1):=(zfj (f:=fun (l:List α) i=>l.set i (f i))).symm
theorem zrm {α:Type} {f:Nat→α} {z:List α} {k:Nat} (h:z.length=k):setN f z k=(List.range k).map f:=by
  apply List.ext_getElem?;intro j;unfold setN;rw[ziQ,List.getElem?_map];by_cases c:j<k
  · rw[ut ⟨c,by omega⟩,List.getElem?_range c];rfl
  rw[ur yc,List.getElem?_eq_none yc,List.getElem?_eq_none yx];rfl
theorem znu {a:Ab.Id} {ρ:Nat→Value} {B:Nat→Prop} {U N:Nat→Prop} {w:World} {v:Value} (h:(AV.val idT a).rel ρ B U N w v):a.length=32:=by
  obtain⟨cs,h,_⟩:=h;exact h.1
theorem zfk {a:Wide} {ρ:Nat→Value} {B:Nat→Prop} {U N:Nat→Prop} {w:World} {v:Value} (h:(AV.val zaL a).rel ρ B U N w v):a.length=4:=by
  obtain⟨cs,h,_⟩:=h;exact h.1
def cmpU (x y:UInt64):Int:=if x<y then -1 else if y<x then 1 else 0
def atW (a:Wide) (i:Int):UInt64:=if i<0∨4≤i then 0 else a.getD i.toNat default
def upF (a:Wide) (n:Int) (i:Nat):UInt64:=zm1 (atW a ((i:Int)-n/64)) (n%64).toNat|||za6 (za6 (atW a ((i:Int)-n/64-1)) 1) (63-n%64).toNat
def upW (a:Wide) (n:Int):Wide:=if n<0 then a else if 256≤n then zdj else (List.range 4).map (upF a n)
def downF (a:Wide) (n:Int) (i:Nat):UInt64:=za6 (atW a ((i:Int)+n/64)) (n%64).toNat|||zm1 (zm1 (atW a ((i:Int)+n/64+1)) 1) (63-n%64).toNat
def downW (a:Wide) (n:Int):Wide:=if n<0 then a else if 256≤n then zdj else (List.range 4).map (downF a n)
def byteF (a:Wide) (i:Nat):UInt8:=zcl (IntL.toI u64T (za6 (a.getD (3-i/8) default) (56-8*((i:Int)%8)).toNat))
def zgx (a:Wide):Ab.Id:=(List.range 32).map (byteF a)
def of32S (b:Ab.Id) (w:Wide) (i:Nat):Wide:=w.set (3-i/8) (zm1 (w.getD (3-i/8) default) 8|||zae (IntL.toI u8T (b.getD i default)))
def of32N (b:Ab.Id) (k:Nat):Wide:=(List.range k).foldl (of32S b) zdj
def zlX (b:Ab.Id):Wide:=of32N b 32
def cmpW (a b:Wide):Int:=orL [cmpU (a.getD 3 default) (b.getD 3 default),cmpU (a.getD 2 default) (b.getD 2 default),cmpU (a.getD 1 default) (b.getD 1 default),cmpU (a.getD 0 default) (b.getD 0 default)]
theorem ztD (x:UInt64):Tells P 326 [.val u64T x] (.val zm false):=by
 refine zc Tryz.func326 rfl rfl rfl (fun ext w hext=>?_);refine qbJ ?_;refine qax ?_;refine A0 zdQ ?_;refine qad ?_;exact zb rfl rfl (zcP (by simp[Fr.set]))
theorem zsf (x y:UInt64):Tells P 279 [.val u64T x,.val u64T y] (.val i64T (cmpU x y)):=by
 refine zc Tryz.func279 rfl rfl rfl (fun ext w hext=>?_);refine qbJ ?_;refine A0 (oCl (ztD _) rfl fn_326 yf) ?_;refine qag ?_;refine A0 (oCl (ztD _) rfl fn_326 yf) ?_;refine qaj ?_;refine CN ?_;refine Cg ?_;refine qbM ?_;refine CN ?_;refine Cg ?_;refine CSQQR ?_;refine qao ?_;refine qaY ?_;refine zn (p:=x<y) rfl (by simp[IntL.toI,UInt64.lt_iff_toNat_lt]) (fun ht16=>?_) (fun ht16=>?_)
 ·
  refine qas ?_;exact zb rfl rfl (za rfl y8)
 refine CSQQR ?_;refine qao ?_;refine qcC ?_;refine zn (p:=y<x) rfl (by simp[IntL.toI,UInt64.lt_iff_toNat_lt]) (fun ht19=>?_) (fun ht19=>?_)
 ·
  refine qas ?_;exact zb rfl rfl (za rfl y8)
 refine CSQR ?_;refine qad ?_;exact zb rfl rfl (za rfl y8)
theorem zxF (a:Wide) (i:Int):Tells P 235 [.val zaL a,.val i64T i] (.val u64T (atW a i)):=by
 refine zc Tryz.func235 rfl rfl rfl (fun ext w hext=>?_);refine ze (d:=1) rfl zt (fun hin1=>?_);refine ze (d:=0) rfl zfk (fun ha=>?_);refine qae ?_;refine qaj ?_;refine A0 zb2 ?_;refine Sp (d:=6) (p:=i<0) (fun g6=>?_) (fun g6=>?_)
 ·
  refine qax ?_;refine A2 ?_;refine qco ?_;refine Ct ?_;refine qas ?_;exact zb rfl rfl (za rfl (by unfold atW;rw[ut (.inl g6)];rfl))
 refine qax ?_;refine A1 mV ?_;refine A1 zfd ?_;refine Sp (d:=9) (p:=4≤i) (fun g9=>?_) (fun g9=>?_)
 ·
  refine qaw ?_;refine Ct ?_;refine qas ?_;exact zb rfl rfl (za rfl (by unfold atW;rw[ut (.inr g9)];rfl))
 refine qaw ?_;refine Cg ?_;refine qcG ?_;refine A0 (zG (i:=i.toNat) rfl rfl rfl yn zcS yc) ?_;refine A0 (zz rfl rfl rfl (Lens.elem (i:=i.toNat) yc u64T) zcE) ?_;refine qad ?_;exact zb rfl rfl (za rfl (by unfold atW;rw[ur yc]))
theorem upW_ok (a:Wide) (n:Int):Tells P 176 [.val zaL a,.val i64T n] (.val zaL (upW a n)):=by
 refine zc Tryz.func176 rfl rfl rfl (fun ext w hext=>?_);refine ze (d:=1) rfl zt (fun hin1=>?_);refine ze (d:=0) rfl zfk (fun ha=>?_);refine qae ?_;refine qaO ?_;refine qbg ?_;refine qaY ?_;refine Cf (p:=n<0) (fun ht10=>?_) (fun ht10=>?_)
 ·
  refine qcr ?_;exact zag rfl rfl rfl rfl za1 (by unfold upW;rw[ut ht10])
 refine qbM ?_;refine qbZ ?_;refine Cf (p:=256≤n) (fun ht13=>?_) (fun ht13=>?_)
 ·
  refine qb8 ?_;refine CN ?_;exact zag rfl rfl rfl rfl za1 (by unfold upW;rw[ur ht10,ut ht13])
 refine CSQR ?_;refine qaO ?_;refine CNQR ?_;refine qax ?_;refine qbV ?_;refine qax ?_;refine qb0 ?_;refine A0 aV ?_;refine qaj ?_;refine CNB ?_;refine Lp (ι:=Nat) 3 (fun (k:Nat)=>((((((Fr.none).set 2 (.ptr 0 0)).set 4 (.ptr 1 0)).set 5 (.ptr 2 0)).set 6 (.val i64T (n/64))).set 7 (.val i64T (n%64))).set 19 (.val i64T (k:Int))) (fun (k:Nat)=>(((Hp.none).set 0 (.box 52 zaL a)).set 1 (.box 52 zaL zdj)).set 2 (.box 52 zaL (setN (upF a n) zdj k))) (fun (k:Nat)=>k≤4) (fun (k:Nat)=>4-k) (0) (uf _) ?_;intro k hinv;refine qak ?_;refine Cf (p:=k<4) (fun ht20=>?_) (fun ht20=>?_)
 ·
  refine qaE ?_;refine qad ?_;refine zx [some 1,some 1,some 1,some 1,some 1,some 1,some 1,some 1,some 1,some 1,some 1,some 1,some 1,some 1,some 1,some 1,some 1,some 1,some 1,some 1,none] mixed ye ?_;refine X0 mV ?_;refine xw ?_;refine qcz ?_;refine X0 zbb ?_;refine X0 (oCl (zxF _ _) rfl zw8 yl) ?_;refine X0 mV ?_;refine X0 (zl3 rfl rfl rfl ym rfl) ?_;refine xw ?_;refine qcz ?_;refine X0 zbb ?_;refine X0 zbb ?_;refine X0 (oCl (zxF _ _) rfl zw8 yl) ?_;refine X0 (zch rfl rfl rfl ym rfl) ?_;refine X0 mV ?_;refine X0 zbb ?_;refine X0 (zch rfl rfl rfl ym rfl) ?_;refine X0 (ztM rfl rfl rfl) ?_;refine xx ?_;refine XK.e (x:=.idk) (fun fr' hfr kk H=>by exact zf rfl rfl rfl ((hfr 41 ye).trans rfl) rfl (Lens.elem (i:=k) yc u64T) zcE ((hfr 40 ye).trans rfl) (zr H)) ?_;refine qaJ ?_;refine zP (n:=2) (y:=setN (upF a n) zdj (k+1)) rfl znW ?_;exact Nx (k+1) yc yc
 obtain rfl:k=4:=yc;refine CE ?_;refine qcr ?_;exact zag rfl rfl rfl rfl za1 (by unfold upW;rw[ur ht10,ur ht13];exact zrm rfl)
theorem downW_ok (a:Wide) (n:Int):Tells P 243 [.val zaL a,.val i64T n] (.val zaL (downW a n)):=by
 refine zc Tryz.func243 rfl rfl rfl (fun ext w hext=>?_);refine ze (d:=1) rfl zt (fun hin1=>?_);refine ze (d:=0) rfl zfk (fun ha=>?_);refine qae ?_;refine qaO ?_;refine qbg ?_;refine qaY ?_;refine Cf (p:=n<0) (fun ht10=>?_) (fun ht10=>?_)
 ·
  refine qcr ?_;exact zag rfl rfl rfl rfl za1 (by unfold downW;rw[ut ht10])
 refine qbM ?_;refine qbZ ?_;refine Cf (p:=256≤n) (fun ht13=>?_) (fun ht13=>?_)
 ·
  refine qb8 ?_;refine CN ?_;exact zag rfl rfl rfl rfl za1 (by unfold downW;rw[ur ht10,ut ht13])
 refine CSQR ?_;refine qaO ?_;refine CNQR ?_;refine qax ?_;refine qbV ?_;refine qax ?_;refine qb0 ?_;refine A0 aV ?_;refine qaj ?_;refine CNB ?_;refine Lp (ι:=Nat) 3 (fun (k:Nat)=>((((((Fr.none).set 2 (.ptr 0 0)).set 4 (.ptr 1 0)).set 5 (.ptr 2 0)).set 6 (.val i64T (n/64))).set 7 (.val i64T (n%64))).set 19 (.val i64T (k:Int))) (fun (k:Nat)=>(((Hp.none).set 0 (.box 52 zaL a)).set 1 (.box 52 zaL zdj)).set 2 (.box 52 zaL (setN (downF a n) zdj k))) (fun (k:Nat)=>k≤4) (fun (k:Nat)=>4-k) (0) (uf _) ?_;intro k hinv;refine qak ?_;refine Cf (p:=k<4) (fun ht20=>?_) (fun ht20=>?_)
 ·
  refine qaE ?_;refine qad ?_;refine zx [some 1,some 1,some 1,some 1,some 1,some 1,some 1,some 1,some 1,some 1,some 1,some 1,some 1,some 1,some 1,some 1,some 1,some 1,some 1,some 1,none] mixed ye ?_;refine X0 mV ?_;refine xw ?_;refine qcz ?_;refine X0 zdp ?_;refine X0 (oCl (zxF _ _) rfl zw8 yl) ?_;refine X0 mV ?_;refine X0 (zch rfl rfl rfl ym rfl) ?_;refine xw ?_;refine qcz ?_;refine X0 zdp ?_;refine X0 zdp ?_;refine X0 (oCl (zxF _ _) rfl zw8 yl) ?_;refine X0 (zl3 rfl rfl rfl ym rfl) ?_;refine X0 mV ?_;refine X0 zbb ?_;refine X0 (zl3 rfl rfl rfl ym rfl) ?_;refine X0 (ztM rfl rfl rfl) ?_;refine xx ?_;refine XK.e (x:=.idk) (fun fr' hfr kk H=>by exact zf rfl rfl rfl ((hfr 41 ye).trans rfl) rfl (Lens.elem (i:=k) yc u64T) zcE ((hfr 40 ye).trans rfl) (zr H)) ?_;refine qaJ ?_;refine zP (n:=2) (y:=setN (downF a n) zdj (k+1)) rfl znW ?_;exact Nx (k+1) yc yc
 obtain rfl:k=4:=yc;refine CE ?_;refine qcr ?_;exact zag rfl rfl rfl rfl za1 (by unfold downW;rw[ur ht10,ur ht13];exact zrm rfl)
theorem zuh (a:Wide):Tells P 137 [.val zaL a] (.val idT (zgx a)):=by
 refine zc Tryz.func137 rfl rfl rfl (fun ext w hext=>?_);refine ze (d:=0) rfl zfk (fun ha=>?_);refine qae ?_;refine qaM ?_;refine CNQR ?_;refine qaM ?_;refine CNQQR ?_;refine qa2 ?_;refine Lp (ι:=Nat) 3 (fun (k:Nat)=>((((Fr.none).set 1 (.ptr 0 0)).set 2 (.ptr 1 0)).set 3 (.ptr 2 0)).set 5 (.val i64T (k:Int))) (fun (k:Nat)=>(((Hp.none).set 0 (.box 52 zaL a)).set 1 (.box 49 idT zId)).set 2 (.box 49 idT (setN (byteF a) zId k))) (fun (k:Nat)=>k≤32) (fun (k:Nat)=>32-k) (0) (uf _) ?_;intro k hinv;refine qak ?_;refine Cf (p:=k<32) (fun ht6=>?_) (fun ht6=>?_)
 ·
  refine qaE ?_;refine qc5 ?_;refine qao ?_;refine qbV ?_;refine A0 zbb ?_;refine A0 (zG (i:=3-k/8) rfl rfl rfl yn zcS yc) ?_;refine A0 (zz rfl rfl rfl (Lens.elem (i:=3-k/8) yc u64T) zcE) ?_;refine qax ?_;refine qb0 ?_;refine A0 zpG ?_;refine A0 zbb ?_;refine xk ?_;refine xj ?_;refine A0 (zG (i:=k) rfl rfl rfl yn zjH yc) ?_;refine zf rfl rfl rfl rfl rfl (Lens.elem (i:=k) yc u8T) ty_5 rfl ?_;refine qbh ?_;refine zP (n:=2) (y:=setN (byteF a) zId (k+1)) rfl znW ?_;exact Nx (k+1) yc yc
 obtain rfl:k=32:=yc;refine CE ?_;refine CQR ?_;refine qb2 ?_;refine qau ?_;refine CN ?_;exact zag rfl rfl rfl rfl zaj (zrm rfl)
theorem zwA (b:Ab.Id):Tells P 175 [.val idT b] (.val zaL (zlX b)):=by
 refine zc Tryz.func175 rfl rfl rfl (fun ext w hext=>?_);refine ze (d:=0) rfl znu (fun hb=>?_);refine qae ?_;refine qaO ?_;refine CNQR ?_;refine qaO ?_;refine CNQQR ?_;refine qb2 ?_;refine qa2 ?_;refine Lp (ι:=Nat) 3 (fun (k:Nat)=>((((Fr.none).set 2 (.ptr 1 0)).set 3 (.ptr 2 0)).set 7 (.val idT b)).set 8 (.val i64T (k:Int))) (fun (k:Nat)=>((Hp.none).set 1 (.box 52 zaL zdj)).set 2 (.box 52 zaL (of32N b k))) (fun (k:Nat)=>k≤32) (fun (k:Nat)=>32-k) (0) (uf _) ?_;intro k hinv;refine qak ?_;refine Cf (p:=k<32) (fun ht9=>?_) (fun ht9=>?_)
 ·
  obtain⟨x,hx⟩:∃x,b[k]?=some x:=yv;refine qaE ?_;refine A0 (ziO rfl rfl rfl rfl zjH ty_5 yh) ?_;refine A0 aV ?_;refine qag ?_;refine qbV ?_;refine A0 zbb ?_;refine qc5 ?_;refine qao ?_;refine A0 (zG (i:=3-k/8) rfl rfl rfl yn zcS yc) ?_;refine A0 (zz rfl rfl rfl (Lens.elem (i:=3-k/8) yc u64T) zcE) ?_;refine A0 (zl3 rfl rfl rfl ym rfl) ?_;refine qax ?_;refine A0 (zjP rfl (znH) (us_5) rfl) ?_;refine A0 (ztM rfl rfl rfl) ?_;refine A0 (zG (i:=3-k/8) rfl rfl rfl yn zcS yc) ?_;refine zf rfl rfl rfl rfl rfl (Lens.elem (i:=3-k/8) yc u64T) zcE rfl ?_;refine qbh ?_;refine zP (n:=2) (y:=of32N b (k+1)) rfl (by unfold of32N;rw[zfj];unfold of32S;rw[uq (l:=b),hx];rfl) ?_;exact Nx (k+1) yc yc
 obtain rfl:k=32:=yc;refine CE ?_;refine qcr ?_;exact zag rfl rfl rfl rfl za1 (rfl)
theorem cmpW_ok (a b:Wide):Tells P 242 [.val zaL a,.val zaL b] (.val i64T (cmpW a b)):=by
 refine zc Tryz.func242 rfl rfl rfl (fun ext w hext=>?_);refine qay ?_;refine qbI ?_;refine G0 (zG (i:=3) rfl rfl rfl yn zcS yc) ?_;refine G0 (zz rfl rfl rfl (Lens.elem (i:=3) yc u64T) zcE) ?_;refine G0 (zG (i:=3) rfl rfl rfl yn zcS yc) ?_;refine G0 (zz rfl rfl rfl (Lens.elem (i:=3) yc u64T) zcE) ?_;refine G0 (oCl (zsf _ _) rfl zw7 yl) ?_;refine G0 (zG (i:=2) rfl rfl rfl yn zcS yc) ?_;refine G0 (zz rfl rfl rfl (Lens.elem (i:=2) yc u64T) zcE) ?_;refine G0 (zG (i:=2) rfl rfl rfl yn zcS yc) ?_;refine G0 (zz rfl rfl rfl (Lens.elem (i:=2) yc u64T) zcE) ?_;refine G0 (oCl (zsf _ _) rfl zw7 yl) ?_;refine G0 (zG (i:=1) rfl rfl rfl yn zcS yc) ?_;refine G0 (zz rfl rfl rfl (Lens.elem (i:=1) yc u64T) zcE) ?_;refine G0 (zG (i:=1) rfl rfl rfl yn zcS yc) ?_;refine G0 (zz rfl rfl rfl (Lens.elem (i:=1) yc u64T) zcE) ?_;refine G0 (oCl (zsf _ _) rfl zw7 yl) ?_;refine G0 (zG (i:=0) rfl rfl rfl yn zcS yc) ?_;refine G0 (zz rfl rfl rfl (Lens.elem (i:=0) yc u64T) zcE) ?_;refine G0 (zG (i:=0) rfl rfl rfl yn zcS yc) ?_;refine G0 (zz rfl rfl rfl (Lens.elem (i:=0) yc u64T) zcE) ?_;refine G0 (oCl (zsf _ _) rfl zw7 yl) ?_;refine G0 (zX (T:=i64T) (xs:=[_,_,_,_]) rfl zbR zeo ⟨rfl,rfl,rfl,rfl,rfl,rfl,rfl,rfl,trivial⟩ rfl rfl) ?_;refine G0 (oCl (orInt _) rfl fn_278 yf) ?_;refine qaP ?_;exact zb rfl rfl (za rfl rfl)
def ofW (n:UInt64):Wide:=[n,0,0,0]
def tgtM (bits:UInt32):UInt64:=zae (IntL.toI u32T (bits&&&16777215))
def tgtE (bits:UInt32):Int:=IntL.toI u32T (zpy bits 24)
def zbQ (bits:UInt32):Bool:=decide (3≤tgtE bits∧tgtE bits≤32∧32768≤(tgtM bits).toNat∧(tgtM bits).toNat<8388608)
def tgtW (bits:UInt32):Wide:=if zbQ bits=true then upW (ofW (tgtM bits)) (8*(tgtE bits-3)) else zdj
theorem zwz (n:UInt64):Tells P 177 [.val u64T n] (.val zaL (ofW n)):=by
 refine zc Tryz.func177 rfl rfl rfl (fun ext w hext=>?_);refine CQR ?_;refine qaO ?_;refine CNQR ?_;refine qax ?_;refine A0 (g_buildP (T:=u64T) (xs:=[_]) rfl zcS zq7 yB rfl rfl) ?_;refine qat ?_;refine CN ?_;exact zag rfl rfl rfl rfl za1 (rfl)
theorem znN (bits:UInt32):Tells P 113 [.val u32T bits] (.tup2 (.val zaL (tgtW bits)) (.val zm (zbQ bits))):=by
 have he0:0≤tgtE bits:=Int.natCast_nonneg _;have heL:tgtE bits<4294967296:=by have:(zpy bits 24).toNat<4294967296:=(zpy bits 24).toNat_lt;show((zpy bits 24).toNat:Int)<4294967296;omega
 refine zc Tryz.func113 rfl rfl rfl (fun ext w hext=>?_);refine CQR ?_;refine qaO ?_;refine qag ?_;refine A0 (zoC rfl rfl rfl ym rfl) ?_;refine A0 (zm8 rfl (ui_3) (us_53) rfl (zax (by show -9223372036854775808≤tgtE bits∧tgtE bits≤9223372036854775807;omega))) ?_;refine zj (d:=8) (y:=tgtE bits) rfl rfl ?_;refine qax ?_;refine A0 (zl6 rfl rfl rfl) ?_;refine A0 (zjP rfl (znH) (us_53) rfl) ?_;refine zj (d:=11) (y:=tgtM bits) rfl rfl ?_;refine A0 aV ?_;refine qaj ?_;refine A0 zb2 ?_;refine Sp (d:=13) (p:=tgtE bits<3) (fun g13=>?_) (fun g13=>?_)
 ·
  refine qax ?_;refine qaX ?_;refine A2 ?_;refine qal ?_;refine A2 ?_;refine qco ?_;refine Ct ?_;refine qb8 ?_;refine qad ?_;exact zq rfl rfl (zl rfl rfl za1 yay) (zT (za rfl ybg))
 refine qax ?_;refine qck ?_;refine Sp (d:=16) (p:=32<tgtE bits) (fun g16=>?_) (fun g16=>?_)
 ·
  refine qal ?_;refine qaX ?_;refine qco ?_;refine Ct ?_;refine qb8 ?_;refine qad ?_;exact zq rfl rfl (zl rfl rfl za1 yay) (zT (za rfl ybg))
 refine qal ?_;refine A1 mV ?_;refine A1 zb2 ?_;refine zaP (d:=20) (p:=(tgtM bits).toNat<32768) rfl (by rw[uo];show((tgtM bits).toNat:Int)<(32768:Int)↔_;omega) (fun g20=>?_) (fun g20=>?_)
 ·
  refine qal ?_;refine A2 ?_;refine qco ?_;refine Ct ?_;refine qb8 ?_;refine qad ?_;exact zq rfl rfl (zl rfl rfl za1 yay) (zT (za rfl ybg))
 refine qal ?_;refine A1 mV ?_;refine A1 zfd ?_;refine zaP (d:=24) (p:=8388608≤(tgtM bits).toNat) rfl (by rw[uo];show(8388608:Int)≤((tgtM bits).toNat:Int)↔_;omega) (fun g24=>?_) (fun g24=>?_)
 ·
  refine qaw ?_;refine Ct ?_;refine qb8 ?_;refine qad ?_;exact zq rfl rfl (zl rfl rfl za1 yay) (zT (za rfl ybg))
 refine qaw ?_;refine Cg ?_;refine qcG ?_;refine A0 (oCl (zwz _) rfl zw9 yf) ?_;refine qcb ?_;refine A0 zpG ?_;refine A0 (oCl (upW_ok _ _) rfl fn_176 yl) ?_;refine qat ?_;refine qad ?_;exact zq rfl rfl (zl rfl rfl za1 (by unfold tgtW;rw[ut ybd])) (zT (za rfl (by unfold zbQ;symm;apply ui;omega)))
set_option maxRecDepth 20000
theorem ext_Add64:ExtAt P 276 add64E:=⟨_,rfl,rfl,rfl,rfl,rfl⟩
theorem ext_Sub64:ExtAt P 359 sub64E:=⟨_,rfl,rfl,rfl,rfl,rfl⟩
def zcz (f g:UInt64→UInt64→UInt64→UInt64) (a b:Wide) (k:Nat):Wide×UInt64:=(List.range k).foldl (fun x i=>(x.1.set i (f (x.1.getD i default) (b.getD i default) x.2),g (x.1.getD i default) (b.getD i default) x.2)) (a,0)
theorem zeZ {f g:UInt64→UInt64→UInt64→UInt64} {a b:Wide} {k:Nat}:zcz f g a b (k+1)=((zcz f g a b k).1.set k (f ((zcz f g a b k).1.getD k default) (b.getD k default) (zcz f g a b k).2),g ((zcz f g a b k).1.getD k default) (b.getD k default) (zcz f g a b k).2):=by unfold zcz;rw[zfj]
def addW (a b:Wide):Wide:=(zcz addS addC a b 4).1
def addOk (a b:Wide):Bool:=decide ((zcz addS addC a b 4).2.toNat=0)
def subW (a b:Wide):Wide:=(zcz subS subC a b 4).1
def subOk (a b:Wide):Bool:=decide ((zcz subS subC a b 4).2.toNat=0)
theorem zvI (a b:Wide):Tells P 275 [.val zaL a,.val zaL b,.clo 276 []] (.tup2 (.val zaL (zcz addS addC a b 4).1) (.val zm (decide ((zcz addS addC a b 4).2.toNat=0)))):=by
 refine zc Tryz.func275 rfl rfl rfl (fun ext w hext=>?_);refine qay ?_;refine qaO ?_;refine qaz ?_;refine qaj ?_;refine CNB ?_;refine Lp (ι:=Nat) 3 (fun (k:Nat)=>((((((Fr.none).set 2 (.clo 276 [])).set 3 (.ptr 0 0)).set 4 (.ptr 1 0)).set 6 (.ptr 2 0)).set 8 (.val u64T (zcz addS addC a b k).2)).set 10 (.val i64T (k:Int))) (fun (k:Nat)=>(((Hp.none).set 0 (.box 52 zaL (zcz addS addC a b k).1)).set 1 (.box 52 zaL b)).set 2 (.box 52 zaL zdj)) (fun (k:Nat)=>k≤4∧(zcz addS addC a b k).2.toNat≤1) (fun (k:Nat)=>4-k) (0) (⟨uf _,uf 1⟩) ?_;intro k hinv;refine qak ?_;refine Cf (p:=k<4) (fun ht11=>?_) (fun ht11=>?_)
 ·
  refine qaE ?_;refine qad ?_;refine zx [some 1,some 1,some 1,some 1,some 1,some 1,some 1,some 1,some 1,some 1,some 1,some 1,some 1000001,some 1,none,some 1] mixed ye ?_;refine X0 mV ?_;refine X0 mC ?_;refine X0 mV ?_;refine xx ?_;refine xy ?_;refine X0 mV ?_;refine xx ?_;refine xy ?_;refine X0 mV ?_;refine X0 (g_ext3 rfl ext_Add64 rfl rfl rfl rfl (fun P w=>Go.Ab.run_add64 P w _ _ hinv.2)) ?_;refine X0 mX ?_;refine X0 yZ ?_;refine XK.ga yac rfl rfl rfl ?_;refine xx ?_;refine XK.e (x:=.idk) (fun fr' hfr kk H=>by exact zf rfl rfl rfl ((hfr 26 ye).trans rfl) rfl (Lens.elem (i:=k) yc u64T) zcE ((hfr 24 ye).trans rfl) (zr H)) ?_;refine X0 aX ?_;refine qaJ ?_;refine zP (n:=0) (y:=(zcz addS addC a b (k+1)).1) rfl (by rw[zeZ]) ?_;refine zj (d:=8) (y:=(zcz addS addC a b (k+1)).2) rfl (by rw[zeZ]) ?_;exact Nx (k+1) (⟨by omega,by rw[zeZ];exact zsx _ _ hinv.2⟩) yc
 obtain rfl:k=4:=yc;refine CE ?_;refine CQR ?_;refine qbw ?_;refine qax ?_;refine A0 zbZ ?_;refine qat ?_;refine qad ?_;exact zq rfl rfl (zl rfl rfl za1 (rfl)) (zT (za rfl (by rw[uo];show((_:Nat):Int)=(0:Int)↔_;omega)))
theorem zvH (a b:Wide):Tells P 275 [.val zaL a,.val zaL b,.clo 359 []] (.tup2 (.val zaL (zcz subS subC a b 4).1) (.val zm (decide ((zcz subS subC a b 4).2.toNat=0)))):=by
 refine zc Tryz.func275 rfl rfl rfl (fun ext w hext=>?_);refine qay ?_;refine qaO ?_;refine qaz ?_;refine qaj ?_;refine CNB ?_;refine Lp (ι:=Nat) 3 (fun (k:Nat)=>((((((Fr.none).set 2 (.clo 359 [])).set 3 (.ptr 0 0)).set 4 (.ptr 1 0)).set 6 (.ptr 2 0)).set 8 (.val u64T (zcz subS subC a b k).2)).set 10 (.val i64T (k:Int))) (fun (k:Nat)=>(((Hp.none).set 0 (.box 52 zaL (zcz subS subC a b k).1)).set 1 (.box 52 zaL b)).set 2 (.box 52 zaL zdj)) (fun (k:Nat)=>k≤4∧(zcz subS subC a b k).2.toNat≤1) (fun (k:Nat)=>4-k) (0) (⟨uf _,uf 1⟩) ?_;intro k hinv;refine qak ?_;refine Cf (p:=k<4) (fun ht11=>?_) (fun ht11=>?_)
 ·
  refine qaE ?_;refine qad ?_;refine zx [some 1,some 1,some 1,some 1,some 1,some 1,some 1,some 1,some 1,some 1,some 1,some 1,some 1000001,some 1,none,some 1] mixed ye ?_;refine X0 mV ?_;refine X0 mC ?_;refine X0 mV ?_;refine xx ?_;refine xy ?_;refine X0 mV ?_;refine xx ?_;refine xy ?_;refine X0 mV ?_;refine X0 (g_ext3 rfl ext_Sub64 rfl rfl rfl rfl (fun P w=>Go.Ab.run_sub64 P w _ _ hinv.2)) ?_;refine X0 mX ?_;refine X0 yZ ?_;refine XK.ga yac rfl rfl rfl ?_;refine xx ?_;refine XK.e (x:=.idk) (fun fr' hfr kk H=>by exact zf rfl rfl rfl ((hfr 26 ye).trans rfl) rfl (Lens.elem (i:=k) yc u64T) zcE ((hfr 24 ye).trans rfl) (zr H)) ?_;refine X0 aX ?_;refine qaJ ?_;refine zP (n:=0) (y:=(zcz subS subC a b (k+1)).1) rfl (by rw[zeZ]) ?_;refine zj (d:=8) (y:=(zcz subS subC a b (k+1)).2) rfl (by rw[zeZ]) ?_;exact Nx (k+1) (⟨by omega,by rw[zeZ];exact subC_le _ _ _⟩) yc
 obtain rfl:k=4:=yc;refine CE ?_;refine CQR ?_;refine qbw ?_;refine qax ?_;refine A0 zbZ ?_;refine qat ?_;refine qad ?_;exact zq rfl rfl (zl rfl rfl za1 (rfl)) (zT (za rfl (by rw[uo];show((_:Nat):Int)=(0:Int)↔_;omega)))
theorem zvV (a b:Wide):Tells P 238 [.val zaL a,.val zaL b] (.tup2 (.val zaL (addW a b)) (.val zm (addOk a b))):=by
 refine zc Tryz.func238 rfl rfl rfl (fun ext w hext=>?_);refine qay ?_;refine qaO ?_;refine qaz ?_;refine qbw ?_;refine qbw ?_;refine A0 (oCl (zvI a b) rfl fn_275 ⟨yo,yo,(by first|exact zdJ (Cs:=[]) rfl fn_276 yD trivial rfl (fun x=>no_contract_of_math_bits_Add64)|exact zdI (Cs:=[]) rfl fn_276 yD trivial rfl (fun x y=>no_contract_of_math_bits_Add64)|exact zdK rfl),trivial⟩) ?_;refine qaa ?_;refine qat ?_;refine qad ?_;exact zq rfl rfl (zl rfl rfl za1 (rfl)) (zT (za rfl (rfl)))
theorem subW_ok (a b:Wide):Tells P 325 [.val zaL a,.val zaL b] (.tup2 (.val zaL (subW a b)) (.val zm (subOk a b))):=by
 refine zc Tryz.func325 rfl rfl rfl (fun ext w hext=>?_);refine qay ?_;refine qaO ?_;refine qaz ?_;refine qbw ?_;refine qbw ?_;refine A0 (oCl (zvH a b) rfl fn_275 ⟨yo,yo,(by first|exact zdJ (Cs:=[]) rfl fn_359 yD trivial rfl (fun x=>no_contract_of_math_bits_Sub64)|exact zdI (Cs:=[]) rfl fn_359 yD trivial rfl (fun x y=>no_contract_of_math_bits_Sub64)|exact zdK rfl),trivial⟩) ?_;refine qaa ?_;refine qat ?_;refine qad ?_;exact zq rfl rfl (zl rfl rfl za1 (rfl)) (zT (za rfl (rfl)))
def zaT (n:Nat):Nat:=if n=0 then 0 else Nat.log2 n+1
theorem zuk {n s:Nat} (h:2^s≤n):zaT n=s+zaT (n/2^s):=by
  have hp:=Nat.two_pow_pos s;have h1:1≤n/2^s:=(Nat.le_div_iff_mul_le hp).2 yc;unfold zaT;rw[ur yc,ur yc];obtain⟨k,hk⟩:∃k,k=Nat.log2 (n/2^s):=⟨_,rfl⟩;have h2:=(Nat.log2_eq_iff (n:=n/2^s) (k:=k) yc).1 hk.symm;have h3:Nat.log2 n=k+s:=by
    rw[Nat.log2_eq_iff yc]
    constructor
    · rw[Nat.pow_add];exact(Nat.le_div_iff_mul_le hp).1 h2.1
    rw[show k+s+1=k+1+s by omega,Nat.pow_add];exact(Nat.div_lt_iff_lt_mul hp).1 h2.2
  rw[h3,←hk];omega
theorem zhp {n s:Nat} (h:n<2^s):zaT n≤s:=by
  unfold zaT
  split
  · omega
  rename_i h0
  have:=(Nat.log2_lt h0).2 h
  omega
theorem zbu (x:UInt64) {m:Nat} (h:m≤64):(za6 x m).toNat=x.toNat/2^m:=by
  have hx:x.toNat<18446744073709551616:=x.toNat_lt;unfold za6;rw[UInt64.toNat_ofNat_of_lt' (Nat.lt_of_le_of_lt (Nat.div_le_self _ _) hx),Nat.min_eq_left h]
theorem u8_small {x:UInt64} (h:x.toNat<256):(zcl (IntL.toI u64T x)).toNat=x.toNat:=by
  unfold zcl;show(UInt8.ofNat ((x.toNat:Int)%256).toNat).toNat=x.toNat
  rw[UInt8.toNat_ofNat_of_lt' ybp];omega
theorem len_small {x:UInt64} (h:x.toNat<256):IntL.toI u8T (UInt8.ofNat (zaT (zcl (IntL.toI u64T x)).toNat))=zaT x.toNat:=by
  have:=zhp (s:=8) (n:=x.toNat) yc
  rw[u8_small h];show((UInt8.ofNat (zaT x.toNat)).toNat:Int)=_;rw[UInt8.toNat_ofNat_of_lt' ybp]
theorem ziF {x y:UInt64} {b:Int} {s:Nat} (hy:y.toNat<256) (hx:zaT x.toNat=s+zaT y.toNat) (hs:s≤64) (hb:b=(s:Int)):IntKind.i64.wrap (b+IntKind.i64.wrap (IntL.toI u8T (UInt8.ofNat (zaT (zcl (IntL.toI u64T y)).toNat))))=(zaT x.toNat:Nat):=by
  have:=zhp (s:=8) (n:=y.toNat) yc
  rw[len_small hy,zax (n:=((zaT y.toNat:Nat):Int)) yc,zax yc,hx,hb];omega
theorem zdV {x:UInt64} {s:Nat} (hs:s≤64) (h:2^s≤x.toNat):zaT x.toNat=s+zaT (za6 x s).toNat:=by
  rw[zbu x hs];exact zuk h
theorem zwK (x:UInt64):Tells P 224 [.val u64T x] (.val i64T (zaT x.toNat:Nat)):=by
 refine zc Tryz.func224 rfl rfl rfl (fun ext w hext=>?_);refine qcw ?_;refine qbZ ?_;refine zn (p:=4294967296≤(x).toNat) rfl (by rw[uo];show(4294967296:Int)≤((x).toNat:Int)↔_;omega) (fun ht4=>?_) (fun ht4=>?_)
 ·
  refine qa4 ?_;refine xk ?_;refine qc5 ?_;refine qaj ?_;refine qbZ ?_;refine zn (p:=65536≤(za6 x 32).toNat) rfl (by rw[uo];show(65536:Int)≤((za6 x 32).toNat:Int)↔_;omega) (fun ht8=>?_) (fun ht8=>?_)
  ·
   refine qa4 ?_;refine xk ?_;refine qc5 ?_;refine qbb ?_;refine qaj ?_;refine qbZ ?_;refine zn (p:=256≤(za6 (za6 x 32) 16).toNat) rfl (by rw[uo];show(256:Int)≤((za6 (za6 x 32) 16).toNat:Int)↔_;omega) (fun ht14=>?_) (fun ht14=>?_)
   ·
    refine qa4 ?_;refine xk ?_;refine qbT ?_;refine A0 (zed (fun n=>UInt8.ofNat (zaT n)) rfl rfl st_9 ye) ?_;refine qaF ?_;exact zb rfl rfl (za rfl (ziF (y:=za6 (za6 (za6 x 32) 16) 8) (s:=56) yu (by rw[zdV (s:=32) yp ht4,zdV (s:=16) yp ht8,zdV (s:=8) yp ht14];omega) yp (by rfl)))
   refine CSQR ?_;refine qao ?_;refine xj ?_;refine A0 (zed (fun n=>UInt8.ofNat (zaT n)) rfl rfl st_9 ye) ?_;refine qaF ?_;exact zb rfl rfl (za rfl (ziF (y:=za6 (za6 x 32) 16) (s:=48) yu (by rw[zdV (s:=32) yp ht4,zdV (s:=16) yp ht8];omega) yp (by rfl)))
  refine qbM ?_;refine qbZ ?_;refine zn (p:=256≤(za6 x 32).toNat) rfl (by rw[uo];show(256:Int)≤((za6 x 32).toNat:Int)↔_;omega) (fun ht14=>?_) (fun ht14=>?_)
  ·
   refine qa4 ?_;refine xk ?_;refine qbT ?_;refine A0 (zed (fun n=>UInt8.ofNat (zaT n)) rfl rfl st_9 ye) ?_;refine qaF ?_;exact zb rfl rfl (za rfl (ziF (y:=za6 (za6 x 32) 8) (s:=40) yu (by rw[zdV (s:=32) yp ht4,zdV (s:=8) yp ht14];omega) yp (by rfl)))
  refine CSQR ?_;refine qao ?_;refine xj ?_;refine A0 (zed (fun n=>UInt8.ofNat (zaT n)) rfl rfl st_9 ye) ?_;refine qaF ?_;exact zb rfl rfl (za rfl (ziF (y:=za6 x 32) (s:=32) yu (zdV (s:=32) yp ht4) yp (by rfl)))
 refine qbM ?_;refine qbZ ?_;refine zn (p:=65536≤(x).toNat) rfl (by rw[uo];show(65536:Int)≤((x).toNat:Int)↔_;omega) (fun ht8=>?_) (fun ht8=>?_)
 ·
  refine qa4 ?_;refine xk ?_;refine qc5 ?_;refine qbb ?_;refine qaj ?_;refine qbZ ?_;refine zn (p:=256≤(za6 x 16).toNat) rfl (by rw[uo];show(256:Int)≤((za6 x 16).toNat:Int)↔_;omega) (fun ht14=>?_) (fun ht14=>?_)
  ·
   refine qa4 ?_;refine xk ?_;refine qbT ?_;refine A0 (zed (fun n=>UInt8.ofNat (zaT n)) rfl rfl st_9 ye) ?_;refine qaF ?_;exact zb rfl rfl (za rfl (ziF (y:=za6 (za6 x 16) 8) (s:=24) yu (by rw[zdV (s:=16) yp ht8,zdV (s:=8) yp ht14];omega) yp (by rfl)))
  refine CSQR ?_;refine qao ?_;refine xj ?_;refine A0 (zed (fun n=>UInt8.ofNat (zaT n)) rfl rfl st_9 ye) ?_;refine qaF ?_;exact zb rfl rfl (za rfl (ziF (y:=za6 x 16) (s:=16) yu (zdV (s:=16) yp ht8) yp (by rfl)))
 refine qbM ?_;refine qbZ ?_;refine zn (p:=256≤(x).toNat) rfl (by rw[uo];show(256:Int)≤((x).toNat:Int)↔_;omega) (fun ht14=>?_) (fun ht14=>?_)
 ·
  refine qa4 ?_;refine xk ?_;refine qbT ?_;refine A0 (zed (fun n=>UInt8.ofNat (zaT n)) rfl rfl st_9 ye) ?_;refine qaF ?_;exact zb rfl rfl (za rfl (ziF (y:=za6 x 8) (s:=8) yu (zdV (s:=8) yp ht14) yp (by rfl)))
 refine CSQR ?_;refine qao ?_;refine xj ?_;refine A0 (zed (fun n=>UInt8.ofNat (zaT n)) rfl rfl st_9 ye) ?_;refine qaF ?_;exact zb rfl rfl (za rfl (ziF (y:=x) (s:=0) yu ((Nat.zero_add _).symm) yp (by rfl)))
theorem lenU_ok (x:UInt64):Tells P 169 [.val u64T x] (.val i64T (zaT x.toNat:Nat)):=by
 refine zc Tryz.func169 rfl rfl rfl (fun ext w hext=>?_);refine CQR ?_;refine qa7 ?_;refine Cg ?_;refine qcG ?_;refine A0 (oCl (zwK _) rfl fn_224 yf) ?_;refine qad ?_;exact zb rfl rfl (za rfl rfl)
def zon (a:Wide):Nat→Nat
  | 0=>0
  | k+1=>if 0<(a.getD k default).toNat then k*64+zaT (a.getD k default).toNat else zon a k
def longW (a:Wide):Nat:=zon a 4
theorem longN_yes {a:Wide} {k:Nat} (hk:0<k) (h:0<(a.getD (k-1) default).toNat):zon a k=(k-1)*64+zaT (a.getD (k-1) default).toNat:=by
  obtain⟨j,rfl⟩:∃j,k=j+1:=⟨k-1,by omega⟩;rw[Nat.add_sub_cancel] at *;rw[zon,ut h]
theorem longN_no {a:Wide} {k:Nat} (hk:0<k) (h:¬0<(a.getD (k-1) default).toNat):zon a k=zon a (k-1):=by
  obtain⟨j,rfl⟩:∃j,k=j+1:=⟨k-1,by omega⟩;rw[Nat.add_sub_cancel] at *;rw[zon,ur h]
theorem zwH (a:Wide):∀k,zon a k≤k*64
  | 0=>ug _
  | k+1=>by
    have:=zwH a k
    have hb:=zhp (s:=64) (n:=(a.getD k default).toNat) (UInt64.toNat_lt _);rw[zon]
    split<;>omega
theorem zwG (a:Wide):longW a≤256:=zwH a 4
theorem bitLen_pos {n:Nat} (h:0<n):1≤zaT n:=by unfold zaT;rw[ur yc];omega
theorem longW_pos {a:Wide} (hl:a.length=4) (h:a≠zdj):1≤longW a:=by
  match a,hl with
  | [a0,a1,a2,a3],_ =>
    unfold longW;simp only[zon,List.getD_cons_succ,List.getD_cons_zero];have hp:∀x:UInt64,0<x.toNat→1≤zaT x.toNat:=fun x hx=>bitLen_pos hx
    have hz:∀x:UInt64,¬0<x.toNat→x=0:=fun x hx=>UInt64.toNat_inj.1 yx
    split
    · have:=hp _ ‹_›;omega
    split
    · have:=hp _ ‹_›;omega
    split
    · have:=hp _ ‹_›;omega
    split
    · have:=hp _ ‹_›;omega
    exact absurd (by rw[hz a0 ‹_›,hz a1 ‹_›,hz a2 ‹_›,hz a3 ‹_›];rfl) h
def zu8 (out:Wide) (n:Nat):Wide:=out.set (n/64) (out.getD (n/64) default|||zm1 1 (n%64))
def zkd (b:Wide) (x:Wide×Wide) (n:Nat):Wide×Wide:=if subOk x.1 (upW b n)=true then (subW x.1 (upW b n),zu8 x.2 n) else x
def divN (b:Wide):Nat→Wide×Wide→Wide×Wide
  | 0,x=>x
  | n+1,x=>divN b n (zkd b x n)
theorem zr9 {b:Wide} {n:Int} (h:0≤n) (x:Wide×Wide):divN b (n+1).toNat x=divN b (n-1+1).toNat (zkd b x n.toNat):=by
  rw[show(n+1).toNat=n.toNat+1 by omega,show(n-1+1).toNat=n.toNat by omega,divN]
def divP (a b:Wide):Wide×Wide:=if b=zdj then (zdj,zdj) else ((divN b (longW a+1-longW b) (a,zdj)).2,(divN b (longW a+1-longW b) (a,zdj)).1)
def divW (a b:Wide):Wide:=(divP a b).1
def remW (a b:Wide):Wide:=(divP a b).2
def divOk (b:Wide):Bool:=decide (b≠zdj)
theorem zwF (a:Wide):Tells P 324 [.val zaL a] (.val i64T (longW a:Nat)):=by
 refine zc Tryz.func324 rfl rfl rfl (fun ext w hext=>?_);refine ze (d:=0) rfl zfk (fun ha=>?_);refine qae ?_;refine qbS ?_;refine qc7 ?_;refine Lp (ι:=Nat) 1 (fun (k:Nat)=>((Fr.none).set 1 (.ptr 0 0)).set 3 (.val i64T ((k:Int)-1))) (fun (k:Nat)=>(Hp.none).set 0 (.box 52 zaL a)) (fun (k:Nat)=>k≤4∧longW a=zon a k) (fun (k:Nat)=>k) (4) (⟨ug _,rfl⟩) ?_;intro k hinv;refine qb1 ?_;refine qbZ ?_;refine Cf (p:=0<k) (fun ht5=>?_) (fun ht5=>?_)
 ·
  refine qaE ?_;refine A0 (zG (i:=k-1) rfl rfl rfl yn zcS yc) ?_;refine A0 (zz rfl rfl rfl (Lens.elem (i:=k-1) yc u64T) zcE) ?_;refine qcC ?_;refine zn (p:=0<(a.getD (k-1) default).toNat) rfl (by rw[uo];show(0:Int)<((a.getD (k-1) default).toNat:Int)↔_;omega) (fun ht11=>?_) (fun ht11=>?_)
  ·
   have hb:=zhp (s:=64) (n:=(a.getD (k-1) default).toNat) (UInt64.toNat_lt _);refine qa4 ?_;refine A0 zpG ?_;refine qax ?_;refine A0 (zG (i:=k-1) rfl rfl rfl yn zcS yc) ?_;refine A0 (zz rfl rfl rfl (Lens.elem (i:=k-1) yc u64T) zcE) ?_;refine A0 (oCl (zwK _) rfl fn_224 yf) ?_;refine A0 zdp ?_;refine qad ?_;exact zb rfl rfl (za rfl (by rw[hinv.2,longN_yes ht5 ht11];omega))
  refine CSIR ?_;refine qcb ?_;refine qad ?_;refine zj (d:=3) (y:=((k-1:Nat):Int)-1) rfl yc ?_;exact Nx (k-1) (⟨by omega,by rw[hinv.2,longN_no ht5 ht11]⟩) yc
 obtain rfl:k=0:=yc;refine qcn ?_;exact zb rfl rfl (za rfl (by rw[hinv.2];rfl))
theorem divW_ok (a b:Wide):Tells P 277 [.val zaL a,.val zaL b] (.tup3 (.val zaL (divW a b)) (.val zaL (remW a b)) (.val zm (divOk b))):=by
 refine zc Tryz.func277 rfl rfl rfl (fun ext w hext=>?_);refine ze (d:=0) rfl zfk (fun ha=>?_);refine ze (d:=1) rfl zfk (fun hb=>?_);refine qay ?_;refine qaO ?_;refine qaO ?_;refine qbS ?_;refine qbw ?_;refine A0 (zhN rfl zcS zq7 rfl) ?_;refine A0 (ziP rfl rfl rfl (eqt_52)) ?_;refine CN ?_;refine zn (p:=b=zdj) rfl yy (fun ht13=>?_) (fun ht13=>?_)
 ·
  refine CQR ?_;refine A0 (zhN rfl zcS zq7 rfl) ?_;refine A0 (zhN rfl zcS zq7 rfl) ?_;refine qat ?_;refine qat ?_;refine qad ?_;exact zlq rfl rfl (zl rfl rfl za1 (by unfold divW divP;rw[ut ht13])) (zl rfl rfl za1 (by unfold remW divP;rw[ut ht13])) (zT (za rfl (by unfold divOk;symm;exact uh (fun h=>h ht13))))
 have hz:=longW_pos hb ht13;have hla:=zwG a;have hlb:=zwG b;refine CSQR ?_;refine qaO ?_;refine CNQ ?_;refine qaV ?_;refine G0 (oLs rfl rfl rfl za1) ?_;refine G0 (oCl (zwF _) rfl fn_324 yf) ?_;refine G0 (oLs rfl rfl rfl za1) ?_;refine G0 (oCl (zwF _) rfl fn_324 yf) ?_;refine G0 zbb ?_;refine qaP ?_;refine CB ?_;refine Lp (ι:=Int×Wide×Wide) 5 (fun(n,x)=>(((((Fr.none.set 2 (.ptr 0 0)).set 3 (.ptr 1 0)).set 4 (.ptr 2 0)).set 5 (.ptr 3 0)).set 7 (.ptr 4 0)).set 8 (.val i64T n)) (fun(n,x)=>((((Hp.none.set 0 (.box 52 zaL x.1)).set 1 (.box 52 zaL b)).set 2 (.box 52 zaL zdj)).set 3 (.box 52 zaL zdj)).set 4 (.box 52 zaL x.2)) (fun(n,x)=>n≤255∧-256≤n∧x.2.length=4∧divN b (n+1).toNat x=divN b (longW a+1-longW b) (a,zdj)) (fun(n,x)=>(n+1).toNat) (((longW a:Int)-(longW b:Int),a,zdj)) (⟨by omega,by omega,rfl,by rw[show((longW a:Int)-(longW b:Int)+1).toNat=longW a+1-longW b by omega]⟩) ?_;intro⟨n,x⟩ hinv;dsimp only at hinv;refine qb1 ?_;refine qbZ ?_;refine Cf (p:=0≤n) (fun ht22=>?_) (fun ht22=>?_)
 ·
  refine qcl ?_;refine CB ?_;refine CQ ?_;refine zx [some 1000001,some 1000001,some 1000001,some 1000001,some 1000001,some 1000001,some 1000001,some 1000001,none,none,some 1] mixed ye ?_;refine XK.gf (t:=2) rfl rfl (fun _ he=>zz rfl rfl he (Lens.self _) za1) ⟨rfl,trivial⟩ rfl rfl rfl ?_;refine XK.gf (t:=3) rfl rfl (fun _ he=>zz rfl rfl he (Lens.self _) za1) ⟨rfl,trivial⟩ rfl rfl rfl ?_;refine XK.ga (fun _=>g_mv (.inl rfl) rfl) rfl rfl rfl ?_;refine XK.ga (fun _=>zgl (upW_ok _ _) rfl fn_176 yl rfl) rfl rfl rfl ?_;refine XK.ga (fun _=>zgl (subW_ok _ _) rfl fn_325 yl rfl) rfl rfl rfl ?_;refine XK.ga yq rfl rfl rfl ?_;refine XK.ga ybe rfl rfl rfl ?_;refine XK.ga yac rfl rfl rfl ?_;refine XK.e (fun fr' hfr kk H=>by exact zs zq7 rfl rfl rfl rfl (zr H)) ?_;refine XK.e (x:=.idk) (fun fr' hfr kk H=>by exact zf rfl rfl rfl ((hfr 9 ye).trans rfl) rfl (Lens.self _) za1 ((hfr 31 ye).trans rfl) (zr H)) ?_;refine X0 aV ?_;refine XK.nilp ⟨yB,yB,trivial⟩ ?_;refine qa4 ?_;refine CN ?_;refine zn (p:=subOk x.1 (upW b n)=true) rfl yy (fun ht33=>?_) (fun ht33=>?_)
  ·
   refine qcr ?_;refine xo ?_;refine X0 mV ?_;refine X0 (g_quo rfl rfl rfl ybJ (by first|decide|omega) rfl) ?_;refine X0 (zG (i:=n.toNat/64) rfl rfl rfl yn zcS yc) ?_;refine X0 (zz rfl rfl rfl (Lens.elem (i:=n.toNat/64) yc u64T) zcE) ?_;refine X0 mV ?_;refine X0 (g_rem rfl rfl rfl ybJ (by first|decide|omega) rfl) ?_;refine X0 (zl3 rfl rfl rfl ym rfl) ?_;refine X0 (ztM rfl rfl rfl) ?_;refine X0 (zG (i:=n.toNat/64) rfl rfl rfl yn zcS yc) ?_;refine XK.e (x:=.idk) (fun fr' hfr kk H=>by exact zf rfl rfl rfl ((hfr 43 ye).trans rfl) rfl (Lens.elem (i:=n.toNat/64) yc u64T) zcE ((hfr 42 ye).trans rfl) (zr H)) ?_;refine xf ?_;refine CI ?_;refine CR ?_;refine qcb ?_;refine qad ?_;refine zP (n:=4) (y:=zu8 x.2 n.toNat) rfl (by unfold zu8;rw[show(IntL.toI i64T (n%64)).toNat=n.toNat%64 by simp only[IntL.toI,id_eq];omega];rfl) ?_;exact Nx ((n-1,subW x.1 (upW b n),zu8 x.2 n.toNat)) yV (by show(n-1+1).toNat<(n+1).toNat;omega)
  refine CSIR ?_;refine qcb ?_;refine qad ?_;exact Nx ((n-1,x)) yV (by show(n-1+1).toNat<(n+1).toNat;omega)
 refine CE ?_;refine CQ ?_;refine zx [some 1,some 1000001,none,none,some 1] mixed ye ?_;refine xw ?_;refine XK.gf (t:=2) rfl rfl (fun _ he=>zz rfl rfl he (Lens.self _) za1) ⟨rfl,trivial⟩ rfl rfl rfl ?_;refine XK.e (x:=.idk) (fun fr' hfr kk H=>by exact zf rfl rfl rfl ((hfr 4 ye).trans rfl) rfl (Lens.self _) za1 ((hfr 44 ye).trans rfl) (zr H)) ?_;refine XK.e (x:=.idk) (fun fr' hfr kk H=>by exact zf rfl rfl rfl ((hfr 5 ye).trans rfl) rfl (Lens.self _) za1 ((hfr 45 ye).trans rfl) (zr H)) ?_;refine X0 aV ?_;refine XK.nilp ⟨yB,trivial⟩ ?_;exact zlq rfl rfl (zl rfl rfl za1 (by unfold divW divP;rw[ur ht13,←hinv.2.2.2,show(n+1).toNat=0 by omega];rfl)) (zl rfl rfl za1 (by unfold remW divP;rw[ur ht13,←hinv.2.2.2,show(n+1).toNat=0 by omega];rfl)) (zT (za rfl (by unfold divOk;symm;exact ui ht13)))
def zdA (f:Int→Bool) (lo hi:Nat):Nat :=
  if h:lo<hi then (if f (((lo+hi)/2:Nat):Int)=true then zdA f lo ((lo+hi)/2) else zdA f ((lo+hi)/2+1) hi) else lo
termination_by hi-lo
theorem zs8 {f:Int→Bool} {lo hi:Nat} (h:lo<hi) (hf:¬f (((lo+hi)/2:Nat):Int)=true):zdA f lo hi=zdA f ((lo+hi)/2+1) hi:=by
  rw[zdA,dif_pos h,ur hf]
theorem zp7 {f:Int→Bool} {lo hi:Nat} (h:lo<hi) (hf:f (((lo+hi)/2:Nat):Int)=true):zdA f lo hi=zdA f lo ((lo+hi)/2):=by
  conv=>lhs;rw[zdA,dif_pos h,ut hf]
theorem search_end {f:Int→Bool} {lo:Nat}:zdA f lo lo=lo:=by rw[zdA,dif_neg (Nat.lt_irrefl _)]
def ztw (n t:Wide) (k:Int):Bool:=decide (0<cmpW n (downW t k))
def levelW (id:Ab.Id) (t:Wide):Int:=(zdA (ztw (zlX id) t) 0 32:Nat)-1
theorem zkz {f:Int→Bool} (lo hi:Nat) (h:lo≤hi):zdA f lo hi≤hi:=by
  rw[zdA]
  split
  · split
    · have:=zkz (f:=f) lo ((lo+hi)/2) yc;omega
    exact zkz _ _ yc
  exact h
termination_by hi-lo
theorem search_ok (n:Nat) (f:Int→Bool) (hn:n<4611686018427387904):Tells P 244 [.val i64T (n:Int),.fn1 P i64T zm f] (.val i64T (zdA f 0 n:Nat)):=by
 refine zc Tryz.func244 rfl rfl rfl (fun ext w hext=>?_);refine ze (d:=0) rfl zt (fun hin0=>?_);refine qbJ ?_;refine A0 aV ?_;refine qa7 ?_;refine CB ?_;refine Lp (ι:=Nat×Nat) 0 (fun (i:Nat×Nat)=>match i with|(lo,hi)=>(((Fr.none).set 1 (.fn1 P i64T zm f)).set 5 (.val i64T (lo:Int))).set 6 (.val i64T (hi:Int))) (fun (i:Nat×Nat)=>match i with|(lo,hi)=>Hp.none) (fun (i:Nat×Nat)=>match i with|(lo,hi)=>lo≤hi∧hi≤n∧zdA f 0 n=zdA f lo hi) (fun (i:Nat×Nat)=>match i with|(lo,hi)=>hi-lo) ((0,n)) (⟨uf _,ug _,rfl⟩) ?_;intro⟨lo,hi⟩ hinv;dsimp only at hinv;refine CQQR ?_;refine qao ?_;refine qaY ?_;refine Cf (p:=lo<hi) (fun ht11=>?_) (fun ht11=>?_)
 ·
  refine CS ?_;refine CB ?_;refine CQR ?_;refine qao ?_;refine A0 zdp ?_;refine qc4 ?_;refine xk ?_;refine A0 (zm8 rfl (ui_3) (zv6) rfl (mid_eq yc)) ?_;refine qaz ?_;refine A0 mF ?_;refine qax ?_;refine A0 (zk4 rfl rfl yo) ?_;refine qaL ?_;refine zn (p:=¬f (((lo+hi)/2:Nat):Int)=true) rfl yy (fun ht21=>?_) (fun ht21=>?_)
  ·
   refine CR ?_;refine qbb ?_;refine qad ?_;refine CI ?_;exact Nx (((lo+hi)/2+1,hi)) yaK yat
  refine CR ?_;refine qax ?_;refine qad ?_;refine CI ?_;exact Nx ((lo,(lo+hi)/2)) yaK yat
 obtain rfl:hi=lo:=yc;refine CE ?_;refine qbK ?_;exact zb rfl rfl (za rfl (by rw[hinv.2.2,search_end]))
theorem zty (n t:Wide) (k:Int):Tells P 241 [.val i64T k,.rptr zaL n,.rptr zaL t] (.val zm (ztw n t k)):=by
 refine zc Tryz.func241 rfl rfl rfl (fun ext w hext=>?_);refine ze (d:=0) rfl zt (fun hin0=>?_);refine CQR ?_;refine qbI ?_;refine G0 (zg rfl rfl za1) ?_;refine G0 (zg rfl rfl za1) ?_;refine G0 mV ?_;refine G0 (oCl (downW_ok _ _) rfl fn_243 yl) ?_;refine G0 (oCl (cmpW_ok _ _) rfl fn_242 yl) ?_;refine G0 zc1 ?_;refine qaP ?_;exact zb rfl rfl (za rfl rfl)
theorem levelW_ok (id:Ab.Id) (t:Wide):Tells P 187 [.val idT id,.val zaL t] (.val i64T (levelW id t)):=by
 refine zc Tryz.func187 rfl rfl rfl (fun ext w hext=>?_);have hsl:=zkz (f:=ztw (zlX id) t) 0 32 yp;refine qay ?_;refine qaz ?_;refine qb2 ?_;refine A0 (oCl (zwA _) rfl fn_175 yf) ?_;refine qaO ?_;refine qat ?_;refine CNQR ?_;refine xp ?_;refine A0 aC ?_;refine CNQR ?_;refine A0 mC ?_;refine A0 (oCl (search_ok 32 (ztw (zlX id) t) yp) rfl fn_244 ⟨yo,(by first|exact zdJ (Cs:=[_,_]) rfl fn_241 yaT ⟨yR,yR,trivial⟩ rfl (fun x=>zty (zlX id) t x)|exact zdI (Cs:=[_,_]) rfl fn_241 yaT ⟨yR,yR,trivial⟩ rfl (fun x y=>zty (zlX id) t x)|exact zdK rfl),trivial⟩) ?_;refine A0 zbb ?_;refine qad ?_;exact zb rfl rfl (za rfl rfl)
def workW (t:Wide):Wide:=if addOk t (ofW 1)=true then addW (divW [~~~ t.getD 0 default,~~~ t.getD 1 default,~~~ t.getD 2 default,~~~ t.getD 3 default] (addW t (ofW 1))) (ofW 1) else ofW 1
theorem workW_ok (t:Wide):Tells P 240 [.val zaL t] (.val zaL (workW t)):=by
 refine zc Tryz.func240 rfl rfl rfl (fun ext w hext=>?_);refine ze (d:=0) rfl zfk (fun ha=>?_);refine qae ?_;refine qaO ?_;refine CNQ ?_;refine zx [some 1000001,some 1000001,some 1000001,some 1000001,some 1000001,some 1000001,none,none,some 1] mixed ye ?_;refine XK.gf (t:=1) rfl rfl (fun _ he=>zz rfl rfl he (Lens.self _) za1) ⟨rfl,trivial⟩ rfl rfl rfl ?_;refine XK.ga (fun _=>zgl (zwz 1) rfl zw9 yf rfl) rfl rfl rfl ?_;refine XK.ga (fun _=>zgl (zvV _ _) rfl fn_238 yl rfl) rfl rfl rfl ?_;refine XK.ga yq rfl rfl rfl ?_;refine XK.ga ybe rfl rfl rfl ?_;refine XK.ga yac rfl rfl rfl ?_;refine XK.e (fun fr' hfr kk H=>by exact zs zq7 rfl rfl rfl rfl (zr H)) ?_;refine XK.e (x:=.idk) (fun fr' hfr kk H=>by exact zf rfl rfl rfl ((hfr 3 ye).trans rfl) rfl (Lens.self _) za1 ((hfr 13 ye).trans rfl) (zr H)) ?_;refine X0 aV ?_;refine XK.nilp ⟨yB,trivial⟩ ?_;refine qb1 ?_;refine qaL ?_;refine zn (p:=¬addOk t (ofW 1)=true) rfl (by cases addOk t (ofW 1)<;>rfl) (fun ht16=>?_) (fun ht16=>?_)
 ·
  refine CQR ?_;refine A0 (oCl (zwz 1) rfl zw9 yf) ?_;refine qat ?_;refine CN ?_;exact zag rfl rfl rfl rfl za1 (by unfold workW;rw[ur ht16]<;>rfl)
 refine CSQR ?_;refine A0 (zG (i:=0) rfl rfl rfl yn zcS yc) ?_;refine A0 (zz rfl rfl rfl (Lens.elem (i:=0) yc u64T) zcE) ?_;refine A0 (zrX rfl rfl) ?_;refine A0 (zG (i:=1) rfl rfl rfl yn zcS yc) ?_;refine A0 (zz rfl rfl rfl (Lens.elem (i:=1) yc u64T) zcE) ?_;refine A0 (zrX rfl rfl) ?_;refine A0 (zG (i:=2) rfl rfl rfl yn zcS yc) ?_;refine A0 (zz rfl rfl rfl (Lens.elem (i:=2) yc u64T) zcE) ?_;refine A0 (zrX rfl rfl) ?_;refine A0 (zG (i:=3) rfl rfl rfl yn zcS yc) ?_;refine A0 (zz rfl rfl rfl (Lens.elem (i:=3) yc u64T) zcE) ?_;refine A0 (zrX rfl rfl) ?_;refine A0 (zji (T:=u64T) (xs:=[_,_,_,_]) rfl zcS zq7 ⟨rfl,rfl,rfl,rfl,rfl,rfl,rfl,rfl,trivial⟩ rfl) ?_;refine qaO ?_;refine qat ?_;refine CNQR ?_;refine qbw ?_;refine qbw ?_;refine A0 (oCl (divW_ok _ _) rfl fn_277 yl) ?_;refine qbi ?_;refine A0 e32 ?_;refine qaO ?_;refine qaO ?_;refine qat ?_;refine qat ?_;refine qa7 ?_;refine zx [some 1,some 1,some 1,some 1,some 1,some 1000001,none] mixed ye ?_;refine xw ?_;refine X0 (oCl (zwz 1) rfl zw9 yf) ?_;refine X0 (oCl (zvV _ _) rfl fn_238 yl) ?_;refine X0 mX ?_;refine X0 yZ ?_;refine XK.ga yac rfl rfl rfl ?_;refine XK.e (x:=.idk) (fun fr' hfr kk H=>by exact zf rfl rfl rfl ((hfr 6 ye).trans rfl) rfl (Lens.self _) za1 ((hfr 42 ye).trans rfl) (zr H)) ?_;refine xf ?_;refine qcr ?_;exact zag rfl rfl rfl rfl za1 (by unfold workW;rw[ut (ua ht16)]<;>rfl)
def hOk (h:Head):Bool:=decide (0≤h.height∧h.height≤1048576)
def zbU (h:Head):List UInt8:=[zB (zae (IntL.toI i64T h.height)) 4,h.prev,h.links,h.txs,h.past,zgx h.work,zB (zae (IntL.toI u32T h.bits)) 4,zB h.nonce 8].flatten
def zav (h:Head):List UInt8:=if hOk h=true then zbU h else []
def zw (h:Head):Ab.Id:=if hOk h=true then zco ([5]++zbU h) else zId
def zQ (h:Head):Int:=if zbQ h.bits=true∧hOk h=true then (if h.height=0 then 31 else levelW (zw h) (tgtW h.bits)) else -1
def zfL (h:Head):Wide:=if zbQ h.bits=true then workW (tgtW h.bits) else zdj
def zbx (h:Head):Bool:=!decide (zQ h = -1)
theorem zoP {h:Head} {ρ:Nat→Value} {B:Nat→Prop} {U N:Nat→Prop} {w:World} {v:Value} (hv:(AV.val zbW h).rel ρ B U N w v):h.prev.length=32∧h.links.length=32∧h.txs.length=32∧h.past.length=32∧h.work.length=4:=by
  obtain⟨cs,⟨_,_,_,_,_,_,_,h1,_,_,_,h2,_,_,_,h3,_,_,_,h4,_,_,_,h5,_⟩,_⟩:=hv;exact⟨h1.1,h2.1,h3.1,h4.1,h5.1⟩
theorem zct (a:Wide):(zgx a).length=32:=by unfold zgx;simp
theorem zvj (h:Head):Tells P 69 [.val zbW h] (.tup2 (.fresh 5 u8T (zav h)) (.val zm (hOk h))):=by
 refine zc Tryz.func69 rfl rfl rfl (fun ext w hext=>?_);refine ze (d:=0) rfl zoP (fun hh=>?_);obtain⟨hh1,hh2,hh3,hh4,hh5⟩:=hh;refine qc6 ?_;refine qbS ?_;refine qcj ?_;refine A0 zb2 ?_;refine Sp (d:=7) (p:=h.height<0) (fun g7=>?_) (fun g7=>?_)
 ·
  refine qax ?_;refine qac ?_;refine qaw ?_;refine Ct ?_;refine qbp ?_;exact zV rfl rfl ybz (za rfl (by unfold hOk;symm;apply uh;omega))
 refine qax ?_;refine A1 (oFp zcR) ?_;refine A1 (oLb zar ty_3) ?_;refine A1 zc1 ?_;refine qaw ?_;refine Cf (p:=1048576<h.height) (fun ht12=>?_) (fun ht12=>?_)
 ·
  refine qbp ?_;exact zV rfl rfl ybz (za rfl (by unfold hOk;symm;apply uh;omega))
 refine CSQR ?_;refine A0 (oFp zl9) ?_;refine A0 (oLb zh7 za1) ?_;refine A0 (oCl (zuh _) rfl fn_137 yf) ?_;refine qaM ?_;refine qau ?_;refine CNQ ?_;refine zdR (d:=1) rfl rfl (Lens.self _) ?_;refine zdR (d:=4) rfl rfl (Lens.self _) ?_;have hbl:=zct h.work;have hn1:=zJ (zae (IntL.toI i64T h.height)) 4;have hn2:=zJ (zae (IntL.toI u32T h.bits)) 4;have hn3:=zJ h.nonce 8;refine zx [some 1,some 1,some 1,some 1,some 1,some 1,some 1,some 1,some 1,some 1,some 1,some 1,some 1,some 1,some 1,some 1,some 1,some 1,some 1,some 1,some 1,none,some 1,some 1] mixed ye ?_;refine X0 (oFr zcR zar) ?_;refine X0 (zg rfl rfl ty_3) ?_;refine X0 (zjP rfl (znH) (us_3) rfl) ?_;refine qcd ?_;refine X0 (oFr zg1 zdh) ?_;refine qbE ?_;refine X0 (oFr zg0 zcA) ?_;refine qbE ?_;refine X0 (oFr ziT zf3) ?_;refine qbE ?_;refine X0 (oFr zkb zgF) ?_;refine qbE ?_;refine qbE ?_;refine X0 (oFr zdF za9) ?_;refine X0 (zg rfl rfl zcj) ?_;refine X0 (zjP rfl (znH) (us_53) rfl) ?_;refine qcd ?_;refine X0 (oFr zhR zdi) ?_;refine X0 (zg rfl rfl zcE) ?_;refine X0 (zqz (T:=sl u8T) (S:=bsl u8T) (zgl (zu (zlp _ 8 yp)) rfl zxa ybP rfl)) ?_;refine X0 (zX (T:=(bsl u8T)) (xs:=[_,_,_,_,_,_,_,_]) rfl zeN zep yaB rfl rfl) ?_;refine XK.e (fun fr' hfr kk H=>by exact zaD (zgs [zB (zae (IntL.toI i64T h.height)) 4,h.prev,h.links,h.txs,h.past,zgx h.work,zB (zae (IntL.toI u32T h.bits)) 4,zB h.nonce 8] (by simp[hh1,hh2,hh3,hh4,hbl,hn1,hn2,hn3])) rfl zoI ⟨(zd ((hfr 36 ye).trans rfl)),trivial⟩ rfl rfl rfl (zr H)) ?_;refine X0 aO ?_;refine X0 aV ?_;refine xf ?_;exact zV rfl rfl (zh rfl rfl (by unfold zav;rw[ut (by unfold hOk;rw[uj];omega)];rfl)) (za rfl (by unfold hOk;symm;apply ui;omega))
theorem zeu (h:Head):Tells P 23 [.val zbW h] (.val idT (zw h)):=by
 refine zc Tryz.func23 rfl rfl rfl (fun ext w hext=>?_);refine ze (d:=0) rfl zoP (fun hh=>?_);obtain⟨hh1,hh2,hh3,hh4,hh5⟩:=hh;refine qae ?_;refine qaM ?_;refine CNQR ?_;refine qcc ?_;refine A0 (oCl (zcn (zvj h)) rfl fn_69 yf) ?_;refine qbi ?_;refine A0 aV ?_;refine qaj ?_;refine qaL ?_;refine zn (p:=¬hOk h=true) rfl (by cases hOk h<;>rfl) (fun ht11=>?_) (fun ht11=>?_)
 ·
  refine CQR ?_;refine A0 (zhN rfl zjH zq8 rfl) ?_;refine qau ?_;refine CN ?_;exact zag rfl rfl rfl rfl zaj (by unfold zw;rw[ur ht11]<;>rfl)
 refine CSQR ?_;refine qbn ?_;refine zmg (S:=bsl u8T) (d:=13) rfl ?_;refine qax ?_;refine zmg (S:=bsl u8T) (d:=14) rfl ?_;refine A0 (zX (T:=(bsl u8T)) (xs:=[_,_]) rfl zeN zep y4 rfl rfl) ?_;refine A0 (oCl (of_ok [[5],zav h] (by unfold zav;split<;>simp[zbU,hh1,hh2,hh3,hh4,zct,zJ])) rfl fn_70 yf) ?_;refine qau ?_;refine CN ?_;exact zag rfl rfl rfl rfl zaj (by unfold zw zav;rw[ut (ua ht11),ut (ua ht11)];simp)
theorem zgO (h:Head):Tells P 123 [.val zbW h] (.val i64T (zQ h)):=by
 refine zc Tryz.func123 rfl rfl rfl (fun ext w hext=>?_);refine qae ?_;refine qaz ?_;refine A0 (oFp zdF) ?_;refine A0 (oLb za9 zcj) ?_;refine A0 (oCl (znN _) rfl fn_113 yf) ?_;refine qbi ?_;refine qaO ?_;refine qat ?_;refine qa7 ?_;refine CB ?_;refine qb1 ?_;refine A0 oN ?_;refine zaP (d:=13) (p:=¬zbQ h.bits=true) rfl (by cases zbQ h.bits<;>rfl) (fun g13=>?_) (fun g13=>?_)
 ·
  refine qad ?_;refine Ct ?_;refine CS ?_;refine Ct ?_;refine qas ?_;exact zb rfl rfl (za rfl (by unfold zQ;rw[ur (by unfold hOk;rw[uj];exact fun h=>g13 h.1)]<;>rfl))
 refine qad ?_;refine Cg ?_;refine CQR ?_;refine qcj ?_;refine A0 zb2 ?_;refine Sp (d:=16) (p:=h.height<0) (fun g16=>?_) (fun g16=>?_)
 ·
  refine qad ?_;refine Ct ?_;refine CS ?_;refine Ct ?_;refine qas ?_;exact zb rfl rfl (za rfl (by unfold zQ;rw[ur (by unfold hOk;rw[uj];omega)]<;>rfl))
 refine qad ?_;refine Cg ?_;refine CR ?_;refine qcj ?_;refine A0 zc1 ?_;refine Sp (d:=19) (p:=1048576<h.height) (fun g19=>?_) (fun g19=>?_)
 ·
  refine qad ?_;refine Ct ?_;refine qas ?_;exact zb rfl rfl (za rfl (by unfold zQ;rw[ur (by unfold hOk;rw[uj];omega)]<;>rfl))
 refine qad ?_;refine Cg ?_;refine CQR ?_;refine qcj ?_;refine A0 zbZ ?_;refine qad ?_;refine Cf (p:=h.height=0) (fun ht20=>?_) (fun ht20=>?_)
 ·
  refine qas ?_;exact zb rfl rfl (za rfl (by unfold zQ;rw[ut ⟨ua g13,by unfold hOk;rw[uj];omega⟩,ut ht20]<;>rfl))
 refine CS ?_;refine CI ?_;refine qaV ?_;refine G0 (oLs rfl rfl rfl zaM) ?_;refine G0 (oCl (zeu _) rfl zr0 yf) ?_;refine G0 (oLs rfl rfl rfl za1) ?_;refine G0 (oCl (levelW_ok _ _) rfl fn_187 yl) ?_;refine qaP ?_;exact zb rfl rfl (za rfl (by unfold zQ;rw[ut ⟨ua g13,by unfold hOk;rw[uj];omega⟩,ur ht20]))
theorem zvl (h:Head):Tells P 184 [.val zbW h] (.val zaL (zfL h)):=by
 refine zc Tryz.func184 rfl rfl rfl (fun ext w hext=>?_);refine qae ?_;refine qaO ?_;refine CNQR ?_;refine A0 (oFp zdF) ?_;refine A0 (oLb za9 zcj) ?_;refine A0 (oCl (znN _) rfl fn_113 yf) ?_;refine qbi ?_;refine qaO ?_;refine qat ?_;refine qaj ?_;refine qaL ?_;refine zn (p:=¬zbQ h.bits=true) rfl (by cases zbQ h.bits<;>rfl) (fun ht12=>?_) (fun ht12=>?_)
 ·
  refine qb8 ?_;refine CN ?_;exact zag rfl rfl rfl rfl za1 (by unfold zfL;rw[ur ht12]<;>rfl)
 refine CSQR ?_;refine qbw ?_;refine A0 (oCl (workW_ok _) rfl fn_240 yf) ?_;refine qat ?_;refine CN ?_;exact zag rfl rfl rfl rfl za1 (by unfold zfL;rw[ut (ua ht12)])
theorem zl2 (h:Head):Tells P 120 [.val zbW h] (.val zm (zbx h)):=by
 refine zc Tryz.func120 rfl rfl rfl (fun ext w hext=>?_);refine qae ?_;refine qaz ?_;refine qcc ?_;refine A0 (oCl (zgO _) rfl zxb yf) ?_;refine A0 zdQ ?_;refine qad ?_;exact zb rfl rfl (za rfl rfl)
theorem zoT (l m:List Ab.Id):Tells P 57 [.val (bsl idT) l,.val (bsl idT) m] (.val zm (decide (l=m))):=by
 refine zc Tryz.func57 rfl rfl rfl (fun ext w hext=>?_);refine ze (d:=0) rfl zk (fun hsl0=>?_);refine ze (d:=1) rfl zk (fun hsl1=>?_);refine qcw ?_;refine qaS ?_;refine qax ?_;refine qaS ?_;refine qbk ?_;refine Cf (p:=¬l.length=m.length) (fun ht10=>?_) (fun ht10=>?_)
 ·
  refine qas ?_;exact zb rfl rfl (za rfl (uh (fun e=>ht10 (by rw[e]))).symm)
 refine qbM ?_;refine qaS ?_;refine qa2 ?_;refine Lp (ι:=Nat) 0 (fun (k:Nat)=>((((Fr.none).set 0 (.val (bsl idT) l)).set 1 (.val (bsl idT) m)).set 12 (.val i64T (l.length:Int))).set 13 (.val i64T (k:Int))) (fun (k:Nat)=>Hp.none) (fun (k:Nat)=>k≤l.length∧l.take k=m.take k) (fun (k:Nat)=>l.length-k) (0) (⟨uf _,by simp⟩) ?_;intro k hinv;refine qak ?_;refine Cf (p:=k<l.length) (fun ht14=>?_) (fun ht14=>?_)
 ·
  obtain⟨x,hx⟩:∃x,l[k]?=some x:=⟨_,ub ht14⟩;obtain⟨y,hy⟩:∃y,m[k]?=some y:=yv;refine qaE ?_;refine qbI ?_;refine qbY ?_;refine G0 (zby rfl rfl rfl zb8 yh) ?_;refine qcD ?_;refine qbY ?_;refine G0 (zby rfl rfl rfl zb8 yh) ?_;refine qcD ?_;refine G0 (zee rfl rfl rfl (zfl)) ?_;refine GK.nil ?_;refine zn (p:=¬x=y) rfl yy (fun ht24=>?_) (fun ht24=>?_)
  ·
   refine qas ?_;exact zb rfl rfl (za rfl (uh (zhH hx hy ht24)).symm)
  refine qaZ ?_;exact Nx (k+1) (⟨by omega,zdc hx hy hinv.2 (by simpa using ht24)⟩) yc
 refine qcn ?_;exact zb rfl rfl (za rfl (ui yO).symm)
theorem equalIn (l m:List In):Tells P 188 [.val (bsl inT) l,.val (bsl inT) m] (.val zm (decide (l=m))):=by
 refine zc Tryz.func188 rfl rfl rfl (fun ext w hext=>?_);refine ze (d:=0) rfl zk (fun hsl0=>?_);refine ze (d:=1) rfl zk (fun hsl1=>?_);refine qcw ?_;refine A0 (zW rfl rfl zjM) ?_;refine qax ?_;refine A0 (zW rfl rfl zjM) ?_;refine qbk ?_;refine Cf (p:=¬l.length=m.length) (fun ht10=>?_) (fun ht10=>?_)
 ·
  refine qas ?_;exact zb rfl rfl (za rfl (uh (fun e=>ht10 (by rw[e]))).symm)
 refine qbM ?_;refine A0 (zW rfl rfl zjM) ?_;refine qa2 ?_;refine Lp (ι:=Nat) 0 (fun (k:Nat)=>((((Fr.none).set 0 (.val (bsl inT) l)).set 1 (.val (bsl inT) m)).set 12 (.val i64T (l.length:Int))).set 13 (.val i64T (k:Int))) (fun (k:Nat)=>Hp.none) (fun (k:Nat)=>k≤l.length∧l.take k=m.take k) (fun (k:Nat)=>l.length-k) (0) (⟨uf _,by simp⟩) ?_;intro k hinv;refine qak ?_;refine Cf (p:=k<l.length) (fun ht14=>?_) (fun ht14=>?_)
 ·
  obtain⟨x,hx⟩:∃x,l[k]?=some x:=⟨_,ub ht14⟩;obtain⟨y,hy⟩:∃y,m[k]?=some y:=yv;refine qaE ?_;refine qbI ?_;refine qbY ?_;refine G0 (zby rfl rfl rfl zrk yh) ?_;refine G0 (zg rfl rfl zc3) ?_;refine qbY ?_;refine G0 (zby rfl rfl rfl zrk yh) ?_;refine G0 (zg rfl rfl zc3) ?_;refine G0 (zee rfl rfl rfl (eqt_256)) ?_;refine GK.nil ?_;refine zn (p:=¬x=y) rfl yy (fun ht24=>?_) (fun ht24=>?_)
  ·
   refine qas ?_;exact zb rfl rfl (za rfl (uh (zhH hx hy ht24)).symm)
  refine qaZ ?_;exact Nx (k+1) (⟨by omega,zdc hx hy hinv.2 (by simpa using ht24)⟩) yc
 refine qcn ?_;exact zb rfl rfl (za rfl (ui yO).symm)
theorem equalOut (l m:List Out):Tells P 189 [.val (bsl outT) l,.val (bsl outT) m] (.val zm (decide (l=m))):=by
 refine zc Tryz.func189 rfl rfl rfl (fun ext w hext=>?_);refine ze (d:=0) rfl zk (fun hsl0=>?_);refine ze (d:=1) rfl zk (fun hsl1=>?_);refine qcw ?_;refine A0 (zW rfl rfl zib) ?_;refine qax ?_;refine A0 (zW rfl rfl zib) ?_;refine qbk ?_;refine Cf (p:=¬l.length=m.length) (fun ht10=>?_) (fun ht10=>?_)
 ·
  refine qas ?_;exact zb rfl rfl (za rfl (uh (fun e=>ht10 (by rw[e]))).symm)
 refine qbM ?_;refine A0 (zW rfl rfl zib) ?_;refine qa2 ?_;refine Lp (ι:=Nat) 0 (fun (k:Nat)=>((((Fr.none).set 0 (.val (bsl outT) l)).set 1 (.val (bsl outT) m)).set 12 (.val i64T (l.length:Int))).set 13 (.val i64T (k:Int))) (fun (k:Nat)=>Hp.none) (fun (k:Nat)=>k≤l.length∧l.take k=m.take k) (fun (k:Nat)=>l.length-k) (0) (⟨uf _,by simp⟩) ?_;intro k hinv;refine qak ?_;refine Cf (p:=k<l.length) (fun ht14=>?_) (fun ht14=>?_)
 ·
  obtain⟨x,hx⟩:∃x,l[k]?=some x:=⟨_,ub ht14⟩;obtain⟨y,hy⟩:∃y,m[k]?=some y:=yv;refine qaE ?_;refine qbI ?_;refine qbY ?_;refine G0 (zby rfl rfl rfl zuS yh) ?_;refine G0 (zg rfl rfl zh9) ?_;refine qbY ?_;refine G0 (zby rfl rfl rfl zuS yh) ?_;refine G0 (zg rfl rfl zh9) ?_;refine G0 (zee rfl rfl rfl (eqt_258)) ?_;refine GK.nil ?_;refine zn (p:=¬x=y) rfl yy (fun ht24=>?_) (fun ht24=>?_)
  ·
   refine qas ?_;exact zb rfl rfl (za rfl (uh (zhH hx hy ht24)).symm)
  refine qaZ ?_;exact Nx (k+1) (⟨by omega,zdc hx hy hinv.2 (by simpa using ht24)⟩) yc
 refine qcn ?_;exact zb rfl rfl (za rfl (ui yO).symm)
theorem zg3 (l:List Ab.Id) (hl:l.length*32≤140737488355328∧l.length≤9223372036854775807):Tells P 80 [.val (bsl idT) l] (.fresh 49 idT l):=by
 refine zc Tryz.func80 rfl rfl rfl (fun ext w hext=>?_);refine ze (d:=0) rfl zk (fun hsl0=>?_);refine qaq ?_;refine qbg ?_;refine zfS rfl rfl rfl rfl rfl zcq (fun c4 hc4=>?_);refine CN ?_;refine zn (p:=c4=true) rfl yy (fun ht4=>?_) (fun ht4=>?_)
 ·
  obtain rfl:=hc4 ht4;refine qaq ?_;refine CN ?_;exact zb rfl rfl (zp rfl)
 refine CSQR ?_;refine zce (T:=idT) (xs:=[]) rfl rfl rfl rfl zb8 zfa trivial rfl rfl ?_;refine qax ?_;refine zF rfl rfl rfl rfl rfl rfl rfl zfa yaz ?_;refine qbm ?_;exact zb rfl rfl (zh rfl rfl yy)
theorem zqN (l:List Total) (hl:l.length*72≤140737488355328∧l.length≤9223372036854775807):Tells P 182 [.val (bsl zbS) l] (.fresh 197 zbS l):=by
 refine zc Tryz.func182 rfl rfl rfl (fun ext w hext=>?_);refine ze (d:=0) rfl zk (fun hsl0=>?_);refine qaq ?_;refine qbg ?_;refine zfS rfl rfl rfl rfl rfl zqu (fun c4 hc4=>?_);refine CN ?_;refine zn (p:=c4=true) rfl yy (fun ht4=>?_) (fun ht4=>?_)
 ·
  obtain rfl:=hc4 ht4;refine qaq ?_;refine CN ?_;exact zb rfl rfl (zp rfl)
 refine CSQR ?_;refine zce (T:=zbS) (xs:=[]) rfl rfl rfl rfl zlL zn4 trivial rfl rfl ?_;refine qax ?_;refine zF rfl rfl rfl rfl rfl rfl rfl zn4 yaz ?_;refine qbm ?_;exact zb rfl rfl (zh rfl rfl yy)
theorem cloneIn (l:List In) (hl:l.length*40≤140737488355328∧l.length≤9223372036854775807):Tells P 229 [.val (bsl inT) l] (.fresh 256 inT l):=by
 refine zc Tryz.func229 rfl rfl rfl (fun ext w hext=>?_);refine ze (d:=0) rfl zk (fun hsl0=>?_);refine qaq ?_;refine qbg ?_;refine zfS rfl rfl rfl rfl rfl zjM (fun c4 hc4=>?_);refine CN ?_;refine zn (p:=c4=true) rfl yy (fun ht4=>?_) (fun ht4=>?_)
 ·
  obtain rfl:=hc4 ht4;refine qaq ?_;refine CN ?_;exact zb rfl rfl (zp rfl)
 refine CSQR ?_;refine zce (T:=inT) (xs:=[]) rfl rfl rfl rfl zrk row_98 trivial rfl rfl ?_;refine qax ?_;refine zF rfl rfl rfl rfl rfl rfl rfl row_98 yaz ?_;refine qbm ?_;exact zb rfl rfl (zh rfl rfl yy)
theorem zxv (l:List Out) (hl:l.length*16≤140737488355328∧l.length≤9223372036854775807):Tells P 230 [.val (bsl outT) l] (.fresh 258 outT l):=by
 refine zc Tryz.func230 rfl rfl rfl (fun ext w hext=>?_);refine ze (d:=0) rfl zk (fun hsl0=>?_);refine qaq ?_;refine qbg ?_;refine zfS rfl rfl rfl rfl rfl zib (fun c4 hc4=>?_);refine CN ?_;refine zn (p:=c4=true) rfl yy (fun ht4=>?_) (fun ht4=>?_)
 ·
  obtain rfl:=hc4 ht4;refine qaq ?_;refine CN ?_;exact zb rfl rfl (zp rfl)
 refine CSQR ?_;refine zce (T:=outT) (xs:=[]) rfl rfl rfl rfl zuS row_99 trivial rfl rfl ?_;refine qax ?_;refine zF rfl rfl rfl rfl rfl rfl rfl row_99 yaz ?_;refine qbm ?_;exact zb rfl rfl (zh rfl rfl yy)
theorem cloneTx (l:List Tx) (hl:l.length*48≤140737488355328∧l.length≤9223372036854775807):Tells P 251 [.val (bsl txT) l] (.fresh 101 txT l):=by
 refine zc Tryz.func251 rfl rfl rfl (fun ext w hext=>?_);refine ze (d:=0) rfl zk (fun hsl0=>?_);refine qaq ?_;refine qbg ?_;refine zfS rfl rfl rfl rfl rfl zkZ (fun c4 hc4=>?_);refine CN ?_;refine zn (p:=c4=true) rfl yy (fun ht4=>?_) (fun ht4=>?_)
 ·
  obtain rfl:=hc4 ht4;refine qaq ?_;refine CN ?_;exact zb rfl rfl (zp rfl)
 refine CSQR ?_;refine zce (T:=txT) (xs:=[]) rfl rfl rfl rfl zlM zwk trivial rfl rfl ?_;refine qax ?_;refine zF rfl rfl rfl rfl rfl rfl rfl zwk yaz ?_;refine qbm ?_;exact zb rfl rfl (zh rfl rfl yy)
theorem indexId (l:List Ab.Id) (v:Ab.Id):Tells P 122 [.val (bsl idT) l,.val idT v] (.val i64T (idx (fun x=>decide (v=x)) l)):=by
 refine zc Tryz.func122 rfl rfl rfl (fun ext w hext=>?_);refine ze (d:=0) rfl zk (fun hsl0=>?_);refine qae ?_;refine qaj ?_;refine qaS ?_;refine qa2 ?_;refine Lp (ι:=Nat) 1 (fun (k:Nat)=>(((((Fr.none).set 0 (.val (bsl idT) l)).set 3 (.ptr 0 0)).set 6 (.val (bsl idT) l)).set 7 (.val i64T (l.length:Int))).set 8 (.val i64T (k:Int))) (fun (k:Nat)=>(Hp.none).set 0 (.box 49 idT v)) (fun (k:Nat)=>k≤l.length∧idx (fun x=>decide (v=x)) l=shift k (idx (fun x=>decide (v=x)) (l.drop k))) (fun (k:Nat)=>l.length-k) (0) (⟨uf _,zdl _ l⟩) ?_;intro k hinv;refine qak ?_;refine Cf (p:=k<l.length) (fun ht9=>?_) (fun ht9=>?_)
 ·
  obtain⟨x,hx⟩:∃x,l[k]?=some x:=ybc;refine qaE ?_;refine qbI ?_;refine G0 (oLs rfl rfl rfl zaj) ?_;refine qbY ?_;refine G0 (zby rfl rfl rfl zb8 yh) ?_;refine qcD ?_;refine G0 (ziP rfl rfl rfl (zfl)) ?_;refine GK.nil ?_;refine zn (p:=(decide (v=x))=true) rfl yy (fun ht16=>?_) (fun ht16=>?_)
  ·
   refine qbK ?_;exact zb rfl rfl (za rfl (hinv.2.trans (zhJ hx ht16)).symm)
  refine qaZ ?_;exact Nx (k+1) (⟨by omega,hinv.2.trans (zk0 hx ht16)⟩) yc
 refine qcn ?_;exact zb rfl rfl (za rfl (hinv.2.trans (zhK yc)).symm)
theorem containsId (l:List Ab.Id) (v:Ab.Id):Tells P 185 [.val (bsl idT) l,.val idT v] (.val zm (l.any fun x=>decide (v=x))):=by
 refine zc Tryz.func185 rfl rfl rfl (fun ext w hext=>?_);refine ze (d:=0) rfl zk (fun hsl0=>?_);refine qae ?_;refine qag ?_;refine qb2 ?_;refine A0 (oCl (indexId _ _) rfl fn_122 yl) ?_;refine A0 zfd ?_;refine qad ?_;exact zb rfl rfl (za rfl (zhL _ l))
theorem equalFTx (l m:List Tx):Tells P 125 [.val (bsl txT) l,.val (bsl txT) m,.fn2 P txT txT zm (fun x y=>decide (x=y))] (.val zm (decide (l=m))):=by
 refine zc Tryz.func125 rfl rfl rfl (fun ext w hext=>?_);refine ze (d:=0) rfl zk (fun hsl0=>?_);refine ze (d:=1) rfl zk (fun hsl1=>?_);refine qcw ?_;refine qcA ?_;refine qax ?_;refine qcA ?_;refine qbk ?_;refine Cf (p:=¬l.length=m.length) (fun ht14=>?_) (fun ht14=>?_)
 ·
  refine qas ?_;exact zb rfl rfl (za rfl (uh (fun e=>ht14 (by rw[e]))).symm)
 refine qbM ?_;refine qcA ?_;refine qa2 ?_;refine Lp (ι:=Nat) 0 (fun (k:Nat)=>((((((Fr.none).set 0 (.val (bsl txT) l)).set 1 (.val (bsl txT) m)).set 2 (.fn2 P txT txT zm (fun x y=>decide (x=y)))).set 15 (.val (bsl txT) l)).set 16 (.val i64T (l.length:Int))).set 17 (.val i64T (k:Int))) (fun (k:Nat)=>Hp.none) (fun (k:Nat)=>k≤l.length∧l.take k=m.take k) (fun (k:Nat)=>l.length-k) (0) (⟨uf _,by simp⟩) ?_;intro k hinv;refine qak ?_;refine Cf (p:=k<l.length) (fun ht18=>?_) (fun ht18=>?_)
 ·
  obtain⟨x,hx⟩:∃x,l[k]?=some x:=⟨_,ub ht18⟩;obtain⟨y,hy⟩:∃y,m[k]?=some y:=yv;refine qaE ?_;refine qbl ?_;refine A0 aV ?_;refine qcg ?_;refine CNQR ?_;refine qao ?_;refine qbl ?_;refine qcg ?_;refine CNQR ?_;refine A0 mH ?_;refine qcu ?_;refine qcu ?_;refine A0 (znp rfl rfl yo yo) ?_;refine qaL ?_;refine zn (p:=¬x=y) rfl yy (fun ht30=>?_) (fun ht30=>?_)
  ·
   refine qas ?_;exact zb rfl rfl (za rfl (uh (zhH hx hy ht30)).symm)
  refine qaZ ?_;exact Nx (k+1) (⟨by omega,zdc hx hy hinv.2 (by simpa using ht30)⟩) yc
 refine qcn ?_;exact zb rfl rfl (za rfl (ui yO).symm)
theorem zo5 (a b:Tx):Tells P 126 [.val txT a,.val txT b] (.val zm (decide (a=b))):=by
 refine zc Tryz.func126 rfl rfl rfl (fun ext w hext=>?_);refine qay ?_;refine qaz ?_;refine A0 (oFp zdY) ?_;refine A0 (oLb ze8 zmW) ?_;refine A0 (oFp zdY) ?_;refine A0 (oLb ze8 zmW) ?_;refine A0 (oCl (equalIn _ _) rfl fn_188 yl) ?_;refine Sp (d:=9) (p:=a.ins=b.ins) (fun g9=>?_) (fun g9=>?_)
 ·
  refine qax ?_;refine qcs ?_;refine qcs ?_;refine A1 (oCl (equalOut _ _) rfl fn_189 yl) ?_;refine qaI ?_;exact zb rfl rfl (za rfl yag)
 refine qax ?_;refine qb7 ?_;refine A2 ?_;refine qaI ?_;exact zb rfl rfl (za rfl (by symm;apply uh;intro h;exact g9 (by rw[h])))
def halfN (n:Nat):Nat:=2^(zaT (n-1)-1)
theorem zcY (n:Nat):0<halfN n:=Nat.two_pow_pos _
theorem zev {n:Nat} (h:2≤n):halfN n<n:=by
  unfold halfN zaT;rw[ur yc,Nat.add_sub_cancel]
  have:=Nat.log2_self_le (n:=n-1) yc
  omega
theorem half_eq {n:Nat} (h:2≤n) (hn:n<4398046511104):IntKind.i64.wrap (1*2^(min (IntL.toI i64T (((zaT (zae (IntL.toI i64T ((n:Int)-1))).toNat:Nat):Int)-1)).toNat 64))=(halfN n:Nat):=by
  have e1:(zae (IntL.toI i64T ((n:Int)-1))).toNat=n-1:=by
    unfold zae;show(UInt64.ofNat (((n:Int)-1)%18446744073709551616).toNat).toNat=n-1;rw[UInt64.toNat_ofNat_of_lt' y7];omega
  have hb:=zhp (s:=42) (n:=n-1) yc;have hp:2^(zaT (n-1)-1)≤2^42:=Nat.pow_le_pow_right yp yc;rw[e1];have e2:(IntL.toI i64T (((zaT (n-1):Nat):Int)-1)).toNat=zaT (n-1)-1:=by
    show(((zaT (n-1):Nat):Int)-1).toNat=_;omega
  rw[e2,Nat.min_eq_left yc,Int.one_mul];have e3:(2:Int)^(zaT (n-1)-1)=((2^(zaT (n-1)-1):Nat):Int):=yy;rw[e3];show _=((2^(zaT (n-1)-1):Nat):Int);obtain⟨q,hq⟩:∃q,q=2^(zaT (n-1)-1):=⟨_,rfl⟩;rw[←hq] at hp ⊢;exact zax yc
theorem zqU {n:Nat} (h:2≤n) (hn:n<4398046511104):1≤zaT (zae (IntL.toI i64T ((n:Int)-1))).toNat∧zaT (zae (IntL.toI i64T ((n:Int)-1))).toNat≤42:=by
  have e1:(zae (IntL.toI i64T ((n:Int)-1))).toNat=n-1:=by
    unfold zae;show(UInt64.ofNat (((n:Int)-1)%18446744073709551616).toNat).toNat=n-1;rw[UInt64.toNat_ofNat_of_lt' y7];omega
  rw[e1];refine⟨?_,zhp yc⟩;unfold zaT;rw[ur yc];omega
theorem zvm (n:Nat) (h:2≤n) (hn:n<4398046511104):Tells P 102 [.val i64T (n:Int)] (.val i64T (halfN n:Nat)):=by
 obtain⟨hb1,hb2⟩:=zqU h hn;refine zc Tryz.func102 rfl rfl rfl (fun ext w hext=>?_);refine ze (d:=0) rfl zt (fun hin0=>?_);refine qbJ ?_;refine A0 zbb ?_;refine qc4 ?_;refine A0 (oCl (lenU_ok _) rfl fn_169 yf) ?_;refine A0 zbb ?_;refine A0 (g_shlI rfl rfl rfl yai rfl) ?_;refine qad ?_;exact zb rfl rfl (za rfl (half_eq h hn))
def zwL (b:List UInt8):Ab.Id:=zco ([0]++b)
theorem leaf_ok (b:List UInt8) (hb:b.length≤1000000):Tells P 236 [.val (bsl u8T) b] (.val idT (zwL b)):=by
 refine zc Tryz.func236 rfl rfl rfl (fun ext w hext=>?_);refine ze (d:=0) rfl zk (fun hsl0=>?_);refine qcf ?_;refine qbn ?_;refine zmg (S:=bsl u8T) (d:=3) rfl ?_;refine qax ?_;refine A0 (zX (T:=(bsl u8T)) (xs:=[_,_]) rfl zeN zep y4 rfl rfl) ?_;refine A0 (oCl (of_ok [[0],b] yx) rfl fn_70 yf) ?_;refine qau ?_;refine CN ?_;exact zag rfl rfl rfl rfl zaj (by unfold zwL;simp)
def zdq (a b:Ab.Id):List UInt8:=[1]++a++b
def ztr (a b:Ab.Id):Ab.Id:=zco (zdq a b)
theorem zuJ (a b:Ab.Id) (ha:a.length=32) (hb:b.length=32):Tells P 204 [.val (arrT 2 yp idT) [a,b]] (.fresh 5 u8T (zdq a b)):=by
 refine zc Tryz.func204 rfl rfl rfl (fun ext w hext=>?_);refine qc6 ?_;refine CNQ ?_;refine zdR (d:=1) rfl rfl (Lens.self _) ?_;have e0:([a,b]:List Ab.Id)[0]?=some a:=rfl;have e1:([a,b]:List Ab.Id)[1]?=some b:=rfl;refine xl ?_;refine qcB ?_;refine X0 (g_ia_ra (i:=0) rfl rfl rfl yn zi6 yh) ?_;refine qbE ?_;refine X0 (g_ia_ra (i:=1) rfl rfl rfl yn zi6 yh) ?_;refine qbE ?_;refine qbQ ?_;refine XK.e (fun fr' hfr kk H=>by exact zaD (zgs [[1],a,b] yx) rfl zoI ⟨(zd ((hfr 8 ye).trans rfl)),trivial⟩ rfl rfl rfl (zr H)) ?_;refine X0 aO ?_;refine xf ?_;exact zb rfl rfl (zh rfl rfl (by unfold zdq;simp))
theorem zu9 (a b:Ab.Id):Tells P 159 [.val idT a,.val idT b] (.val idT (ztr a b)):=by
 refine zc Tryz.func159 rfl rfl rfl (fun ext w hext=>?_);refine ze (d:=0) rfl znu (fun ha=>?_);refine ze (d:=1) rfl znu (fun hb=>?_);refine qay ?_;refine qaM ?_;refine CNQR ?_;refine qb2 ?_;refine qb2 ?_;refine A0 (zji (T:=idT) (xs:=[_,_]) rfl zi6 ze_246 y4 rfl) ?_;refine A0 (oCl (zu (zuJ a b ha hb)) rfl fn_204 yf) ?_;refine A0 (oCl (zp1 (zdq a b) (by unfold zdq;simp;omega)) rfl fn_25 yf) ?_;refine qau ?_;refine CN ?_;exact zag rfl rfl rfl rfl zaj (rfl)
def zcF (l:List Ab.Id):Ab.Id:=if l.length=0 then zco [2] else if h1:l.length≤1 then l.headD zId else ztr (zcF (l.take (halfN l.length))) (zcF (l.drop (halfN l.length)))
termination_by l.length
decreasing_by
  · have:=zev (n:=l.length) yc;simp;omega
  have:=zcY l.length;simp;omega
theorem zlO (l:List Ab.Id) (hl:l.length<4398046511104):Tells P 103 [.val (bsl idT) l] (.val idT (zcF l)):=by
 refine zc Tryz.func103 rfl rfl rfl (fun ext w hext=>?_);refine ze (d:=0) rfl zk (fun hsl0=>?_);refine CQR ?_;refine qaM ?_;refine qbg ?_;refine qaS ?_;refine CNB ?_;refine CQR ?_;refine A0 zbZ ?_;refine qad ?_;refine Cf (p:=l.length=0) (fun ht6=>?_) (fun ht6=>?_)
 ·
  refine CQR ?_;refine qbn ?_;refine A0 (oCl (zp1 [2] yp) rfl fn_25 yf) ?_;refine qau ?_;refine CN ?_;exact zag rfl rfl rfl rfl zaj (by rw[zcF,ut ht6])
 refine CQR ?_;refine A0 zbZ ?_;refine qad ?_;refine Cf (p:=l.length=1) (fun ht10=>?_) (fun ht10=>?_)
 ·
  obtain⟨x,hx⟩:∃x,l[0]?=some x:=yv;refine qa4 ?_;refine A0 (zK (i:=0) rfl rfl rfl yc zb8 yh) ?_;refine A0 (zg rfl rfl zaj) ?_;refine qau ?_;refine CN ?_;exact zag rfl rfl rfl rfl zaj (by rw[zcF,ur ht6,dif_pos yc];cases l with|nil=>simp at ht6|cons a m=>simp at hx ⊢;exact hx.symm)
 have hp:=zcY l.length;have hh:=zev (n:=l.length) yc;refine CS ?_;refine CI ?_;refine qa4 ?_;refine qaS ?_;refine A0 (oCl (zvm l.length yc yc) rfl fn_102 yf) ?_;refine qa7 ?_;refine xo ?_;refine X0 mV ?_;refine qa3 ?_;refine X0 (oCl (zlO (l.take (halfN l.length)) yx) rfl zqC yf) ?_;refine qcz ?_;refine X0 (zhi rfl rfl rfl zb8 yg) ?_;refine X0 (oCl (zlO (l.drop (halfN l.length)) yx) rfl zqC yf) ?_;refine X0 (oCl (zu9 _ _) rfl fn_159 yl) ?_;refine XK.e (x:=.idk) (fun fr' hfr kk H=>by exact zf rfl rfl rfl ((hfr 2 ye).trans rfl) rfl (Lens.self _) zaj ((hfr 26 ye).trans rfl) (zr H)) ?_;refine xf ?_;exact zag rfl rfl rfl rfl zaj (by conv=>rhs;rw[zcF,ur ht6,dif_neg yc])
termination_by l.length
decreasing_by
  all_goals (simp;omega)
theorem zqG {t:Total} {ρ:Nat→Value} {B:Nat→Prop} {U N:Nat→Prop} {w:World} {v:Value} (hv:(AV.val zbS t).rel ρ B U N w v):t.h.length=32∧t.w.length=4:=by
  obtain⟨cs,⟨_,_,_,h1,_,_,_,h2,_⟩,_⟩:=hv;exact⟨h1.1,h2.1⟩
def zgc (t:Total):List UInt8:=[t.h,zgx t.w,zB (zae (IntL.toI i64T t.n)) 4].flatten
theorem zks {t:Total} (h:t.h.length=32):(zgc t).length=68:=by unfold zgc;simp[h,zct,zJ]
def zkW (a b:Total):Total:=⟨zco ([3]++zgc a++zgc b),addW a.w b.w,IntKind.i64.wrap (a.n+b.n)⟩
def leafT (id:Ab.Id) (w:Wide):Total:=⟨id,w,1⟩
def znm (id:Ab.Id):Ab.Id:=zwL id
def zal (l:List Ab.Id):Ab.Id:=zcF (l.map znm)
def zsX (l:List Tx):Ab.Id:=zcF (l.map idOf)
theorem zmp (t:Total) (hh:t.h.length=32):Tells P 239 [.val zbS t] (.fresh 5 u8T (zgc t)):=by
 refine zc Tryz.func239 rfl rfl rfl (fun ext w hext=>?_);refine qc6 ?_;refine CNQR ?_;refine A0 (oFp zjl) ?_;refine A0 (oLb zhq za1) ?_;refine A0 (oCl (zuh _) rfl fn_137 yf) ?_;refine qaM ?_;refine qau ?_;refine CNQ ?_;refine zdR (d:=1) rfl rfl (Lens.self _) ?_;refine zdR (d:=3) rfl rfl (Lens.self _) ?_;have hbl:=zct t.w;have hn:=zJ (zae (IntL.toI i64T t.n)) 4;refine zx [some 1,some 1,some 1,some 1,some 1,some 1,some 1,some 1,none,some 1] mixed ye ?_;refine X0 (oFr zjm zhr) ?_;refine qbE ?_;refine qbE ?_;refine X0 (oFr zhV zgD) ?_;refine X0 (zg rfl rfl ty_3) ?_;refine X0 (zjP rfl (znH) (us_3) rfl) ?_;refine qcd ?_;refine qbQ ?_;refine XK.e (fun fr' hfr kk H=>by exact zaD (zgs [t.h,zgx t.w,zB (zae (IntL.toI i64T t.n)) 4] (by simp[hh,hbl,hn])) rfl zoI ⟨(zd ((hfr 14 ye).trans rfl)),trivial⟩ rfl rfl rfl (zr H)) ?_;refine X0 aO ?_;refine xf ?_;exact zb rfl rfl (zh rfl rfl rfl)
theorem mleaf_ok (id:Ab.Id) (w:Wide):Tells P 183 [.val idT id,.val zaL w] (.val zbS (leafT id w)):=by
 refine zc Tryz.func183 rfl rfl rfl (fun ext w hext=>?_);refine qay ?_;refine zs zjI rfl rfl rfl rfl ?_;refine CNQR ?_;refine qb2 ?_;refine qbw ?_;refine A0 (zC rfl zjI bd_197 (.cons zjm zhr zaj rfl (.cons zjl zhq za1 rfl (.cons zhV zgD ty_3 rfl .nil))) rfl) ?_;refine qbR ?_;refine CN ?_;exact zag rfl rfl rfl rfl zeM (rfl)
theorem join_ok (a b:Total):Tells P 181 [.val zbS a,.val zbS b] (.val zbS (zkW a b)):=by
 refine zc Tryz.func181 rfl rfl rfl (fun ext w hext=>?_);refine ze (d:=0) rfl zqG (fun ha=>?_);refine ze (d:=1) rfl zqG (fun hb=>?_);refine qay ?_;refine zs zjI rfl rfl rfl rfl ?_;refine CNQR ?_;refine A0 (oFp zjl) ?_;refine A0 (oLb zhq za1) ?_;refine A0 (oFp zjl) ?_;refine A0 (oLb zhq za1) ?_;refine A0 (oCl (zvV _ _) rfl fn_238 yl) ?_;refine qbi ?_;refine qaO ?_;refine qat ?_;refine qa7 ?_;refine zx [some 1,some 1,some 1,some 1,some 1,some 1,some 1,some 1,some 1,some 1,some 1,some 1,some 1,some 1,none] mixed ye ?_;refine qcB ?_;refine X0 (oLs rfl rfl rfl zeM) ?_;refine X0 (zqz (T:=sl u8T) (S:=bsl u8T) (zgl (zu (zmp a ha.1)) rfl fn_239 yf rfl)) ?_;refine X0 (oLs rfl rfl rfl zeM) ?_;refine X0 (zqz (T:=sl u8T) (S:=bsl u8T) (zgl (zu (zmp b hb.1)) rfl fn_239 yf rfl)) ?_;refine qbQ ?_;refine X0 (oCl (of_ok [[3],zgc a,zgc b] (by simp[zks ha.1,zks hb.1])) rfl fn_70 yf) ?_;refine xw ?_;refine X0 (oFp zhV) ?_;refine X0 (oLb zgD ty_3) ?_;refine X0 (oFp zhV) ?_;refine X0 (oLb zgD ty_3) ?_;refine X0 zdp ?_;refine X0 (zC rfl zjI bd_197 (.cons zjm zhr zaj rfl (.cons zjl zhq za1 rfl (.cons zhV zgD ty_3 rfl .nil))) rfl) ?_;refine XK.e (x:=.idk) (fun fr' hfr kk H=>by exact zf rfl rfl rfl ((hfr 4 ye).trans rfl) rfl (Lens.self _) zeM ((hfr 28 ye).trans rfl) (zr H)) ?_;refine xf ?_;exact zag rfl rfl rfl rfl zeM (by unfold zkW;simp)
theorem zop (id:Ab.Id):Tells P 179 [.val idT id] (.val idT (znm id)):=by
 refine zc Tryz.func179 rfl rfl rfl (fun ext w hext=>?_);refine ze (d:=0) rfl znu (fun hid=>?_);refine qae ?_;refine qaM ?_;refine CNQ ?_;refine zdR (d:=1) rfl rfl (Lens.self _) ?_;refine CR ?_;refine A0 (ziM rfl rfl zjH rfl rfl) ?_;refine A0 (oCl (leaf_ok id yc) rfl fn_236 yf) ?_;refine qau ?_;refine CN ?_;exact zag rfl rfl rfl rfl zaj (rfl)
theorem mapped_ok (l:List Ab.Id) (f:Ab.Id→Ab.Id) (hl:l.length≤4000000000000):Tells P 178 [.val (bsl idT) l,.fn1 P idT idT f] (.fresh 49 idT (l.map f)):=by
 refine zc Tryz.func178 rfl rfl rfl (fun ext w hext=>?_);refine ze (d:=0) rfl zk (fun hsl0=>?_);refine qbD ?_;refine A0 aL ?_;refine qbg ?_;refine qaS ?_;refine qa2 ?_;refine zcv (T:=idT) (d:=5) 49 rfl ?_;refine Lp (ι:=Nat) 1 (fun (k:Nat)=>((((((Fr.none).set 0 (.val (bsl idT) l)).set 1 (.fn1 P idT idT f)).set 5 (.own 0)).set 8 (.val (bsl idT) l)).set 9 (.val i64T (l.length:Int))).set 10 (.val i64T (k:Int))) (fun (k:Nat)=>(Hp.none).set 0 (.row 49 idT ((l.take k).map f))) (fun (k:Nat)=>k≤l.length) (fun (k:Nat)=>l.length-k) (0) (uf _) ?_;intro k hinv;refine qak ?_;refine Cf (p:=k<l.length) (fun ht11=>?_) (fun ht11=>?_)
 ·
  obtain⟨x,hx⟩:∃x,l[k]?=some x:=⟨_,ub ht11⟩;refine CSQBQR ?_;refine A0 (zby rfl rfl rfl zb8 yh) ?_;refine A0 (zg rfl rfl zaj) ?_;refine qaM ?_;refine qau ?_;refine CNR ?_;refine A0 mO ?_;refine A0 mF ?_;refine qb2 ?_;refine A0 (zk4 rfl rfl yo) ?_;refine qb5 ?_;refine xz ?_;refine zA (n:=0) (y:=(l.take (k+1)).map f) rfl (by rw[un,hx];simp) ?_;exact Nx (k+1) yc yc
 refine qa9 ?_;exact zb rfl rfl (zh rfl rfl yN)
theorem zd5 (l:List Ab.Id) (hl:l.length≤4000000000000):Tells P 114 [.val (bsl idT) l] (.val idT (zal l)):=by
 refine zc Tryz.func114 rfl rfl rfl (fun ext w hext=>?_);refine ze (d:=0) rfl zk (fun hsl0=>?_);refine qcf ?_;refine qax ?_;refine A0 (oCl (zu (mapped_ok l znm hl)) rfl fn_178 ⟨yo,(by first|exact zdJ (Cs:=[]) rfl fn_179 yD trivial rfl (fun x=>zop x)|exact zdI (Cs:=[]) rfl fn_179 yD trivial rfl (fun x y=>zop x)|exact zdK rfl),trivial⟩) ?_;refine A0 (oCl (zlO (l.map znm) yx) rfl zqC yf) ?_;refine qau ?_;refine CN ?_;exact zag rfl rfl rfl rfl zaj (rfl)
theorem leads_ok (l:List Ab.Id) (prev id:Ab.Id):Tells P 119 [.val (bsl idT) l,.val idT prev,.val idT id] (.val zm (decide (prev=id)||l.any fun x=>decide (id=x))):=by
 refine zc Tryz.func119 rfl rfl rfl (fun ext w hext=>?_);refine ze (d:=0) rfl zk (fun hsl0=>?_);refine qay ?_;refine qaz ?_;refine qb2 ?_;refine qb2 ?_;refine A0 (ziP rfl rfl rfl (zfl)) ?_;refine Sp (d:=9) (p:=prev=id) (fun g9=>?_) (fun g9=>?_)
 ·
  refine qax ?_;refine qac ?_;refine qaI ?_;exact zb rfl rfl (za rfl (by simp[g9]))
 refine qax ?_;refine A1 mV ?_;refine A1 (oLs rfl rfl rfl zaj) ?_;refine A1 (oCl (containsId _ _) rfl fn_185 yl) ?_;refine qaI ?_;exact zb rfl rfl (za rfl (by simp[g9]))
theorem zsW (l:List Tx) (hl:l.length≤4000000000000):Tells P 115 [.val (bsl txT) l] (.val idT (zsX l)):=by
 refine zc Tryz.func115 rfl rfl rfl (fun ext w hext=>?_);refine ze (d:=0) rfl zk (fun hsl0=>?_);refine qcf ?_;refine A0 aL ?_;refine qbg ?_;refine qcA ?_;refine qa2 ?_;refine zcv (T:=idT) (d:=3) 49 rfl ?_;refine Lp (ι:=Nat) 2 (fun (k:Nat)=>(((((Fr.none).set 2 (.ptr 0 0)).set 3 (.own 1)).set 6 (.val (bsl txT) l)).set 7 (.val i64T (l.length:Int))).set 8 (.val i64T (k:Int))) (fun (k:Nat)=>((Hp.none).set 0 (.box 49 idT zId)).set 1 (.row 49 idT ((l.take k).map idOf))) (fun (k:Nat)=>k≤l.length) (fun (k:Nat)=>l.length-k) (0) (uf _) ?_;intro k hinv;refine qak ?_;refine Cf (p:=k<l.length) (fun ht9=>?_) (fun ht9=>?_)
 ·
  obtain⟨x,hx⟩:∃x,l[k]?=some x:=ybc;refine CSQBQR ?_;refine qbl ?_;refine qcg ?_;refine CNR ?_;refine A0 mO ?_;refine qcu ?_;refine A0 (oCl (id_ok _) rfl fn_44 yf) ?_;refine qb5 ?_;refine xv ?_;refine zA (n:=1) (y:=(l.take (k+1)).map idOf) rfl (by rw[un,hx];simp) ?_;exact Nx (k+1) yc yc
 obtain rfl:k=l.length:=yc;refine aw_pub (d:=3) rfl rfl ?_;refine zj (d:=3) (y:=l.map idOf) rfl (by rw[List.take_length]) ?_;refine CE ?_;refine qa4 ?_;refine A0 (oCl (zlO (l.map idOf) yx) rfl zqC yf) ?_;refine qau ?_;refine CN ?_;exact zag rfl rfl rfl rfl zaj (rfl)
def zcU:List Total→Total→Total
  | [],x=>x
  | y::r,x=>zcU r (zkW y x)
def zbw (p:List Total):Total:=match p.reverse with
  | []=>⟨zco [4],zdj,0⟩
  | x::r=>zcU r x
def ziy:List Total→Total→List Total
  | [],x=>[x]
  | y::r,x=>if y.n=x.n then ziy r (zkW y x) else x::y::r
def zaO (p:List Total) (leaf:Total):List Total:=(ziy p.reverse leaf).reverse
theorem zva:zbw []=⟨zco [4],zdj,0⟩:=rfl
theorem mmrRoot_eq {p:List Total} {x:Total} {n:Nat} (hn:p.length=n+1) (hx:p[n]?=some x):zbw p=zcU (p.take n).reverse x:=by
  have e:p=p.take n++[x]:=by
    have:=un (l:=p) (i:=n)
    rw[uc yc,hx] at this;simpa using this
  unfold zbw
  conv=>lhs;rw[e]
  simp
theorem zrt {p:List Total} {k:Nat} {x y:Total} (hx:p[k]?=some x):zcU (p.take (k+1)).reverse y=zcU (p.take k).reverse (zkW x y):=by
  rw[un,hx];simp[zcU]
theorem zqn (p:List Total) (hp:p.length≤1000000):Tells P 116 [.val (bsl zbS) p] (.val zbS (zbw p)):=by
 refine zc Tryz.func116 rfl rfl rfl (fun ext w hext=>?_);refine ze (d:=0) rfl zk (fun hsl0=>?_);refine CQR ?_;refine zs zjI rfl rfl rfl rfl ?_;refine qbg ?_;refine A0 (zW rfl rfl zqu) ?_;refine A0 zbZ ?_;refine CN ?_;refine Cf (p:=p.length=0) (fun ht8=>?_) (fun ht8=>?_)
 ·
  obtain rfl:p=[]:=List.length_eq_zero_iff.1 ht8;refine CQR ?_;refine qbn ?_;refine A0 (oCl (zp1 [4] yp) rfl fn_25 yf) ?_;refine A0 (zC rfl zjI bd_197 (.cons zjm zhr zaj rfl .nil) rfl) ?_;refine qbR ?_;refine CN ?_;exact zag rfl rfl rfl rfl zeM (zva.symm)
 obtain⟨n,hn⟩:∃n,p.length=n+1:=⟨p.length-1,by omega⟩;obtain⟨x0,hx0⟩:∃x,p[n]?=some x:=yv;have hroot:=mmrRoot_eq hn hx0;refine CSQR ?_;refine qao ?_;refine A0 (zW rfl rfl zqu) ?_;refine A0 zbb ?_;refine A0 (zK (i:=n) rfl rfl rfl yc zlL yh) ?_;refine A0 (zg rfl rfl zeM) ?_;refine zs zjI rfl rfl rfl rfl ?_;refine qbR ?_;refine CNQQR ?_;refine qao ?_;refine A0 (zW rfl rfl zqu) ?_;refine A0 zbb ?_;refine A0 (by first|exact zfM rfl rfl rfl yaq zlL|exact zk3 rfl rfl rfl zlL yg) ?_;refine zj (d:=22) (y:=p.take n) rfl (by congr 1;omega) ?_;refine zU rfl rfl rfl rfl Tryz.func180 fn_180 rfl rfl (fun ia1 iok1=>?_);refine qae ?_;refine qbo ?_;refine CNB ?_;refine zh2 rfl rfl rfl Tryz.func237 fn_237 rfl rfl yG (fun fid2 ca2 lN2 DN2 cok2 rc2 hrc2=>?_);refine CQR ?_;refine A0 (oLs rfl rfl rfl zsS) ?_;refine A0 (zW rfl rfl zqu) ?_;refine A0 zbb ?_;refine qc7 ?_;refine zj (d:=3) (y:=(n:Int)-1) rfl yx ?_;refine Lp (ι:=Nat×Total) 5 (fun(k,y)=>((Fr.none.set 0 (.lit (.func (.yield lN2) #[] #[]))).set 1 (.ptr 2 0)).set 3 (.val i64T ((k:Int)-1))) (fun(k,y)=>((((Hp.none.set 0 (.box 197 zbS zTotal)).set 1 (.box 197 zbS y)).set 2 (.box 60 (bsl zbS) (p.take n))).set 3 (.objAt DN2 (.deferred (some [])))).set 4 (.objAt lN2 (rc2 .ready none))) (fun(k,y)=>k≤n∧zbw p=zcU (p.take k).reverse y) (fun(k,y)=>k) ((n,x0)) (⟨ug _,hroot⟩) ?_;intro⟨k,y⟩ hinv;dsimp only at hinv;refine qb1 ?_;refine qbZ ?_;refine Cf (p:=0<k) (fun ht8=>?_) (fun ht8=>?_)
 ·
  obtain⟨x,hx⟩:∃x,(p.take n)[k-1]?=some x:=⟨_,ub yx⟩;have hx2:p[k-1]?=some x:=by rw[List.getElem?_take] at hx;split at hx;exact hx;cases hx
  refine CSQBQR ?_;refine A0 mL ?_;refine qax ?_;refine A0 (oLs rfl rfl rfl zsS) ?_;refine qax ?_;refine A0 (zK (i:=k-1) rfl rfl rfl yc zlL yh) ?_;refine A0 (zg rfl rfl zeM) ?_;refine zh1 (nL:=4) rfl rfl rfl rfl rfl hrc2 rfl rfl rfl (fun ya3 yok3=>?_);refine CR ?_;refine zs zjI rfl rfl rfl rfl ?_;refine qbR ?_;refine CN ?_;refine zh5 (nL:=4) hrc2 rfl ?_;refine CB ?_;refine CR ?_;refine A0 (oLs rfl rfl rfl zeM) ?_;refine A0 (oLs rfl rfl rfl zeM) ?_;refine A0 (oCl (join_ok _ _) rfl fn_181 yl) ?_;refine qbR ?_;refine CN ?_;refine CI ?_;refine zde (nL:=4) hrc2 rfl ?_;refine qaL ?_;refine Cg ?_;refine CSIR ?_;refine qcb ?_;refine qad ?_;refine zj (d:=3) (y:=((k-1:Nat):Int)-1) rfl yc ?_;exact Nx ((k-1,zkW x y)) (⟨by omega,by rw[hinv.2,show k=k-1+1 by omega,zrt hx2];rfl⟩) (by show k-1<k;omega)
 obtain rfl:k=0:=yc;refine CE ?_;refine zei (nL:=4) rfl hrc2 rfl yp ?_;refine CI ?_;refine CQR ?_;refine A0 (oLs rfl rfl rfl zeM) ?_;refine qbR ?_;refine CN ?_;refine zap (zbD (nD:=3) rfl rfl rfl ?_);exact zst rfl rfl rfl rfl zeM (by rw[hinv.2];rfl)
theorem zmD (p:List Total) (leaf:Total) (hp:p.length≤1000000):Tells P 117 [.val (bsl zbS) p,.val zbS leaf] (.fresh 197 zbS (zaO p leaf)):=by
 refine zc Tryz.func117 rfl rfl rfl (fun ext w hext=>?_);refine ze (d:=0) rfl zk (fun hsl0=>?_);refine qc6 ?_;refine CN ?_;refine zsj (ι:=List Total×Total) 2 0 rfl rfl rfl (fun (i:List Total×Total)=>match i with|(r,x)=>((Fr.none).set 3 (.ptr 0 0)).set 5 (.own 1)) (fun (i:List Total×Total)=>match i with|(r,x)=>((Hp.none).set 0 (.box 197 zbS leaf)).set 1 (.row 197 zbS (r.reverse++[x]))) (fun (i:List Total×Total)=>match i with|(r,x)=>r.length≤1000000∧ziy r x=ziy p.reverse leaf) (fun (i:List Total×Total)=>match i with|(r,x)=>r.length) ?_ (fun hreach=>?_)
 ·
  intro⟨r,x⟩ hinv;dsimp only at hinv;refine qb6 ?_;refine A0 (zaJ rfl rfl rfl zqu) ?_;refine zj (d:=13) (y:=((r.length+1:Nat):Int)) rfl yy ?_;refine qa7 ?_;refine qaV ?_;refine G0 mV ?_;refine G0 zb2 ?_;refine zaG (d:=15) (p:=r=[]) rfl (by rw[uo];show((r.length+1:Nat):Int)<2↔_;rw[←List.length_eq_zero_iff];omega) (fun g15=>?_) (fun g15=>?_)
  ·
   refine G0 mV ?_;refine qab ?_;refine qab ?_;refine G2 ?_;refine qaW ?_;refine Ct ?_;refine qb6 ?_;refine qbm ?_;exact zb rfl rfl (zh rfl rfl (by unfold zaO;rw[←hinv.2,g15];rfl))
  obtain⟨y,s,hr⟩:∃y s,r=y::s:=by cases r with|nil=>exact absurd rfl g15|cons y s=>exact⟨y,s,rfl⟩
  have hrl:r.length=s.length+1:=by rw[hr];rfl
  have hx1:(r.reverse++[x])[s.length]?=some y:=by rw[hr];simp
  have hx2:(r.reverse++[x])[s.length+1]?=some x:=by rw[List.getElem?_append_right (by simp[hrl])];simp[hrl]
  refine G0 mV ?_;refine G1 mO ?_;refine G1 mV ?_;refine G1 zbb ?_;refine G1 (zcs (i:=s.length) rfl rfl rfl rfl yn zlL yg) ?_;refine G1 (zoD rfl rfl zhV rfl) ?_;refine G1 (zbX rfl rfl rfl rfl yh zgD ty_3) ?_;refine G1 mO ?_;refine G1 mV ?_;refine G1 zbb ?_;refine G1 (zcs (i:=s.length+1) rfl rfl rfl rfl yn zlL yg) ?_;refine G1 (zoD rfl rfl zhV rfl) ?_;refine G1 (zbX rfl rfl rfl rfl yh zgD ty_3) ?_;refine G1 zdQ ?_;refine qaW ?_;refine zn (p:=¬y.n=x.n) rfl yH (fun ht30=>?_) (fun ht30=>?_)
  ·
   refine qb6 ?_;refine qbm ?_;exact zb rfl rfl (zh rfl rfl (by unfold zaO;rw[←hinv.2,hr,ziy,ur ht30];simp))
  refine qcl ?_;refine zx [some 1,some 1,some 1,some 1,some 1,some 1,some 1,some 1,some 1,some 1,some 1,some 1,some 1,some 1,some 1,some 1,none,some 1] mixed ye ?_;refine X0 mO ?_;refine X0 mV ?_;refine X0 zbb ?_;refine X0 (zmG (q:=s.length) rfl rfl rfl rfl zlL yn yg) ?_;refine X0 mO ?_;refine X0 mV ?_;refine X0 zbb ?_;refine X0 (zcs (i:=s.length) rfl rfl rfl rfl yn zlL yg) ?_;refine X0 (zbX rfl rfl rfl rfl yh (Lens.self _) zeM) ?_;refine X0 mO ?_;refine X0 mV ?_;refine X0 zbb ?_;refine X0 (zcs (i:=s.length+1) rfl rfl rfl rfl yn zlL yg) ?_;refine X0 (zbX rfl rfl rfl rfl yh (Lens.self _) zeM) ?_;refine X0 (oCl (join_ok _ _) rfl fn_181 yl) ?_;refine X0 (zX (T:=zbS) (xs:=[_]) rfl zlL zn4 yB rfl rfl) ?_;refine XK.e (fun fr' hfr kk H=>by exact zsq rfl rfl rfl rfl ((hfr 35 ye).trans rfl) ((hfr 47 ye).trans rfl) rfl zn4 yx (zr H)) ?_;refine X0 aS ?_;refine xf ?_;refine zuq (d:=5) rfl rfl rfl yx ?_;refine zaQ 2 1 3 rfl rfl rfl rfl rfl rfl ?_;refine zA (n:=1) (y:=s.reverse++[zkW y x]) rfl (by simp[hr,List.take_append];exact uc yy) ?_;exact aw_goto ((s,zkW y x)) rfl (⟨by omega,by rw[←hinv.2,hr,ziy,ut (ua ht30)]⟩) (by show s.length<r.length;omega) rfl (by (repeat refine Fr.le_set ?_ yaw);exact Fr.le_none _) (by (repeat refine Hp.le_set ?_ rfl);exact Hp.le_none _) (by (repeat refine Fr.below_setB ?_ rfl);exact Fr.below_none _) (by (repeat refine Hp.below_set ?_ yp);exact Hp.below_none _)
 refine CQ ?_;refine zx [some 1,none,some 2,some 2,none,some 1] mixed ye ?_;refine X0 mV ?_;refine XK.e (fun fr' hfr kk H=>by exact zaD (zqN p yU) rfl fn_182 ⟨(zd ((hfr 7 ye).trans rfl)),trivial⟩ rfl rfl rfl (zr H)) ?_;refine XK.gb (t:=3) rfl rfl (fun _ he=>zz rfl rfl he (Lens.self _) zeM) rfl yB rfl rfl rfl ?_;refine XK.g2 (zX (T:=zbS) (xs:=[_]) rfl zlL zn4 yB rfl rfl) (zX (T:=zbS) (xs:=[_]) rfl zlL zn4 yB rfl rfl) rfl rfl rfl ?_;refine XK.e (fun fr' hfr kk H=>by exact zF rfl rfl rfl rfl ((hfr 8 ye).trans rfl) rfl ((hfr 10 ye).trans rfl) zn4 yx (zr H)) ?_;refine X0 aO ?_;refine xf ?_;refine CQR ?_;refine qa7 ?_;refine zaQ 2 1 3 rfl rfl rfl rfl rfl rfl ?_;refine zA (n:=1) (y:=p.reverse.reverse++[leaf]) rfl yy ?_;exact zsm hreach ((p.reverse,leaf)) rfl (⟨by simp;omega,rfl⟩) rfl (by (repeat refine Fr.le_set ?_ yaw);exact Fr.le_none _) (by (repeat refine Hp.le_set ?_ rfl);exact Hp.le_none _) (by (repeat refine Fr.below_setB ?_ rfl);exact Fr.below_none _) (by (repeat refine Hp.below_set ?_ yp);exact Hp.below_none _)
theorem growNilId (n:Nat) (hn:n≤1000000):Tells P 327 [.lit (.slice none 0 0),.val i64T (n:Int)] (.fresh 49 idT []):=by
 refine zc Tryz.func327 rfl rfl rfl (fun ext w hext=>?_);refine ze (d:=1) rfl zt (fun hin1=>?_);refine qaq ?_;refine qbg ?_;refine qaY ?_;refine ze1 rfl (uh (by show ¬((n:Int)<0);omega)) ?_;refine qbM ?_;refine A0 mL ?_;refine A0 (zhj rfl rfl zcq) ?_;refine A0 mL ?_;refine A0 yY ?_;refine A0 zbb ?_;refine A0 zbb ?_;refine qag ?_;refine qcC ?_;refine zn (p:=0<n) rfl yab (fun ht16=>?_) (fun ht16=>?_)
 ·
  refine CR ?_;refine A0 mL ?_;refine A0 mL ?_;refine A0 (zhj rfl rfl zcq) ?_;refine A0 yad ?_;refine qax ?_;refine zmi (T:=idT) (n:=n) rfl rfl rfl rfl rfl rfl yaq zfa zq8 (ui_3) (⟨by assumption,by omega,by omega⟩) ?_;refine A0 mL ?_;refine A0 yY ?_;refine A0 (zmG (q:=0) rfl rfl rfl rfl zb8 yn yg) ?_;refine A0 aS ?_;refine CNQR ?_;refine A0 mS ?_;refine A0 aS ?_;refine CN ?_;exact zb rfl rfl (zj1 rfl rfl yx rfl)
 refine CSQR ?_;refine A0 mL ?_;refine A0 aL ?_;refine CN ?_;exact zb rfl rfl (zp rfl)
theorem concatId (ls:List (List Ab.Id)) (hl:ls.flatten.length≤1000000):Tells P 280 [.val (bsl (bsl idT)) ls] (.fresh 49 idT ls.flatten):=by
 refine zc Tryz.func280 rfl rfl rfl (fun ext w hext=>?_);refine ze (d:=0) rfl zk (fun hsl0=>?_);refine qbD ?_;refine qaj ?_;refine A0 (zW rfl rfl isl_391) ?_;refine qa2 ?_;refine Lp (ι:=Nat) 0 (fun (k:Nat)=>(((((Fr.none).set 0 (.val (bsl (bsl idT)) ls)).set 3 (.val i64T ((ls.take k).flatten.length:Int))).set 9 (.val (bsl (bsl idT)) ls)).set 10 (.val i64T (ls.length:Int))).set 11 (.val i64T (k:Int))) (fun (k:Nat)=>Hp.none) (fun (k:Nat)=>k≤ls.length) (fun (k:Nat)=>ls.length-k) (0) (uf _) ?_;intro k hinv;refine qak ?_;refine Cf (p:=k<ls.length) (fun ht12=>?_) (fun ht12=>?_)
 ·
  obtain⟨x,hx⟩:∃x,ls[k]?=some x:=⟨_,ub ht12⟩;have hle:=zeg ls (k+1);rw[zaH hx,ue] at hle;refine CSQBQR ?_;refine A0 (zby rfl rfl rfl sl_391 yh) ?_;refine A0 (zg rfl rfl za5) ?_;refine A0 aX ?_;refine CNQR ?_;refine qax ?_;refine A0 mX ?_;refine A0 yY ?_;refine A0 zdp ?_;refine qag ?_;refine qaY ?_;refine ze1 rfl (uh yS) ?_;refine qaZ ?_;refine zj (d:=3) (y:=((ls.take (k+1)).flatten.length:Int)) rfl (by rw[zaH hx,ue];omega) ?_;exact Nx (k+1) yc yc
 refine zj (d:=3) (y:=((ls.flatten.length:Nat):Int)) rfl yN ?_;refine CE ?_;refine qa4 ?_;refine zaD (growNilId ls.flatten.length hl) rfl fn_327 ybP rfl rfl rfl ?_;refine A0 aO ?_;refine qbg ?_;refine A0 (zW rfl rfl isl_391) ?_;refine qa2 ?_;refine Lp (ι:=Nat) 1 (fun k=>(((Fr.none.set 6 (.own 0)).set 25 (.val (bsl (bsl idT)) ls)).set 26 (.val i64T (ls.length:Int))).set 27 (.val i64T (k:Int))) (fun k=>Hp.none.set 0 (.row 49 idT (ls.take k).flatten)) (fun k=>k≤ls.length) (fun k=>ls.length-k) (0) (uf _) ?_;intro k hinv;refine qak ?_;refine Cf (p:=k<ls.length) (fun ht28=>?_) (fun ht28=>?_)
 ·
  obtain⟨x,hx⟩:∃x,ls[k]?=some x:=⟨_,ub ht28⟩;have hle:=zeg ls (k+1);rw[zaH hx,ue] at hle;refine CSQBQR ?_;refine A0 (zby rfl rfl rfl sl_391 yh) ?_;refine A0 (zg rfl rfl za5) ?_;refine A0 aX ?_;refine CNR ?_;refine A0 mO ?_;refine A0 mX ?_;refine zF rfl rfl rfl rfl rfl rfl rfl zfa yc ?_;refine A0 aO ?_;refine qbh ?_;refine xm ?_;refine zA (n:=0) rfl (zaH hx).symm ?_;exact Nx (k+1) yc yc
 refine qa9 ?_;exact zb rfl rfl (zh rfl rfl yN)
def mulM (x y:UInt64):UInt64:=za6 x 32*(y&&&4294967295)+za6 ((x&&&4294967295)*(y&&&4294967295)) 32
def mulHi (x y:UInt64):UInt64:=za6 x 32*za6 y 32+za6 (mulM x y) 32+za6 ((mulM x y&&&4294967295)+(x&&&4294967295)*za6 y 32) 32
theorem mul64_ok (x y:UInt64):Tells P 361 [.val u64T x,.val u64T y] (.tup2 (.val u64T (mulHi x y)) (.val u64T (x*y))):=by
 refine zc Tryz.func361 rfl rfl rfl (fun ext w hext=>?_);refine CQR ?_;refine A0 aV ?_;refine qag ?_;refine A0 (zrZ rfl rfl rfl) ?_;refine qag ?_;refine xk ?_;refine qag ?_;refine A0 (zrZ rfl rfl rfl) ?_;refine qag ?_;refine xk ?_;refine qag ?_;refine qax ?_;refine A0 (zl4 rfl rfl rfl) ?_;refine qag ?_;refine qax ?_;refine A0 (zl4 rfl rfl rfl) ?_;refine qax ?_;refine xk ?_;refine A0 (zoE rfl rfl rfl) ?_;refine qag ?_;refine A0 (zrZ rfl rfl rfl) ?_;refine qag ?_;refine xk ?_;refine qag ?_;refine qao ?_;refine A0 (zl4 rfl rfl rfl) ?_;refine A0 (zoE rfl rfl rfl) ?_;refine qag ?_;refine qax ?_;refine A0 (zl4 rfl rfl rfl) ?_;refine qax ?_;refine A0 (zoE rfl rfl rfl) ?_;refine qax ?_;refine xk ?_;refine A0 (zoE rfl rfl rfl) ?_;refine qag ?_;refine qax ?_;refine A0 (zl4 rfl rfl rfl) ?_;refine qad ?_;exact zV rfl rfl (za rfl rfl) (za rfl rfl)
theorem mulU_ok (x y:UInt64):Tells P 328 [.val u64T x,.val u64T y] (.tup2 (.val u64T (mulHi x y)) (.val u64T (x*y))):=by
 refine zc Tryz.func328 rfl rfl rfl (fun ext w hext=>?_);refine CQR ?_;refine A0 aV ?_;refine qa7 ?_;refine Cg ?_;refine CSQR ?_;refine qao ?_;refine A0 (oCl (mul64_ok _ _) rfl fn_361 yl) ?_;refine qbi ?_;refine A0 aV ?_;refine qag ?_;refine qax ?_;refine qbA ?_;exact zV rfl rfl (za rfl rfl) (za rfl rfl)
theorem mulHi_one {n:Nat} (h:n≤1000000):mulHi 1 (zae (IntL.toI i64T (n:Int)))=0:=by
  have e:(zae (IntL.toI i64T (n:Int))).toNat=n:=by
    unfold zae;show(UInt64.ofNat ((n:Int)%18446744073709551616).toNat).toNat=n;rw[UInt64.toNat_ofNat_of_lt' y7];omega
  obtain⟨y,hy⟩:∃y,y=zae (IntL.toI i64T (n:Int)):=⟨_,rfl⟩;rw[←hy] at e ⊢;have a1:za6 (1:UInt64) 32=0:=yp;have a2:za6 y 32=0:=by
    apply UInt64.toNat_inj.1;rw[zbu y yp,e];show n/4294967296=0;omega
  have a3:y&&&4294967295=y:=by
    apply UInt64.toNat_inj.1;rw[UInt64.toNat_and,e];show n&&&(2^32-1)=n;rw[Nat.and_two_pow_sub_one_eq_mod];omega
  have a4:(1:UInt64)&&&4294967295=1:=yp;unfold mulHi mulM;rw[a1,a2,a3,a4,UInt64.one_mul,a2];simp;rfl
theorem mulLo_one {n:Nat} (h:n≤1000000):IntKind.i64.wrap (IntL.toI u64T (1*zae (IntL.toI i64T (n:Int))))=(n:Int):=by
  have e:(zae (IntL.toI i64T (n:Int))).toNat=n:=by
    unfold zae;show(UInt64.ofNat ((n:Int)%18446744073709551616).toNat).toNat=n;rw[UInt64.toNat_ofNat_of_lt' y7];omega
  rw[UInt64.one_mul];show IntKind.i64.wrap (((zae (IntL.toI i64T (n:Int))).toNat:Nat):Int)=n;rw[e,zax yc]
theorem u64_small {n:Nat} (h:n≤1000000):(zae (IntL.toI i64T (n:Int))).toNat=n:=by
  unfold zae;show(UInt64.ofNat ((n:Int)%18446744073709551616).toNat).toNat=n;rw[UInt64.toNat_ofNat_of_lt' y7];omega
theorem rep_step {x:Ab.Id} {l:List Ab.Id} {i m N:Nat} (hl:l.length=N) (hi:i+m≤N) (hm:m≤i) (h:l.take i=List.replicate i x):(l.take i++(l.take i).take m++l.drop (i+m)).take (i+m)=List.replicate (i+m) x:=by
  rw[h,List.take_replicate,Nat.min_eq_left hm,←List.replicate_append_replicate,List.take_append_of_le_length yy,uc yy]
theorem repeatId (x:Ab.Id) (n:Nat) (hn:1≤n∧n≤1000):Tells P 281 [.val (bsl idT) [x],.val i64T (n:Int)] (.fresh 49 idT (List.replicate n x)):=by
 refine zc Tryz.func281 rfl rfl rfl (fun ext w hext=>?_);refine ze (d:=0) rfl zk (fun hsl0=>?_);refine ze (d:=1) rfl zt (fun hin1=>?_);refine qaq ?_;refine qbg ?_;refine qaY ?_;refine ze1 rfl (uh yS) ?_;refine qcG ?_;refine qaS ?_;refine qc4 ?_;refine qax ?_;refine qc4 ?_;refine A0 (oCl (mulU_ok 1 (zae (IntL.toI i64T (n:Int)))) rfl fn_328 yl) ?_;refine qaB ?_;refine zj (d:=19) (y:=(0:UInt64)) rfl (mulHi_one yc) ?_;refine qaU ?_;refine A0 aV ?_;refine qaj ?_;refine A0 zc1 ?_;refine zi4 (d:=22) rfl (rfl) ?_;refine qax ?_;refine qck ?_;refine zi4 (d:=25) rfl (uh (by rw[UInt64.one_mul];show ¬((9223372036854775807:Int)<(((zae (IntL.toI i64T (n:Int))).toNat:Nat):Int));rw[u64_small yc];omega)) ?_;refine qaw ?_;refine Cg ?_;refine qcG ?_;refine A0 (zm8 rfl (ui_3) (zv6) rfl (mulLo_one yc)) ?_;refine aw_mks (T:=idT) (n:=n) rfl rfl rfl rfl rfl rfl yn yn zfa zq8 ⟨by omega,by omega,(show(n)*32≤16777216 by omega)⟩ ?_;refine A0 aO ?_;refine CNQR ?_;refine A0 mO ?_;refine qax ?_;refine aw_copy_o rfl rfl rfl rfl rfl rfl rfl zfa (m:=1) yx yx ?_;refine A0 aX ?_;refine CNQ ?_;refine CB ?_;refine Lp (ι:=Nat×List Ab.Id) 1 (fun (i:Nat×List Ab.Id)=>match i with|(i,l)=>((Fr.none).set 7 (.own 0)).set 8 (.val i64T (i:Int))) (fun (i:Nat×List Ab.Id)=>match i with|(i,l)=>(Hp.none).set 0 (.row 49 idT l)) (fun (i:Nat×List Ab.Id)=>match i with|(i,l)=>l.length=n∧1≤i∧i≤n∧l.take i=List.replicate i x) (fun (i:Nat×List Ab.Id)=>match i with|(i,l)=>n-i) ((1,[x]++(List.replicate n zId).drop 1)) (⟨by simp;omega,by omega,by omega,by simp⟩) ?_;intro⟨i,l⟩ hinv;dsimp only at hinv;refine qb1 ?_;refine A0 mO ?_;refine A0 (zaJ rfl rfl rfl zcq) ?_;refine qaY ?_;refine zn (p:=i<n) rfl (by rw[uo];simp only[IntL.toI,id_eq,hinv.1];omega) (fun ht37=>?_) (fun ht37=>?_)
 ·
  refine CS ?_;refine CB ?_;refine zx [some 1000001,some 1,some 1,some 1,some 1,some 1,some 1,none,some 1,some 1] mixed ye ?_;refine XK.ga (fun _=>g_mv (.inl rfl) rfl) rfl rfl rfl ?_;refine X0 mO ?_;refine X0 mV ?_;refine X0 (ztL (p:=i) rfl rfl rfl rfl zb8 yn yg) ?_;refine X0 mO ?_;refine X0 mV ?_;refine X0 (zmG (q:=i) rfl rfl rfl rfl zb8 yn yg) ?_;refine XK.e (fun fr' hfr kk H=>by exact aw_copy_in rfl rfl rfl rfl ((hfr 41 ye).trans rfl) ((hfr 44 ye).trans rfl) rfl zfa (m:=min i (n-i)) yc yc (zr H)) ?_;refine X0 zdp ?_;refine X0 aV ?_;refine xf ?_;refine CI ?_;exact Nx ((i+min i (n-i),l.take i++(l.take i).take (min i (n-i))++l.drop (i+min i (n-i)))) (⟨by simp;omega,by omega,by omega,rep_step hinv.1 yc yc hinv.2.2.2⟩) (by show n-(i+min i (n-i))<n-i;omega)
 refine qa9 ?_;exact zb rfl rfl (zh rfl rfl (by have h:=hinv.2.2.2;rw[uc yc] at h;rw[h];congr 1;omega))
def zca (l:List Ab.Id) (id:Ab.Id) (level:Int):List Ab.Id:=if 32<l.length then [] else if l.length=0 then [id] else if level<1 then l else l.take 1++List.replicate (min level 31).toNat id++l.drop ((min level 31).toNat+1)
theorem zvd (l:List Ab.Id) (id:Ab.Id) (level:Int):Tells P 245 [.val (bsl idT) l,.val idT id,.val i64T level] (.fresh 49 idT (zca l id level)):=by
 refine zc Tryz.func245 rfl rfl rfl (fun ext w hext=>?_);refine ze (d:=0) rfl zk (fun hsl0=>?_);refine ze (d:=2) rfl zt (fun hin2=>?_);refine qc6 ?_;refine CNQ ?_;refine CB ?_;refine qa4 ?_;refine qaS ?_;refine A0 zc1 ?_;refine Sp (d:=12) (p:=32<l.length) (fun g12=>?_) (fun g12=>?_)
 ·
  refine qad ?_;refine Ct ?_;refine qaq ?_;refine CN ?_;exact zb rfl rfl (by unfold zca;rw[ut g12];exact zp rfl)
 refine qad ?_;refine Cg ?_;refine qa4 ?_;refine qaS ?_;refine A0 zbZ ?_;refine Sp (d:=16) (p:=l.length=0) (fun g16=>?_) (fun g16=>?_)
 ·
  refine qad ?_;refine Ct ?_;refine CQR ?_;refine qb2 ?_;refine zce (T:=idT) (xs:=[_]) rfl rfl rfl rfl zb8 zfa yB rfl rfl ?_;refine qbm ?_;exact zb rfl rfl (zh rfl rfl (by unfold zca;rw[ur g12,ut g16]))
 refine qad ?_;refine Cg ?_;refine qa4 ?_;refine A0 zb2 ?_;refine Sp (d:=21) (p:=level<1) (fun g21=>?_) (fun g21=>?_)
 ·
  refine qad ?_;refine Ct ?_;refine qa4 ?_;refine zaD (zg3 l yU) rfl zpS yf rfl rfl rfl ?_;refine qbm ?_;exact zb rfl rfl (zh rfl rfl (by unfold zca;rw[ur g12,ur g16,ut g21]))
 refine qad ?_;refine Cg ?_;refine CS ?_;refine CI ?_;refine qa4 ?_;refine A0 (g_min rfl rfl rfl) ?_;refine A0 (g_add rfl rfl rfl (show _=((((min level 31).toNat+1:Nat):Int):Int) from(zax yc).trans yc)) ?_;refine qa7 ?_;refine zx [some 1,some 1,some 1,some 1,some 1,some 1,some 1,some 1,none,some 1] mixed ye ?_;refine qa3 ?_;refine X0 (oLs rfl rfl rfl zaj) ?_;refine qc2 ?_;refine X0 mV ?_;refine X0 (zj5 rfl rfl rfl (show _=(((min level 31).toNat:Int):Int) from(zax yc).trans yc)) ?_;refine X0 (zqz (T:=sl idT) (S:=bsl idT) (zgl (zu (repeatId id (min level 31).toNat yc)) rfl fn_281 yl rfl)) ?_;refine X0 (zX (T:=(bsl idT)) (xs:=[_,_]) rfl sl_391 row_391 y4 rfl rfl) ?_;refine XK.e (fun fr' hfr kk H=>by exact zaD (concatId [l.take 1,List.replicate (min level 31).toNat id] yx) rfl fn_280 ⟨(zd ((hfr 34 ye).trans rfl)),trivial⟩ rfl rfl rfl (zr H)) ?_;refine X0 aO ?_;refine xf ?_;refine qb1 ?_;refine qaS ?_;refine qax ?_;refine qcC ?_;refine Cf (p:=(min level 31).toNat+1<l.length) (fun ht39=>?_) (fun ht39=>?_)
 ·
  refine CR ?_;refine A0 mO ?_;refine qao ?_;refine A0 (zhi rfl rfl rfl zb8 yg) ?_;refine zF rfl rfl rfl rfl rfl rfl rfl zfa yx ?_;refine A0 aO ?_;refine CNQR ?_;refine A0 mO ?_;refine qbm ?_;exact zb rfl rfl (zh rfl rfl (by unfold zca;rw[ur g12,ur g16,ur g21];simp;omega))
 refine CSQR ?_;refine A0 mO ?_;refine qbm ?_;exact zb rfl rfl (zh rfl rfl (by unfold zca;rw[ur g12,ur g16,ur g21,List.drop_of_length_le yc];simp))
def zgL:Nat→Head→Option Head
  | 0,_=>none
  | n+1,h=>if zbx h=true then some h else zgL n { h with nonce:=h.nonce+1 }
def ziC (h:Head) (tries:Int):Option Head:=zgL (min tries 200).toNat h
theorem zkR {n:Nat} {h:Head} (hn:0<n) (hm:¬zbx h=true):zgL n h=zgL (n-1) { h with nonce:=h.nonce+1 }:=by
  obtain⟨m,rfl⟩:∃m,n=m+1:=⟨n-1,by omega⟩;rw[zgL,ur hm];rfl
theorem ziD {n:Nat} {h:Head} (hn:0<n) (hm:zbx h=true):zgL n h=some h:=by
  obtain⟨m,rfl⟩:∃m,n=m+1:=⟨n-1,by omega⟩;rw[zgL,ut hm]
theorem mine_ok (h:Head) (tries:Int):Tells P 231 [.val zbW h,.val i64T tries] (.tup2 (.val zbW ((ziC h tries).getD h)) (.val zm (ziC h tries).isSome)):=by
 refine zc Tryz.func231 rfl rfl rfl (fun ext w hext=>?_);refine ze (d:=1) rfl zt (fun hin1=>?_);refine qae ?_;refine qcE ?_;refine zs ze_4 rfl rfl rfl rfl ?_;refine CNQQR ?_;refine qcc ?_;refine qax ?_;refine zU rfl rfl rfl rfl Tryz.func272 fn_272 rfl rfl (fun ia1 iok1=>?_);refine qay ?_;refine A0 aL ?_;refine CNQR ?_;refine xp ?_;refine A0 aC ?_;refine CN ?_;refine zbn rfl ?_;refine CNB ?_;refine zh2 rfl rfl rfl Tryz.func322 fn_322 rfl rfl yM (fun fid2 ca2 lN2 DN2 cok2 rc2 hrc2=>?_);refine CQR ?_;refine A0 (oLs rfl rfl rfl ty_3) ?_;refine A0 (g_min rfl rfl rfl) ?_;refine qa2 ?_;refine Lp (ι:=Nat×Head) 7 (fun(k,g)=>((((Fr.none.set 0 (.lit (.func (.yield lN2) #[] #[]))).set 1 (.ptr 4 0)).set 2 (.ptr 3 0)).set 5 (.val i64T (min tries 200))).set 6 (.val i64T (k:Int))) (fun(k,g)=>((((((Hp.none.set 0 (.box 55 zbW h)).set 1 (.box 55 zbW zko)).set 2 (.box 4 zm false)).set 3 (.box 55 zbW g)).set 4 (.box 3 i64T tries)).set 5 (.objAt DN2 (.deferred (some [])))).set 6 (.objAt lN2 (rc2 .ready none))) (fun(k,g)=>k≤(min tries 200).toNat∧ziC h tries=zgL ((min tries 200).toNat-k) g) (fun(k,g)=>(min tries 200).toNat-k) ((0,h)) (⟨uf _,rfl⟩) ?_;intro⟨k,g⟩ hinv;dsimp only at hinv;refine qak ?_;refine Cf (p:=(k:Int)<min tries 200) (fun ht7=>?_) (fun ht7=>?_)
 ·
  refine qcl ?_;refine CB ?_;refine CQQR ?_;refine A0 mL ?_;refine qcc ?_;refine zh1 (nL:=6) rfl rfl rfl rfl rfl hrc2 rfl rfl rfl (fun ya3 yok3=>?_);refine CR ?_;refine qcE ?_;refine qbj ?_;refine CN ?_;refine zh5 (nL:=6) hrc2 rfl ?_;refine CB ?_;refine CQR ?_;refine qcc ?_;refine A0 (oCl (zl2 _) rfl fn_120 yf) ?_;refine CN ?_;refine zn (p:=zbx g=true) rfl yy (fun ht12=>?_) (fun ht12=>?_)
  ·
   refine CQR ?_;refine qcc ?_;refine qbj ?_;refine zf rfl rfl rfl rfl rfl (Lens.self _) ty_4 rfl ?_;refine CN ?_;refine zfo (nL:=6) hrc2 rfl ?_;refine qaL ?_;refine Ct ?_;refine zd9 (nL:=6) rfl hrc2 rfl yp ?_;refine zap (zbD (nD:=5) rfl rfl rfl ?_);exact zlv rfl rfl (zl rfl rfl zaM (by rw[hinv.2,ziD yc ht12];rfl)) (zl rfl rfl ty_4 (by rw[hinv.2,ziD yc ht12];rfl))
  refine CS ?_;refine CI ?_;refine zde (nL:=6) hrc2 rfl ?_;refine qaL ?_;refine Cg ?_;refine CS ?_;refine CR ?_;refine A0 (oFp zhR) ?_;refine A0 (oLb zdi zcE) ?_;refine A0 (zoE rfl rfl rfl) ?_;refine A0 (oFp zhR) ?_;refine zf rfl rfl rfl rfl rfl zdi zcE rfl ?_;refine qbh ?_;exact Nx ((k+1,{ g with nonce:=g.nonce+1 })) (⟨by omega,by rw[hinv.2,zkR yc ht12];rfl⟩) (by show(min tries 200).toNat-(k+1)<(min tries 200).toNat-k;omega)
 refine CE ?_;refine zei (nL:=6) rfl hrc2 rfl yp ?_;refine CI ?_;refine CQR ?_;refine qcc ?_;refine qbj ?_;refine zf rfl rfl rfl rfl rfl (Lens.self _) ty_4 rfl ?_;refine CN ?_;refine zap (zbD (nD:=5) rfl rfl rfl ?_);exact zlv rfl rfl (zl rfl rfl zaM (by rw[hinv.2,show(min tries 200).toNat-k=0 by omega];rfl)) (zl rfl rfl ty_4 (by rw[hinv.2,show(min tries 200).toNat-k=0 by omega];rfl))
def zfK (h:Head):Total:=leafT (zw h) (zfL h)
def zes (t:Tip):List Ab.Id:=zca t.b.l (zw t.b.h) (zQ t.b.h)
def zc7 (t:Tip) (l:List Tx) (nonce:UInt64):Head:=⟨IntKind.i64.wrap (t.b.h.height+1),zw t.b.h,zal (zes t),zsX l,(zbw t.p).h,(zbw t.p).w,t.b.h.bits,nonce⟩
def zid (bits:UInt32):Head:=⟨0,zId,zal [],zsX [],(zbw []).h,zdj,bits,0⟩
def zaq (bits:UInt32):Tip:=if zbQ bits=true then ⟨⟨zid bits,[],[]⟩,zaO [] (zfK (zid bits)),[]⟩ else zTip
def zfA (h:Head):Head:={ zko with height:=h.height,prev:=h.prev,bits:=h.bits }
theorem ztt {l:List Ab.Id} {id:Ab.Id} {level:Int}:(zca l id level).length≤64:=by
  unfold zca
  split
  · simp
  split
  · simp
  split
  · omega
  simp;omega
def zit (t:Tx):Prop:=t.ins.length*40≤140737488351232∧t.outs.length*16≤140737488351232
def zp5 (l:List Tx):Prop:=l.length*48≤140737488351232∧∀t∈l,zit t
def zge (b:Block):Prop:=b.l.length*32≤140737488351232∧zp5 b.t
def zgI (t:Tip):Prop:=zge t.b∧t.p.length≤1000∧t.c.length≤1000
theorem set_same {α:Type} {l:List α} {k:Nat} {x:α} (h:l[k]?=some x):l.set k x=l:=by
  obtain⟨hk,rfl⟩:=ul.1 h;exact List.set_getElem_self hk
theorem zwM (h:Head):Tells P 118 [.val zbW h] (.val zbS (zfK h)):=by
 refine zc Tryz.func118 rfl rfl rfl (fun ext w hext=>?_);refine qae ?_;refine zs zjI rfl rfl rfl rfl ?_;refine CNQ ?_;refine zx [some 1,some 1,some 1,some 1,some 1,none] mixed ye ?_;refine X0 (oLs rfl rfl rfl zaM) ?_;refine X0 (oCl (zeu _) rfl zr0 yf) ?_;refine X0 (oLs rfl rfl rfl zaM) ?_;refine X0 (oCl (zvl _) rfl fn_184 yf) ?_;refine X0 (oCl (mleaf_ok _ _) rfl fn_183 yl) ?_;refine XK.e (x:=.idk) (fun fr' hfr kk H=>by exact zf rfl rfl rfl ((hfr 2 ye).trans rfl) rfl (Lens.self _) zeM ((hfr 7 ye).trans rfl) (zr H)) ?_;refine xf ?_;exact zag rfl rfl rfl rfl zeM (rfl)
theorem zoo (t:Tip):Tells P 190 [.val tipT t] (.fresh 49 idT (zes t)):=by
 refine zc Tryz.func190 rfl rfl rfl (fun ext w hext=>?_);refine qc6 ?_;refine CNQ ?_;refine zx [some 1,some 1,some 1,some 1,some 1,some 1,some 1,some 1,some 1,some 1,some 1,none,some 1] mixed ye ?_;refine X0 (oFp zeB) ?_;refine X0 (oFp zcQ) ?_;refine X0 (oLb (zeK.comp zbN) za5) ?_;refine X0 (oFp zeB) ?_;refine X0 (oFp zbe) ?_;refine X0 (oLb (zeK.comp zaw) zaM) ?_;refine X0 (oCl (zeu _) rfl zr0 yf) ?_;refine X0 (oFp zeB) ?_;refine X0 (oFp zbe) ?_;refine X0 (oLb (zeK.comp zaw) zaM) ?_;refine X0 (oCl (zgO _) rfl zxb yf) ?_;refine XK.e (fun fr' hfr kk H=>by exact zaD (zvd t.b.l (zw t.b.h) (zQ t.b.h)) rfl fn_245 ⟨(zd ((hfr 5 ye).trans rfl)),(zd ((hfr 9 ye).trans rfl)),(zd ((hfr 13 ye).trans rfl)),trivial⟩ rfl rfl rfl (zr H)) ?_;refine X0 aO ?_;refine xf ?_;exact zb rfl rfl (zh rfl rfl rfl)
theorem zwB (t:Tip) (l:List Tx) (nonce:UInt64) (hl:l.length≤4000000000000) (hp:t.p.length≤1000000):Tells P 127 [.val tipT t,.val (bsl txT) l,.val u64T nonce] (.val zbW (zc7 t l nonce)):=by
 have hlk:(zes t).length≤64:=ztt;refine zc Tryz.func127 rfl rfl rfl (fun ext w hext=>?_);refine ze (d:=1) rfl zk (fun hsl1=>?_);refine qae ?_;refine qcE ?_;refine CNQR ?_;refine A0 (oFp zl8) ?_;refine A0 (oLb zmk zsS) ?_;refine A0 (oCl (zqn t.p hp) rfl fn_116 yf) ?_;refine zs zjI rfl rfl rfl rfl ?_;refine qbR ?_;refine CNQ ?_;refine zx [some 1,some 1,some 1,some 1,some 1,some 1,some 1,some 1,some 1,some 1,some 1,some 1,some 1,some 1,some 1,some 1,some 1,some 1,some 1,some 1,some 1,some 1,some 1,some 1,none] mixed ye ?_;refine X0 (oFp zeB) ?_;refine X0 (oFp zbe) ?_;refine X0 (oFp zcR) ?_;refine X0 (oLb ((zeK.comp zaw).comp zar) ty_3) ?_;refine X0 zdp ?_;refine X0 (oFp zeB) ?_;refine X0 (oFp zbe) ?_;refine X0 (oLb (zeK.comp zaw) zaM) ?_;refine X0 (oCl (zeu _) rfl zr0 yf) ?_;refine X0 (oLs rfl rfl rfl zeL) ?_;refine X0 (oCl (zu (zoo t)) rfl fn_190 yf) ?_;refine X0 (oCl (zd5 (zes t) yc) rfl zoJ yf) ?_;refine X0 mV ?_;refine X0 (oCl (zsW l hl) rfl fn_115 yf) ?_;refine X0 (oFp zjm) ?_;refine X0 (oLb zhr zaj) ?_;refine X0 (oFp zjl) ?_;refine X0 (oLb zhq za1) ?_;refine X0 (oFp zeB) ?_;refine X0 (oFp zbe) ?_;refine X0 (oFp zdF) ?_;refine X0 (oLb ((zeK.comp zaw).comp za9) zcj) ?_;refine X0 mV ?_;refine X0 (zC rfl zq6 bd_55 (.cons zcR zar ty_3 rfl (.cons zg1 zdh zaj rfl (.cons zg0 zcA zaj rfl (.cons ziT zf3 zaj rfl (.cons zkb zgF zaj rfl (.cons zl9 zh7 za1 rfl (.cons zdF za9 zcj rfl (.cons zhR zdi zcE rfl .nil)))))))) rfl) ?_;refine XK.e (x:=.idk) (fun fr' hfr kk H=>by exact zf rfl rfl rfl ((hfr 6 ye).trans rfl) rfl (Lens.self _) zaM ((hfr 34 ye).trans rfl) (zr H)) ?_;refine xf ?_;exact zag rfl rfl rfl rfl zaM (rfl)
theorem zj9 (bits:UInt32):Tells P 52 [.val u32T bits] (.tup2 (.val tipT (zaq bits)) (.val zm (zbQ bits))):=by
 refine zc Tryz.func52 rfl rfl rfl (fun ext w hext=>?_);refine CQR ?_;refine zs zmT rfl rfl rfl rfl ?_;refine qaj ?_;refine A0 (oCl (znN _) rfl fn_113 yf) ?_;refine qbi ?_;refine qaO ?_;refine qat ?_;refine qag ?_;refine qaL ?_;refine zn (p:=¬zbQ bits=true) rfl (by cases zbQ bits<;>rfl) (fun ht13=>?_) (fun ht13=>?_)
 ·
  refine CQR ?_;refine A0 (zC rfl zmT zvL .nil rfl) ?_;refine qbs ?_;refine qad ?_;exact zq rfl rfl (zl rfl rfl zeL (by unfold zaq;rw[ur ht13])) (zT (za rfl (by simpa using ht13)))
 refine CSQR ?_;refine A0 (oCl (zd5 [] yp) rfl zoJ ybN) ?_;refine A0 (oCl (zsW [] yp) rfl fn_115 ybN) ?_;refine A0 (oCl (zqn [] yp) rfl fn_116 ybN) ?_;refine A0 (g_field rfl rfl zjm zhr zaj) ?_;refine qax ?_;refine A0 (zC rfl zq6 bd_55 (.cons zg0 zcA zaj rfl (.cons ziT zf3 zaj rfl (.cons zkb zgF zaj rfl (.cons zdF za9 zcj rfl .nil)))) rfl) ?_;refine qcE ?_;refine qbj ?_;refine CNQ ?_;refine xl ?_;refine X0 (oLs rfl rfl rfl zaM) ?_;refine X0 (zC rfl zmU bd_59 (.cons zbe zaw zaM rfl .nil) rfl) ?_;refine X0 (oLs rfl rfl rfl zaM) ?_;refine X0 (oCl (zwM (zid bits)) rfl fn_118 yf) ?_;refine X0 (oCl (zu (zmD [] (zfK (zid bits)) yp)) rfl fn_117 ybP) ?_;refine X0 (zC rfl zmT zvL (.cons zeB zeK zem rfl (.cons zl8 zmk zsS rfl .nil)) rfl) ?_;refine XK.e (x:=.idk) (fun fr' hfr kk H=>by exact zf rfl rfl rfl ((hfr 2 ye).trans rfl) rfl (Lens.self _) zeL ((hfr 26 ye).trans rfl) (zr H)) ?_;refine X0 aV ?_;refine xf ?_;exact zq rfl rfl (zl rfl rfl zeL (by unfold zaq;rw[ut (ua ht13)];rfl)) (zT (za rfl ((ua ht13).symm)))
theorem zqV (h:Head):Tells P 191 [.val zbW h] (.val zbW (zfA h)):=by
 refine zc Tryz.func191 rfl rfl rfl (fun ext w hext=>?_);refine qae ?_;refine qcE ?_;refine CNQR ?_;refine qcj ?_;refine A0 (oFp zg1) ?_;refine A0 (oLb zdh zaj) ?_;refine A0 (oFp zdF) ?_;refine A0 (oLb za9 zcj) ?_;refine A0 (zC rfl zq6 bd_55 (.cons zcR zar ty_3 rfl (.cons zg1 zdh zaj rfl (.cons zdF za9 zcj rfl .nil))) rfl) ?_;refine qbj ?_;refine CN ?_;exact zag rfl rfl rfl rfl zaM (rfl)
theorem txs_ok (l:List Tx) (hl:zp5 l):Tells P 194 [.val (bsl txT) l] (.fresh 101 txT l):=by
 obtain⟨hl1,hl2⟩:=hl;refine zc Tryz.func194 rfl rfl rfl (fun ext w hext=>?_);refine ze (d:=0) rfl zk (fun hsl0=>?_);refine qbD ?_;refine qax ?_;refine zaD (cloneTx l yU) rfl fn_251 yf rfl rfl rfl ?_;refine A0 aO ?_;refine CNQQR ?_;refine A0 mO ?_;refine A0 (zaJ rfl rfl rfl zkZ) ?_;refine qa2 ?_;refine Lp (ι:=Nat) 1 (fun (k:Nat)=>((((Fr.none).set 3 (.own 0)).set 8 (.own 0)).set 9 (.val i64T (l.length:Int))).set 10 (.val i64T (k:Int))) (fun (k:Nat)=>(Hp.none).set 0 (.row 101 txT l)) (fun (k:Nat)=>k≤l.length) (fun (k:Nat)=>l.length-k) (0) (uf _) ?_;intro k hinv;refine qak ?_;refine Cf (p:=k<l.length) (fun ht11=>?_) (fun ht11=>?_)
 ·
  obtain⟨x,hx⟩:∃x,l[k]?=some x:=⟨_,ub ht11⟩;have hxm:=ud hx;refine qaE ?_;refine A0 (zcs (i:=k) rfl rfl rfl rfl yn zlM yg) ?_;refine A0 (zbX rfl rfl rfl rfl yh (Lens.self _) zgb) ?_;refine zs zsG rfl rfl rfl rfl ?_;refine A0 aV ?_;refine qcg ?_;refine CN ?_;refine zx [some 1,some 1,some 1,some 1,some 1,some 1,some 1,some 1,some 1,some 1,none] mixed ye ?_;refine X0 mO ?_;refine X0 mV ?_;refine X0 (oFp zdY) ?_;refine X0 (oLb ze8 zmW) ?_;refine X0 (oCl (zu (cloneIn x.ins (by have:=hl2 x hxm;unfold zit at this;constructor<;>omega))) rfl fn_229 yf) ?_;refine X0 (oFp zeE) ?_;refine X0 (oLb zeJ znI) ?_;refine X0 (oCl (zu (zxv x.outs (by have:=hl2 x hxm;unfold zit at this;constructor<;>omega))) rfl fn_230 yf) ?_;refine X0 (zC rfl zsG bd_101 (.cons zdY ze8 zmW rfl (.cons zeE zeJ znI rfl .nil)) rfl) ?_;refine X0 (zcs (i:=k) rfl rfl rfl rfl yn zlM yg) ?_;refine XK.e (x:=.idk) (fun fr' hfr kk H=>by exact zcM rfl rfl rfl ((hfr 24 ye).trans rfl) rfl rfl yh (Lens.self _) zgb ((hfr 23 ye).trans rfl) (zr H)) ?_;refine qaJ ?_;refine zA (n:=0) (y:=l) rfl (by rw[show(⟨x.ins,x.outs⟩:Tx)=x from rfl];exact set_same hx) ?_;exact Nx (k+1) yc yc
 refine qa9 ?_;exact zb rfl rfl (zh rfl rfl rfl)
theorem zt4 (b:Block) (hb:zge b):Tells P 136 [.val zL b] (.val zL b):=by
 obtain⟨hb1,hb2⟩:=hb;refine zc Tryz.func136 rfl rfl rfl (fun ext w hext=>?_);refine qae ?_;refine zs zmU rfl rfl rfl rfl ?_;refine CNQR ?_;refine A0 (oFp zcQ) ?_;refine A0 (oLb zbN za5) ?_;refine A0 (oCl (zu (zg3 b.l yU)) rfl zpS yf) ?_;refine A0 (oFp zcQ) ?_;refine zf rfl rfl rfl rfl rfl zbN za5 rfl ?_;refine CNQR ?_;refine A0 (oFp zdE) ?_;refine A0 (oLb zcf zjF) ?_;refine A0 (oCl (zu (txs_ok b.t hb2)) rfl fn_194 yf) ?_;refine A0 (oFp zdE) ?_;refine zf rfl rfl rfl rfl rfl zcf zjF rfl ?_;refine CNQR ?_;refine A0 (oLs rfl rfl rfl zem) ?_;refine qb3 ?_;refine CN ?_;exact zag rfl rfl rfl rfl zem (rfl)
theorem own_ok (t:Tip) (ht:zgI t):Tells P 135 [.val tipT t] (.val tipT t):=by
 obtain⟨ht1,ht2,ht3⟩:=ht;refine zc Tryz.func135 rfl rfl rfl (fun ext w hext=>?_);refine qae ?_;refine zs zmT rfl rfl rfl rfl ?_;refine CNQ ?_;refine zx [some 1,some 1,some 1,some 1,some 1,some 1,some 1,some 1,some 1,some 1,none,some 1,none,some 1,none] mixed ye ?_;refine X0 (oFp zeB) ?_;refine X0 (oLb zeK zem) ?_;refine X0 (oCl (zt4 t.b ht1) rfl fn_136 yf) ?_;refine X0 (oFp zl8) ?_;refine X0 (oLb zmk zsS) ?_;refine X0 (oCl (zu (zqN t.p yU)) rfl fn_182 yf) ?_;refine X0 (oFp zr1) ?_;refine X0 (oLb zsz zmX) ?_;refine X0 (oCl (zu (ziY t.c yU)) rfl ztT yf) ?_;refine X0 (oFp zeB) ?_;refine XK.e (x:=.idk) (fun fr' hfr kk H=>by exact zf rfl rfl rfl ((hfr 12 ye).trans rfl) rfl zeK zem ((hfr 5 ye).trans rfl) (zr H)) ?_;refine X0 (oFp zl8) ?_;refine XK.e (x:=.idk) (fun fr' hfr kk H=>by exact zf rfl rfl rfl ((hfr 13 ye).trans rfl) rfl zmk zsS ((hfr 8 ye).trans rfl) (zr H)) ?_;refine X0 (oFp zr1) ?_;refine XK.e (x:=.idk) (fun fr' hfr kk H=>by exact zf rfl rfl rfl ((hfr 14 ye).trans rfl) rfl zsz zmX ((hfr 11 ye).trans rfl) (zr H)) ?_;refine xf ?_;refine CQR ?_;refine xA ?_;refine qbs ?_;refine CN ?_;exact zag rfl rfl rfl rfl zeL (rfl)
theorem sameB_ok (a b:Block):Tells P 67 [.val zL a,.val zL b] (.val zm (decide (a=b))):=by
 refine zc Tryz.func67 rfl rfl rfl (fun ext w hext=>?_);refine qay ?_;refine qaz ?_;refine A0 (oFp zbe) ?_;refine A0 (oLb zaw zaM) ?_;refine A0 (oFp zbe) ?_;refine A0 (oLb zaw zaM) ?_;refine A0 (ziP rfl rfl rfl (zjQ)) ?_;refine Sp (d:=9) (p:=a.h=b.h) (fun g9=>?_) (fun g9=>?_)
 ·
  refine qax ?_;refine A1 (oFp zcQ) ?_;refine A1 (oLb zbN za5) ?_;refine A1 (oFp zcQ) ?_;refine A1 (oLb zbN za5) ?_;refine A1 (oCl (zoT _ _) rfl fn_57 yl) ?_;refine Sp (d:=15) (p:=a.l=b.l) (fun g15=>?_) (fun g15=>?_)
  ·
   refine qal ?_;refine A1 (oFp zdE) ?_;refine A1 (oLb zcf zjF) ?_;refine A1 (oFp zdE) ?_;refine A1 (oLb zcf zjF) ?_;refine A1 (oCl (equalFTx _ _) rfl fn_125 ⟨yo,yo,(by first|exact zdJ (Cs:=[]) rfl fn_126 yD trivial rfl (fun x=>zo5 x y)|exact zdI (Cs:=[]) rfl fn_126 yD trivial rfl (fun x y=>zo5 x y)|exact zdK rfl),trivial⟩) ?_;refine qaI ?_;exact zb rfl rfl (za rfl yag)
  refine qbd ?_;refine A2 ?_;refine A2 ?_;refine qaI ?_;exact zb rfl rfl (za rfl (by symm;apply uh;intro h;exact g15 (by rw[h])))
 refine qax ?_;refine qb7 ?_;refine qav ?_;refine A2 ?_;refine qaI ?_;exact zb rfl rfl (za rfl (by symm;apply uh;intro h;exact g9 (by rw[h])))
theorem refIds_ok (l m:List Ab.Id):Tells P 27 [.val (bsl idT) l,.val (bsl idT) m] (.val zm (decide (l=m))):=by
 refine zc Tryz.func27 rfl rfl rfl (fun ext w hext=>?_);refine ze (d:=0) rfl zk (fun hsl0=>?_);refine ze (d:=1) rfl zk (fun hsl1=>?_);refine qcw ?_;refine qaS ?_;refine qax ?_;refine qaS ?_;refine qbk ?_;refine zn (p:=¬l.length=m.length) rfl ybn (fun ht10=>?_) (fun ht10=>?_)
 ·
  refine qas ?_;exact zb rfl rfl (za rfl (uh (fun e=>ht10 (by rw[e]))).symm)
 refine CSQQR ?_;refine qc7 ?_;refine Lp (ι:=Nat) 0 (fun (k:Nat)=>(((Fr.none).set 0 (.val (bsl idT) l)).set 1 (.val (bsl idT) m)).set 5 (.val i64T (k:Int))) (fun (k:Nat)=>Hp.none) (fun (k:Nat)=>k≤l.length∧l.take k=m.take k) (fun (k:Nat)=>l.length-k) (0) (⟨uf _,rfl⟩) ?_;intro k hinv;refine CQQR ?_;refine qao ?_;refine qaS ?_;refine qaY ?_;refine Cf (p:=k<l.length) (fun ht14=>?_) (fun ht14=>?_)
 ·
  obtain⟨x,hx⟩:∃x,l[k]?=some x:=⟨_,ub ht14⟩;obtain⟨y,hy⟩:∃y,m[k]?=some y:=yv;refine qcl ?_;refine CB ?_;refine qaV ?_;refine qbY ?_;refine G0 (zK (i:=k) rfl rfl rfl yc zb8 yh) ?_;refine qcD ?_;refine qbY ?_;refine G0 (zK (i:=k) rfl rfl rfl yc zb8 yh) ?_;refine qcD ?_;refine G0 (zee rfl rfl rfl (zfl)) ?_;refine GK.nil ?_;refine zn (p:=¬x=y) rfl yy (fun ht25=>?_) (fun ht25=>?_)
  ·
   refine qas ?_;exact zb rfl rfl (za rfl (uh (zhH hx hy ht25)).symm)
  refine CSIR ?_;refine qbb ?_;refine qad ?_;exact Nx (k+1) (⟨by omega,zdc hx hy hinv.2 (ua ht25)⟩) yc
 refine qcn ?_;exact zb rfl rfl (za rfl (ui yO).symm)
theorem fact_idsL {l:List Ab.Id} {ρ:Nat→Value} {B:Nat→Prop} {U N:Nat→Prop} {w:World} {v:Value} (h:(AV.val (bsl idT) l).rel ρ B U N w v):∀x∈l,x.length=32:=fun x hx=>by
  obtain⟨cs,⟨ad,cap,_,_,_,h3⟩,_⟩:=h;obtain⟨_,ds,_,_,hr,_⟩:=h3 (List.ne_nil_of_mem hx);obtain⟨c,hc⟩:=zeT hr x hx;exact hc.1
def nW (a:Wide):Nat:=(a.getD 0 0).toNat+18446744073709551616*(a.getD 1 0).toNat+340282366920938463463374607431768211456*(a.getD 2 0).toNat+6277101735386680763835789423207666416102355444464034512896*(a.getD 3 0).toNat
abbrev W256:Nat:=115792089237316195423570985008687907853269984665640564039457584007913129639936
theorem zxM (a b c:UInt64):(addS a b c).toNat=(a.toNat+b.toNat+c.toNat)%18446744073709551616:=by unfold addS;rw[UInt64.toNat_ofNat']
theorem zxN (a b:UInt64) {c:UInt64} (h:c.toNat≤1):(addC a b c).toNat=(a.toNat+b.toNat+c.toNat)/18446744073709551616:=by
  have ha:a.toNat<18446744073709551616:=a.toNat_lt;have hb:b.toNat<18446744073709551616:=b.toNat_lt;unfold addC;rw[UInt64.toNat_ofNat_of_lt' y7]
theorem zug (a0 a1 a2 a3 b0 b1 b2 b3:UInt64):zcz addS addC [a0,a1,a2,a3] [b0,b1,b2,b3] 4=([addS a0 b0 0,addS a1 b1 (addC a0 b0 0),addS a2 b2 (addC a1 b1 (addC a0 b0 0)),addS a3 b3 (addC a2 b2 (addC a1 b1 (addC a0 b0 0)))],addC a3 b3 (addC a2 b2 (addC a1 b1 (addC a0 b0 0)))):=rfl
theorem nW_lt {a:Wide} (_h:a.length=4):nW a<W256:=by
  have h0:(a.getD 0 0).toNat<18446744073709551616:=UInt64.toNat_lt _;have h1:(a.getD 1 0).toNat<18446744073709551616:=UInt64.toNat_lt _;have h2:(a.getD 2 0).toNat<18446744073709551616:=UInt64.toNat_lt _;have h3:(a.getD 3 0).toNat<18446744073709551616:=UInt64.toNat_lt _;unfold nW W256;omega
theorem nW_inj {a b:Wide} (ha:a.length=4) (hb:b.length=4) (h:nW a=nW b):a=b:=by
  match a,ha with
  | [a0,a1,a2,a3],_=>match b,hb with
    | [b0,b1,b2,b3],_ =>
      have h0:a0.toNat<18446744073709551616:=a0.toNat_lt;have h1:a1.toNat<18446744073709551616:=a1.toNat_lt;have h2:a2.toNat<18446744073709551616:=a2.toNat_lt;have h3:a3.toNat<18446744073709551616:=a3.toNat_lt;have k0:b0.toNat<18446744073709551616:=b0.toNat_lt;have k1:b1.toNat<18446744073709551616:=b1.toNat_lt;have k2:b2.toNat<18446744073709551616:=b2.toNat_lt;have k3:b3.toNat<18446744073709551616:=b3.toNat_lt;have h:a0.toNat+18446744073709551616*a1.toNat+340282366920938463463374607431768211456*a2.toNat+6277101735386680763835789423207666416102355444464034512896*a3.toNat=b0.toNat+18446744073709551616*b1.toNat+340282366920938463463374607431768211456*b2.toNat+6277101735386680763835789423207666416102355444464034512896*b3.toNat:=h;rw[UInt64.toNat_inj.1 (show a0.toNat=b0.toNat by omega),UInt64.toNat_inj.1 (show a1.toNat=b1.toNat by omega),UInt64.toNat_inj.1 (show a2.toNat=b2.toNat by omega),UInt64.toNat_inj.1 (show a3.toNat=b3.toNat by omega)]
theorem zsw {a b:Wide} (ha:a.length=4) (hb:b.length=4):(addW a b).length=4:=by
  match a,ha with
  | [a0,a1,a2,a3],_=>match b,hb with
    | [b0,b1,b2,b3],_=>unfold addW;rw[zug];rfl
theorem nW_add2 {a b:Wide} (ha:a.length=4) (hb:b.length=4):nW (addW a b)=(nW a+nW b)%W256∧(addOk a b=true↔nW a+nW b<W256):=by
  match a,ha with
  | [a0,a1,a2,a3],_=>match b,hb with
    | [b0,b1,b2,b3],_ =>
      have h0:a0.toNat<18446744073709551616:=a0.toNat_lt;have h1:a1.toNat<18446744073709551616:=a1.toNat_lt;have h2:a2.toNat<18446744073709551616:=a2.toNat_lt;have h3:a3.toNat<18446744073709551616:=a3.toNat_lt;have k0:b0.toNat<18446744073709551616:=b0.toNat_lt;have k1:b1.toNat<18446744073709551616:=b1.toNat_lt;have k2:b2.toNat<18446744073709551616:=b2.toNat_lt;have k3:b3.toNat<18446744073709551616:=b3.toNat_lt;have z:(0:UInt64).toNat≤1:=yp;have z0:(0:UInt64).toNat=0:=rfl;have c1:=zxN a0 b0 z;have l1:=zsx a0 b0 z;have c2:=zxN a1 b1 l1;have l2:=zsx a1 b1 l1;have c3:=zxN a2 b2 l2;have l3:=zsx a2 b2 l2;have c4:=zxN a3 b3 l3;have s0:=zxM a0 b0 0;have s1:=zxM a1 b1 (addC a0 b0 0);have s2:=zxM a2 b2 (addC a1 b1 (addC a0 b0 0));have s3:=zxM a3 b3 (addC a2 b2 (addC a1 b1 (addC a0 b0 0)));unfold addW addOk;rw[zug];unfold nW W256;simp only[List.getD_cons_zero,List.getD_cons_succ,uj];rw[z0] at c1 s0;generalize addC a3 b3 (addC a2 b2 (addC a1 b1 (addC a0 b0 0)))=x4 at *;generalize addS a3 b3 (addC a2 b2 (addC a1 b1 (addC a0 b0 0)))=y3 at *;generalize addS a2 b2 (addC a1 b1 (addC a0 b0 0))=y2 at *;generalize addC a2 b2 (addC a1 b1 (addC a0 b0 0))=x3 at *;generalize addS a1 b1 (addC a0 b0 0)=y1 at *;generalize addC a1 b1 (addC a0 b0 0)=x2 at *;generalize addS a0 b0 0=y0 at *;generalize addC a0 b0 0=x1 at *
      constructor
      · omega
      constructor<;>intro h<;>omega
theorem nW_add {a b:Wide} (ha:a.length=4) (hb:b.length=4):nW (addW a b)=(nW a+nW b)%W256:=(nW_add2 ha hb).1
theorem of32_len {b:Ab.Id}:(zlX b).length=4:=by
  have h:∀k,(of32N b k).length=4:=fun k=>by
    induction k with
    | zero=>rfl
    | succ k ih=>unfold of32N;rw[zfj];unfold of32S;rw[List.length_set];exact ih
  exact h 32
def zfU (x:Trial):Prop:=zgI x.t∧x.b.t.length≤4000000000000
def zm0 (x:Trial):Int:=if 48≤x.b.h.height then 3 else 0
def zrv (x:Trial):Int:=if ¬zfA x.b.h=zfA x.want then 5 else 0
def zpI (x:Trial):Int:=if ¬x.b.h.links=x.want.links∨¬x.b.l=zes x.t then 6 else 0
def zru (x:Trial):Int:=if ¬x.b.h=x.want then 7 else 0
def zra (x:Trial):Int:=if ¬zbx x.b.h=true then 4 else 0
def zhl (x:Trial):Int:=(zad x.t.c x.b.t).2
def zt7 (x:Trial):Trial:={ x with c:=(zad x.t.c x.b.t).1 }
def zij (f:Option Nat) (x:Trial):Int:=if f=some 128 then zm0 x else if f=some 129 then zrv x else if f=some 130 then zpI x else if f=some 131 then zru x else if f=some 132 then zra x else zhl x
def askX (f:Option Nat) (x:Trial):Trial:=if f=some 133 then zt7 x else x
def zie:List (Option Nat)→Trial→Int
  | [],_=>0
  | f::l,x=>if zij f x=0 then zie l (askX f x) else zij f x
def ziS:List (Option Nat)→Trial→Trial
  | [],x=>x
  | f::l,x=>if zij f x=0 then ziS l (askX f x) else askX f x
def Asks (f:Option Nat):Prop:=f=some 128∨f=some 129∨f=some 130∨f=some 131∨f=some 132∨f=some 133
theorem zb7 {l:List (Option Nat)} {k:Nat} {f:Option Nat} {x:Trial} (h:l[k]?=some f) (h0:zij f x=0):zie (l.drop k) x=zie (l.drop (k+1)) (askX f x)∧ziS (l.drop k) x=ziS (l.drop (k+1)) (askX f x):=by
  obtain⟨hk,rfl⟩:=ul.1 h;rw[List.drop_eq_getElem_cons hk,zie,ziS,ut h0,ut h0];exact⟨rfl,rfl⟩
theorem zaV {l:List (Option Nat)} {k:Nat} {f:Option Nat} {x:Trial} (h:l[k]?=some f) (h0:¬zij f x=0):zie (l.drop k) x=zij f x∧ziS (l.drop k) x=askX f x:=by
  obtain⟨hk,rfl⟩:=ul.1 h;rw[List.drop_eq_getElem_cons hk,zie,ziS,ur h0,ur h0];exact⟨rfl,rfl⟩
theorem zoM {l:List (Option Nat)} {k:Nat} {x:Trial} (h:l.length≤k):zie (l.drop k) x=0∧ziS (l.drop k) x=x:=by
  rw[List.drop_of_length_le h];exact⟨rfl,rfl⟩
theorem zcK {f:Option Nat} {x:Trial} (h:zfU x):zfU (askX f x):=by unfold askX;split<;>exact h
theorem ask_size (x:Trial):Tells P 128 [.rptr ze9 x] (.val i64T (zm0 x)):=by
 refine zc Tryz.func128 rfl rfl rfl (fun ext w hext=>?_);refine CQR ?_;refine qbS ?_;refine A0 mR ?_;refine A0 (zef rfl rfl) ?_;refine A0 (oFr zhU zgC) ?_;refine A0 (oFr zbe zaw) ?_;refine A0 (oFr zcR zar) ?_;refine qbL ?_;refine qbZ ?_;refine Cf (p:=48≤x.b.h.height) (fun ht9=>?_) (fun ht9=>?_)
 ·
  refine qas ?_;exact zb rfl rfl (za rfl (by unfold zm0;rw[ut (ht9)]))
 refine CSQR ?_;refine qad ?_;exact zb rfl rfl (za rfl (by unfold zm0;rw[ur (ht9)]))
theorem ask_prev (x:Trial):Tells P 129 [.rptr ze9 x] (.val i64T (zrv x)):=by
 refine zc Tryz.func129 rfl rfl rfl (fun ext w hext=>?_);refine qc0 ?_;refine G0 (zg rfl rfl zaM) ?_;refine G0 (oCl (zqV _) rfl fn_191 ybN) ?_;refine qbN ?_;refine G0 (oFr zk9 zfs) ?_;refine G0 (zg rfl rfl zaM) ?_;refine G0 (oCl (zqV _) rfl fn_191 ybN) ?_;refine G0 (zee rfl rfl rfl (zjQ)) ?_;refine GK.nil ?_;refine zn (p:=¬zfA x.b.h=zfA x.want) rfl yy (fun ht14=>?_) (fun ht14=>?_)
 ·
  refine qas ?_;exact zb rfl rfl (za rfl (by unfold zrv;rw[ut (ht14)]))
 refine CSQR ?_;refine qad ?_;exact zb rfl rfl (za rfl (by unfold zrv;rw[ur (ht14)]))
theorem ask_link (x:Trial) (hx:zfU x):Tells P 130 [.rptr ze9 x] (.val i64T (zpI x)):=by
 refine zc Tryz.func130 rfl rfl rfl (fun ext w hext=>?_);refine qc0 ?_;refine G0 (oFr zg0 zcA) ?_;refine qcD ?_;refine qbN ?_;refine G0 (oFr zk9 zfs) ?_;refine G0 (oFr zg0 zcA) ?_;refine qcD ?_;refine G0 (zee rfl rfl rfl (zfl)) ?_;refine zaG (d:=14) (p:=¬x.b.h.links=x.want.links) rfl yy (fun g14=>?_) (fun g14=>?_)
 ·
  refine G0 mV ?_;refine qab ?_;refine qab ?_;refine qaW ?_;refine Ct ?_;refine qas ?_;exact zb rfl rfl (za rfl (by unfold zpI;rw[ut (.inl g14)]))
 refine G0 mV ?_;refine G1 mR ?_;refine G1 (zef rfl rfl) ?_;refine G1 (oFr zhU zgC) ?_;refine G1 (oFr zcQ zbN) ?_;refine G1 (zg rfl rfl za5) ?_;refine G1 mR ?_;refine G1 (zef rfl rfl) ?_;refine G1 (oFr znt zlz) ?_;refine G1 (zg rfl rfl zeL) ?_;refine G1 (oCl (zu (zoo x.t)) rfl fn_190 ybN) ?_;refine G1 (oCl (zoT _ _) rfl fn_57 ybP) ?_;refine G1 oN ?_;refine qaW ?_;refine zn (p:=¬x.b.l=zes x.t) rfl yy (fun ht28=>?_) (fun ht28=>?_)
 ·
  refine qas ?_;exact zb rfl rfl (za rfl (by unfold zpI;rw[ut (.inr ht28)]))
 refine CSQR ?_;refine qad ?_;exact zb rfl rfl (za rfl (by unfold zpI;rw[ur (fun h=>h.elim g14 ht28)]))
theorem ask_root (x:Trial):Tells P 131 [.rptr ze9 x] (.val i64T (zru x)):=by
 refine zc Tryz.func131 rfl rfl rfl (fun ext w hext=>?_);refine qc0 ?_;refine G0 (zg rfl rfl zaM) ?_;refine qbN ?_;refine G0 (oFr zk9 zfs) ?_;refine G0 (zg rfl rfl zaM) ?_;refine G0 (zee rfl rfl rfl (zjQ)) ?_;refine GK.nil ?_;refine zn (p:=¬x.b.h=x.want) rfl yy (fun ht12=>?_) (fun ht12=>?_)
 ·
  refine qas ?_;exact zb rfl rfl (za rfl (by unfold zru;rw[ut (ht12)]))
 refine CSQR ?_;refine qad ?_;exact zb rfl rfl (za rfl (by unfold zru;rw[ur (ht12)]))
theorem ask_work (x:Trial):Tells P 132 [.rptr ze9 x] (.val i64T (zra x)):=by
 refine zc Tryz.func132 rfl rfl rfl (fun ext w hext=>?_);refine CQR ?_;refine qbS ?_;refine A0 mR ?_;refine A0 (zef rfl rfl) ?_;refine A0 (oFr zhU zgC) ?_;refine A0 (oFr zbe zaw) ?_;refine A0 (zg rfl rfl zaM) ?_;refine A0 (oCl (zl2 _) rfl fn_120 ybN) ?_;refine qaL ?_;refine zn (p:=¬zbx x.b.h=true) rfl yy (fun ht9=>?_) (fun ht9=>?_)
 ·
  refine qas ?_;exact zb rfl rfl (za rfl (by unfold zra;rw[ut (ht9)]))
 refine CSQR ?_;refine qad ?_;exact zb rfl rfl (za rfl (by unfold zra;rw[ur (ht9)]))
theorem ask_coins (x:Trial) (hx:zfU x):zfr P 133 (.box 217 ze9 x) [.ptr 0 0] (.val i64T (zhl x)) (.box 217 ze9 (zt7 x)):=by
 refine zgo trivial Tryz.func133 rfl rfl ⟨Nat.one_pos,trivial⟩ (fun ext pg w hext hgr=>?_);refine CQR ?_;refine qbI ?_;refine qbF ?_;refine G0 (oFp znt) ?_;refine G0 (oFp zr1) ?_;refine G0 (oLb (zlz.comp zsz) zmX) ?_;refine qbF ?_;refine G0 (oFp zhU) ?_;refine G0 (oFp zdE) ?_;refine G0 (oLb (zgC.comp zcf) zjF) ?_;refine G0 (oCl (zcn (apply_ok x.t.c x.b.t (by have:=hx.1.2.2;omega))) rfl fn_192 yl) ?_;refine qbO ?_;refine CQR ?_;refine A0 mP ?_;refine qax ?_;refine xc ?_;refine A0 (oFp zxj) ?_;refine zf rfl rfl rfl rfl rfl zuz zmX rfl ?_;refine CNQR ?_;refine qax ?_;refine qad ?_;exact zdZ rfl rfl rfl rfl rfl (zcc rfl rfl) (zgW (zcc (x:=zt7 x) rfl rfl) rfl rfl)
theorem zxh (x0:Trial) (l:List (Option Nat)) (hx0:zfU x0) (hl:∀f∈l,Asks f):zfr P 134 (.box 217 ze9 x0) [.ptr 0 0,.val (bsl fnoT) l] (.val i64T (zie l x0)) (.box 217 ze9 (ziS l x0)):=by
 refine zgo trivial Tryz.func134 rfl rfl ⟨Nat.one_pos,⟨trivial,trivial⟩⟩ (fun ext pg w hext hgr=>?_);refine ze (d:=1) rfl zk (fun hsl1=>?_);refine qcw ?_;refine A0 (zW rfl rfl isl_221) ?_;refine qa2 ?_;refine Lp (ι:=Nat×Trial) 1 (fun (i:Nat×Trial)=>match i with|(k,x)=>((((Fr.none).set 0 (.ptr 0 0)).set 8 (.val (bsl fnoT) l)).set 9 (.val i64T (l.length:Int))).set 10 (.val i64T (k:Int))) (fun (i:Nat×Trial)=>match i with|(k,x)=>(Hp.none).set 0 (.box 217 ze9 x)) (fun (i:Nat×Trial)=>match i with|(k,x)=>k≤l.length∧zfU x∧zie l x0=zie (l.drop k) x∧ziS l x0=ziS (l.drop k) x) (fun (i:Nat×Trial)=>match i with|(k,x)=>l.length-k) ((0,x0)) (⟨uf _,hx0,rfl,rfl⟩) ?_;intro⟨k,x⟩ hinv;dsimp only at hinv;refine qak ?_;refine Cf (p:=k<l.length) (fun ht11=>?_) (fun ht11=>?_)
 ·
  obtain⟨f,hf⟩:∃f,l[k]?=some f:=⟨_,ub ht11⟩;have hask:=hl f (ud hf);rcases hask with he|he|he|he|he|he
  ·
   refine qaD ?_;refine zj (d:=14) rfl he ?_;refine zd0 (d:=14) (f:=128) rfl ?_;refine A0 mP ?_;refine A0 (zfw (As:=[_]) (Cs:=[]) (ask_size x) rfl rfl fn_128 ybQ yD trivial rfl) ?_;refine qap ?_;refine zn (p:=¬zij f x=0) rfl yaV (fun ht18=>?_) (fun ht18=>?_)
   ·
    refine qbC ?_;refine xB ?_;exact zdZ rfl rfl rfl rfl rfl (zcc rfl (hinv.2.2.2.trans (zaV hf ht18).2).symm) (zgW (zcc rfl (hinv.2.2.2.trans (zaV hf ht18).2).symm) rfl yak)
   refine qaZ ?_;refine xB ?_;exact Nx ((k+1,askX f x)) (⟨by omega,zcK hinv.2.1,hinv.2.2.1.trans (zb7 hf (ua ht18)).1,hinv.2.2.2.trans (zb7 hf (ua ht18)).2⟩) yam
  ·
   refine qaD ?_;refine zj (d:=14) rfl he ?_;refine zd0 (d:=14) (f:=129) rfl ?_;refine A0 mP ?_;refine A0 (zfw (As:=[_]) (Cs:=[]) (ask_prev x) rfl rfl fn_129 ybQ yD trivial rfl) ?_;refine qap ?_;refine zn (p:=¬zij f x=0) rfl yaV (fun ht18=>?_) (fun ht18=>?_)
   ·
    refine qbC ?_;refine xB ?_;exact zdZ rfl rfl rfl rfl rfl (zcc rfl (hinv.2.2.2.trans (zaV hf ht18).2).symm) (zgW (zcc rfl (hinv.2.2.2.trans (zaV hf ht18).2).symm) rfl yak)
   refine qaZ ?_;refine xB ?_;exact Nx ((k+1,askX f x)) (⟨by omega,zcK hinv.2.1,hinv.2.2.1.trans (zb7 hf (ua ht18)).1,hinv.2.2.2.trans (zb7 hf (ua ht18)).2⟩) yam
  ·
   refine qaD ?_;refine zj (d:=14) rfl he ?_;refine zd0 (d:=14) (f:=130) rfl ?_;refine A0 mP ?_;refine A0 (zfw (As:=[_]) (Cs:=[]) (ask_link x hinv.2.1) rfl rfl fn_130 ybQ yD trivial rfl) ?_;refine qap ?_;refine zn (p:=¬zij f x=0) rfl yaV (fun ht18=>?_) (fun ht18=>?_)
   ·
    refine qbC ?_;refine xB ?_;exact zdZ rfl rfl rfl rfl rfl (zcc rfl (hinv.2.2.2.trans (zaV hf ht18).2).symm) (zgW (zcc rfl (hinv.2.2.2.trans (zaV hf ht18).2).symm) rfl yak)
   refine qaZ ?_;refine xB ?_;exact Nx ((k+1,askX f x)) (⟨by omega,zcK hinv.2.1,hinv.2.2.1.trans (zb7 hf (ua ht18)).1,hinv.2.2.2.trans (zb7 hf (ua ht18)).2⟩) yam
  ·
   refine qaD ?_;refine zj (d:=14) rfl he ?_;refine zd0 (d:=14) (f:=131) rfl ?_;refine A0 mP ?_;refine A0 (zfw (As:=[_]) (Cs:=[]) (ask_root x) rfl rfl fn_131 ybQ yD trivial rfl) ?_;refine qap ?_;refine zn (p:=¬zij f x=0) rfl yaV (fun ht18=>?_) (fun ht18=>?_)
   ·
    refine qbC ?_;refine xB ?_;exact zdZ rfl rfl rfl rfl rfl (zcc rfl (hinv.2.2.2.trans (zaV hf ht18).2).symm) (zgW (zcc rfl (hinv.2.2.2.trans (zaV hf ht18).2).symm) rfl yak)
   refine qaZ ?_;refine xB ?_;exact Nx ((k+1,askX f x)) (⟨by omega,zcK hinv.2.1,hinv.2.2.1.trans (zb7 hf (ua ht18)).1,hinv.2.2.2.trans (zb7 hf (ua ht18)).2⟩) yam
  ·
   refine qaD ?_;refine zj (d:=14) rfl he ?_;refine zd0 (d:=14) (f:=132) rfl ?_;refine A0 mP ?_;refine A0 (zfw (As:=[_]) (Cs:=[]) (ask_work x) rfl rfl fn_132 ybQ yD trivial rfl) ?_;refine qap ?_;refine zn (p:=¬zij f x=0) rfl yaV (fun ht18=>?_) (fun ht18=>?_)
   ·
    refine qbC ?_;refine xB ?_;exact zdZ rfl rfl rfl rfl rfl (zcc rfl (hinv.2.2.2.trans (zaV hf ht18).2).symm) (zgW (zcc rfl (hinv.2.2.2.trans (zaV hf ht18).2).symm) rfl yak)
   refine qaZ ?_;refine xB ?_;exact Nx ((k+1,askX f x)) (⟨by omega,zcK hinv.2.1,hinv.2.2.1.trans (zb7 hf (ua ht18)).1,hinv.2.2.2.trans (zb7 hf (ua ht18)).2⟩) yam
  refine qaD ?_;refine zj (d:=14) rfl he ?_;refine zd0 (d:=14) (f:=133) rfl ?_;refine A0 mP ?_;refine aw_calluv (ask_coins x hinv.2.1) rfl rfl fn_133 rfl trivial trivial rfl ⟨yi,trivial⟩ rfl rfl rfl ?_;refine qap ?_;refine zn (p:=¬zij f x=0) rfl yaV (fun ht18=>?_) (fun ht18=>?_)
  ·
   refine qbC ?_;refine xB ?_;exact zdZ rfl rfl rfl rfl rfl (zcc rfl (hinv.2.2.2.trans (zaV hf ht18).2).symm) (zgW (zcc rfl (hinv.2.2.2.trans (zaV hf ht18).2).symm) rfl yak)
  refine qaZ ?_;refine xB ?_;exact Nx ((k+1,askX f x)) (⟨by omega,zcK hinv.2.1,hinv.2.2.1.trans (zb7 hf (ua ht18)).1,hinv.2.2.2.trans (zb7 hf (ua ht18)).2⟩) yam
 refine qcn ?_;exact zdZ rfl rfl rfl rfl rfl (zcc rfl (hinv.2.2.2.trans (zoM yc).2).symm) (zgW (zcc rfl (hinv.2.2.2.trans (zoM yc).2).symm) rfl (hinv.2.2.1.trans (zoM yc).1).symm)
def zd4 (t:Tip) (b:Block):Int :=
  if 48≤b.h.height then 3 else if ¬zfA b.h=zfA (zc7 t b.t b.h.nonce) then 5 else
  if ¬b.h.links=(zc7 t b.t b.h.nonce).links∨¬b.l=zes t then 6 else if ¬b.h=zc7 t b.t b.h.nonce then 7 else
  if ¬zbx b.h=true then 4 else (zad t.c b.t).2
def zj3 (t:Tip) (b:Block):Tip:=if zd4 t b=0 then ⟨b,zaO t.p (zfK b.h),(zad t.c b.t).1⟩ else t
def zfC (t:Tip) (l:List Tx) (nonce:UInt64) (tries:Int):Int :=
  if 48≤(zc7 t l nonce).height then 3 else if ¬(zad t.c l).2=0 then (zad t.c l).2 else if (ziC (zc7 t l nonce) tries).isSome=true then 0 else 4
def zts (t:Tip) (l:List Tx) (nonce:UInt64) (tries:Int):Block :=
  if zfC t l nonce tries=0 then ⟨(ziC (zc7 t l nonce) tries).getD (zc7 t l nonce),zes t,l⟩ else zsI
theorem ask_two {x:Trial}:zie [some 128,some 133] x=if 48≤x.b.h.height then 3 else (zad x.t.c x.b.t).2:=by
  show(if zm0 x=0 then (if zhl x=0 then 0 else zhl x) else zm0 x)=_;unfold zm0 zhl;by_cases h:48≤x.b.h.height
  · rw[ut h,ut h,ur yp]
  rw[ur h,ur h,ut rfl];split<;>simp_all
theorem zkY {p:Prop} [Decidable p] {e r:Int} (he:e≠0):(if (if p then e else 0)=0 then r else (if p then e else 0))=if p then e else r:=by
  by_cases h:p
  · rw[ut h,ut h,ur he]
  rw[ur h,ur h,ut rfl]
theorem ask_all {t:Tip} {b:Block} {c:List Coin}:zie [some 128,some 129,some 130,some 131,some 132,some 133] ⟨t,b,zc7 t b.t b.h.nonce,c⟩=zd4 t b:=by
  obtain⟨x,hx⟩:∃x:Trial,x=⟨t,b,zc7 t b.t b.h.nonce,c⟩:=⟨_,rfl⟩;have e:zd4 t b=zd4 x.t x.b:=by rw[hx]
  have hw:x.want=zc7 x.t x.b.t x.b.h.nonce:=by rw[hx]
  rw[e,←hx];show(if zm0 x=0 then (if zrv x=0 then (if zpI x=0 then (if zru x=0 then (if zra x=0 then (if zhl x=0 then 0 else zhl x) else zra x) else zru x) else zpI x) else zrv x) else zm0 x)=_;have hc:(if zhl x=0 then 0 else zhl x)=zhl x:=by split<;>simp_all
  rw[hc];unfold zm0 zrv zpI zru zra zhl zd4;rw[zkY yp,zkY yp,zkY yp,zkY yp,zkY yp,hw]
theorem ask_allX {t:Tip} {b:Block} {c:List Coin} (h:zd4 t b=0):(ziS [some 128,some 129,some 130,some 131,some 132,some 133] ⟨t,b,zc7 t b.t b.h.nonce,c⟩).c=(zad t.c b.t).1:=by
  obtain⟨x,hx⟩:∃x:Trial,x=⟨t,b,zc7 t b.t b.h.nonce,c⟩:=⟨_,rfl⟩;have hw:x.want=zc7 x.t x.b.t x.b.h.nonce:=by rw[hx]
  have h:zd4 x.t x.b=0:=by rw[hx];exact h
  have e:(zad t.c b.t).1=(zad x.t.c x.b.t).1:=by rw[hx]
  rw[e,←hx];show(if zm0 x=0 then (if zrv x=0 then (if zpI x=0 then (if zru x=0 then (if zra x=0 then (if zhl x=0 then zt7 x else zt7 x) else x) else x) else x) else x) else x).c=_;unfold zd4 at h;rw[←hw] at h;by_cases h1:48≤x.b.h.height
  · rw[ut h1] at h;exact absurd h yp
  rw[ur h1] at h;by_cases h2:¬zfA x.b.h=zfA x.want
  · rw[ut h2] at h;exact absurd h yp
  rw[ur h2] at h;by_cases h3:¬x.b.h.links=x.want.links∨¬x.b.l=zes x.t
  · rw[ut h3] at h;exact absurd h yp
  rw[ur h3] at h;by_cases h4:¬x.b.h=x.want
  · rw[ut h4] at h;exact absurd h yp
  rw[ur h4] at h;by_cases h5:¬zbx x.b.h=true
  · rw[ut h5] at h;exact absurd h yp
  rw[ur h5] at h;unfold zm0 zrv zpI zru zra zhl;rw[ur h1,ur h2,ur h3,ur h4,ur h5,ut rfl,ut rfl,ut rfl,ut rfl,ut rfl,ut h];rfl
theorem asks_all:∀f∈([some 128,some 129,some 130,some 131,some 132,some 133]:List (Option Nat)),Asks f:=by intro f hf;simp at hf;unfold Asks;exact hf
theorem asks_two:∀f∈([some 128,some 133]:List (Option Nat)),Asks f:=by intro f hf;simp at hf;unfold Asks;rcases hf with h|h<;>simp[h]
theorem mineBE_err {t:Tip} {l:List Tx} {nonce:UInt64} {tries:Int} (h:¬(if 48≤(zc7 t l nonce).height then 3 else (zad t.c l).2)=0):zfC t l nonce tries=(if 48≤(zc7 t l nonce).height then 3 else (zad t.c l).2):=by
  unfold zfC
  split
  · rfl
  rename_i h1;rw[ur h1] at h;rw[ut h]
theorem zvb {t:Tip} {l:List Tx} {nonce:UInt64} {tries:Int} (h:(if 48≤(zc7 t l nonce).height then 3 else (zad t.c l).2)=0) (h2:¬(ziC (zc7 t l nonce) tries).isSome=true):zfC t l nonce tries=4:=by
  unfold zfC
  split
  · rename_i h1;rw[ut h1] at h;exact absurd h yp
  rename_i h1;rw[ur h1] at h;simp only[h,h2,not_true_eq_false,if_false]
theorem mineBE_ok {t:Tip} {l:List Tx} {nonce:UInt64} {tries:Int} (h:(if 48≤(zc7 t l nonce).height then 3 else (zad t.c l).2)=0) (h2:(ziC (zc7 t l nonce) tries).isSome=true):zfC t l nonce tries=0:=by
  unfold zfC
  split
  · rename_i h1;rw[ut h1] at h;exact absurd h yp
  rename_i h1;rw[ur h1] at h;simp only[h,h2,not_true_eq_false,if_false]
theorem push_ok (t:Tip) (b:Block) (ht:zgI t) (hb:zge b):Tells P 68 [.val tipT t,.val zL b] (.tup2 (.val tipT (zj3 t b)) (.val i64T (zd4 t b))):=by
 have hbt:=hb.2.1;have htp:=ht.2.1;refine zc Tryz.func68 rfl rfl rfl (fun ext w hext=>?_);refine qay ?_;refine zs zmT rfl rfl rfl rfl ?_;refine qa7 ?_;refine zx [some 1,some 1,some 1,some 1,some 1,some 1,some 1,some 1,some 1,some 1,none,some 1] mixed ye ?_;refine X0 (oLs rfl rfl rfl zeL) ?_;refine X0 (oLs rfl rfl rfl zem) ?_;refine X0 (oLs rfl rfl rfl zeL) ?_;refine X0 (oFp zdE) ?_;refine X0 (oLb zcf zjF) ?_;refine X0 (oFp zbe) ?_;refine X0 (oFp zhR) ?_;refine X0 (oLb (zaw.comp zdi) zcE) ?_;refine X0 (oCl (zwB t b.t b.h.nonce yc yc) rfl fn_127 yT) ?_;refine X0 (zC rfl ze_217 bd_217 (.cons znt zlz zeL rfl (.cons zhU zgC zem rfl (.cons zk9 zfs zaM rfl .nil))) rfl) ?_;refine XK.e (fun fr' hfr kk H=>by exact zi5 rfl rfl rfl rfl ((hfr 18 ye).trans rfl) (zr H)) ?_;refine X0 aP ?_;refine xf ?_;refine CQR ?_;refine A0 (zrY (xs:=[_,_,_,_,_,_]) rfl ar_219 ze_219 ⟨rfl,⟨_,rfl,rfl⟩,rfl,⟨_,rfl,rfl⟩,rfl,⟨_,rfl,rfl⟩,rfl,⟨_,rfl,rfl⟩,rfl,⟨_,rfl,rfl⟩,rfl,⟨_,rfl,rfl⟩,trivial⟩ rfl) ?_;refine zs ze_219 rfl rfl rfl rfl ?_;refine zf rfl rfl rfl rfl rfl (Lens.self _) ty_219 rfl ?_;refine CNQ ?_;refine CQ ?_;refine zdR (d:=7) rfl rfl (Lens.self _) ?_;refine CR ?_;refine A0 mP ?_;refine A0 (ziM rfl rfl ar_219 rfl rfl) ?_;refine zgT (zxh ⟨t,b,zc7 t b.t b.h.nonce,[]⟩ [some 128,some 129,some 130,some 131,some 132,some 133] ⟨ht,by show b.t.length≤4000000000000;omega⟩ asks_all) rfl fn_134 rfl trivial trivial rfl ybR rfl rfl rfl ?_;refine zj (d:=23) rfl ask_all ?_;refine qag ?_;refine qbk ?_;refine zn (p:=¬zd4 t b=0) rfl yH (fun ht25=>?_) (fun ht25=>?_)
 ·
  refine CQR ?_;refine xA ?_;refine A0 (oCl (own_ok t ht) rfl fn_135 yf) ?_;refine qax ?_;refine qbs ?_;refine qad ?_;exact zq rfl rfl (zl rfl rfl zeL (by unfold zj3;rw[ur ht25])) (zT (za rfl (rfl)))
 refine qcl ?_;refine zx [some 1,some 1,some 1,some 1,some 1,some 1,some 1,some 1,some 1,some 1,some 1,some 1,some 1,none,some 1] mixed ye ?_;refine X0 (oLs rfl rfl rfl zem) ?_;refine X0 (oCl (zt4 b hb) rfl fn_136 yf) ?_;refine X0 (oFp zl8) ?_;refine X0 (oLb zmk zsS) ?_;refine X0 (oFp zbe) ?_;refine X0 (oLb zaw zaM) ?_;refine X0 (oCl (zwM _) rfl fn_118 yf) ?_;refine X0 (oCl (zu (zmD t.p (zfK b.h) yc)) rfl fn_117 yl) ?_;refine X0 mP ?_;refine xh ?_;refine X0 (oFp zxj) ?_;refine X0 (oLb zuz zmX) ?_;refine X0 (zC rfl zmT zvL (.cons zeB zeK zem rfl (.cons zl8 zmk zsS rfl (.cons zr1 zsz zmX rfl .nil))) rfl) ?_;refine XK.e (x:=.idk) (fun fr' hfr kk H=>by exact zf rfl rfl rfl ((hfr 4 ye).trans rfl) rfl (Lens.self _) zeL ((hfr 41 ye).trans rfl) (zr H)) ?_;refine X0 aV ?_;refine xf ?_;exact zq rfl rfl (zl rfl rfl zeL (by unfold zj3;rw[ut (ua ht25),ask_allX (ua ht25)])) (zT (za rfl ((ua ht25).symm)))
theorem mineB_ok (t:Tip) (l:List Tx) (nonce:UInt64) (tries:Int) (ht:zgI t) (hl:zp5 l):Tells P 171 [.val tipT t,.val (sl txT) l,.val u64T nonce,.val i64T tries] (.tup2 (.val zL (zts t l nonce tries)) (.val i64T (zfC t l nonce tries))):=by
 have hbt:=hl.1;have htp:=ht.2.1;refine zc Tryz.func171 rfl rfl rfl (fun ext w hext=>?_);refine ze (d:=1) rfl zk (fun hsl1=>?_);refine ze (d:=3) rfl zt (fun hin3=>?_);refine qae ?_;refine zs zmU rfl rfl rfl rfl ?_;refine qaz ?_;refine xA ?_;refine qao ?_;refine A0 (oCl (zwB t l nonce yc yc) rfl fn_127 yT) ?_;refine qcE ?_;refine qbj ?_;refine CNQR ?_;refine xA ?_;refine qcc ?_;refine qax ?_;refine A0 (zC rfl zmU bd_59 (.cons zbe zaw zaM rfl (.cons zdE zcf zjF rfl .nil)) rfl) ?_;refine qcc ?_;refine A0 (zC rfl ze_217 bd_217 (.cons znt zlz zeL rfl (.cons zhU zgC zem rfl (.cons zk9 zfs zaM rfl .nil))) rfl) ?_;refine xb ?_;refine A0 aP ?_;refine CNQQR ?_;refine A0 mP ?_;refine A0 (g_bslF (xs:=[_,_]) rfl sl_221 row_221 ⟨rfl,⟨_,rfl,rfl⟩,rfl,⟨_,rfl,rfl⟩,trivial⟩ rfl rfl) ?_;refine zgT (zxh ⟨t,⟨zc7 t l nonce,[],l⟩,zc7 t l nonce,[]⟩ [some 128,some 133] ⟨ht,by show l.length≤4000000000000;omega⟩ asks_two) rfl fn_134 rfl trivial trivial rfl ybR rfl rfl rfl ?_;refine zj (d:=27) rfl ask_two ?_;refine qag ?_;refine qbk ?_;refine zn (p:=¬(if 48≤(zc7 t l nonce).height then 3 else (zad t.c l).2)=0) rfl yH (fun ht29=>?_) (fun ht29=>?_)
 ·
  have hE:zfC t l nonce tries=(if 48≤(zc7 t l nonce).height then 3 else (zad t.c l).2):=mineBE_err ht29;refine CQR ?_;refine A0 (zC rfl zmU bd_59 .nil rfl) ?_;refine qax ?_;refine qb3 ?_;refine qad ?_;exact zq rfl rfl (zl rfl rfl zem (by unfold zts;rw[hE,ur ht29])) (zT (za rfl (hE.symm)))
 refine CSQR ?_;refine qcc ?_;refine qax ?_;refine A0 (oCl (mine_ok (zc7 t l nonce) tries) rfl fn_231 yl) ?_;refine qbi ?_;refine qbj ?_;refine qaj ?_;refine qaL ?_;refine zn (p:=¬(ziC (zc7 t l nonce) tries).isSome=true) rfl (by cases (ziC (zc7 t l nonce) tries).isSome<;>rfl) (fun ht39=>?_) (fun ht39=>?_)
 ·
  have hE:zfC t l nonce tries=4:=zvb (ua ht29) ht39;refine CQR ?_;refine A0 (zC rfl zmU bd_59 .nil rfl) ?_;refine qb3 ?_;refine qad ?_;exact zq rfl rfl (zl rfl rfl zem (by unfold zts;rw[hE];rfl)) (zT (za rfl (hE.symm)))
 have hE:zfC t l nonce tries=0:=mineBE_ok (ua ht29) (ua ht39);refine qcl ?_;refine xl ?_;refine X0 (oLs rfl rfl rfl zaM) ?_;refine X0 (oLs rfl rfl rfl zeL) ?_;refine X0 (oCl (zu (zoo t)) rfl fn_190 yf) ?_;refine X0 mV ?_;refine X0 (oCl (zu (txs_ok l hl)) rfl fn_194 yf) ?_;refine X0 (zC rfl zmU bd_59 (.cons zbe zaw zaM rfl (.cons zcQ zbN za5 rfl (.cons zdE zcf zjF rfl .nil))) rfl) ?_;refine XK.e (x:=.idk) (fun fr' hfr kk H=>by exact zf rfl rfl rfl ((hfr 8 ye).trans rfl) rfl (Lens.self _) zem ((hfr 46 ye).trans rfl) (zr H)) ?_;refine X0 aV ?_;refine xf ?_;exact zq rfl rfl (zl rfl rfl zem (by unfold zts;rw[hE,ut rfl])) (zT (za rfl (hE.symm)))
def s2:Ab.Id:=[219,193,180,201,0,255,228,141,87,91,93,165,198,56,4,1,37,246,93,176,254,62,36,73,75,118,234,152,100,87,217,134]
def s4:Ab.Id:=[229,45,156,80,140,80,35,71,52,77,140,7,173,145,203,214,6,138,252,117,255,98,146,240,98,160,156,163,129,200,158,113]
def id0:Ab.Id:=[204,117,100,156,217,35,11,173,35,93,199,149,159,68,227,45,148,39,20,174,85,27,122,223,187,132,2,33,173,199,16,195]
def lk0:Ab.Id:=[191,122,202,251,39,175,213,3,220,82,240,192,217,1,99,0,242,60,209,156,152,127,176,94,46,148,67,11,109,16,112,47]
def ziW:Head:=⟨0,zId,s2,s2,s4,zdj,545259519,0⟩
def zvy (n:UInt64):Head:=⟨1,id0,lk0,s2,id0,[2,0,0,0],545259519,n⟩
theorem sum_s2:zco [2]=s2:=yr
theorem sum_s4:zco [4]=s4:=yr
theorem zrs:zcF []=s2:=by rw[zcF,ut (show([]:List Ab.Id).length=0 from rfl),sum_s2]
theorem zwl (x:Ab.Id):zcF [x]=x:=by rw[zcF,ur (show ¬[x].length=0 by simp),dif_pos (show [x].length≤1 by simp)];rfl
theorem easy_first:zid 545259519=ziW:=by
  have e1:zal []=s2:=zrs;have e2:zsX []=s2:=zrs;have e3:(zbw []).h=s4:=sum_s4;unfold zid;rw[e1,e2,e3];rfl
theorem zr8:zw ziW=id0:=yr
theorem easy_work:zfL ziW=[2,0,0,0]:=yr
theorem easy_level:zQ ziW=31:=yr
theorem zr7:zbQ 545259519=true:=yr
theorem easy_lk:zwL id0=lk0:=yr
theorem easy_may0:zbx (zvy 0)=false:=yr
theorem zoY:zbx (zvy 1)=true:=yr
def few (t:Tx):Bool:=decide (t.ins.length≤6∧t.outs.length≤6)
theorem few_ok (t:Tx):Tells P 124 [.val txT t] (.val zm (few t)):=by
 refine zc Tryz.func124 rfl rfl rfl (fun ext w hext=>?_);refine qae ?_;refine qaz ?_;refine qbr ?_;refine A0 zih ?_;refine Sp (d:=6) (p:=t.ins.length≤6) (fun g6=>?_) (fun g6=>?_)
 ·
  refine qax ?_;refine qcs ?_;refine A1 (zW rfl rfl zib) ?_;refine A1 zih ?_;refine qaI ?_;exact zb rfl rfl (za rfl yaU)
 refine qax ?_;refine qb7 ?_;refine qaI ?_;exact zb rfl rfl (za rfl yaU)
theorem fewAll_ok (l:List Tx) (m:Int):Tells P 66 [.val (bsl txT) l,.val i64T m] (.val zm (l.all few&&decide ((l.length:Int)≤m))):=by
 refine zc Tryz.func66 rfl rfl rfl (fun ext w hext=>?_);refine ze (d:=0) rfl zk (fun hsl0=>?_);refine ze (d:=1) rfl zt (fun hin1=>?_);refine CQR ?_;refine qbS ?_;refine qc7 ?_;refine Lp (ι:=Nat) 0 (fun (k:Nat)=>(((Fr.none).set 0 (.val (bsl txT) l)).set 1 (.val i64T m)).set 5 (.val i64T (k:Int))) (fun (k:Nat)=>Hp.none) (fun (k:Nat)=>k≤l.length∧(l.take k).all few=true) (fun (k:Nat)=>l.length-k) (0) (⟨uf _,rfl⟩) ?_;intro k hinv;refine CQQR ?_;refine qao ?_;refine qcA ?_;refine qaY ?_;refine Cf (p:=k<l.length) (fun ht10=>?_) (fun ht10=>?_)
 ·
  obtain⟨t,ht⟩:∃t,l[k]?=some t:=⟨_,ub ht10⟩;refine CSQBQR ?_;refine qao ?_;refine A0 (zby rfl rfl rfl zlM yh) ?_;refine A0 (zg rfl rfl zgb) ?_;refine A0 (oCl (few_ok _) rfl fn_124 ybN) ?_;refine qag ?_;refine qaL ?_;refine zn (p:=¬few t=true) rfl yy (fun ht19=>?_) (fun ht19=>?_)
  ·
   refine qas ?_;exact zb rfl rfl (za rfl (by symm;rw[Bool.and_eq_false_iff];left;rw[List.all_eq_false];exact⟨t,ud ht,ht19⟩))
  refine CSIR ?_;refine qbb ?_;refine qad ?_;exact Nx (k+1) (⟨by omega,by rw[un,ht,List.all_append,hinv.2];simp[ua ht19]⟩) yc
 refine CE ?_;refine qa4 ?_;refine qcA ?_;refine qax ?_;refine A0 zih ?_;refine qad ?_;exact zb rfl rfl (za rfl (by rw[uc yc] at hinv;rw[hinv.2,Bool.true_and];rfl))
def leaf0:Total:=leafT id0 [2,0,0,0]
def zfz:Tip:=⟨⟨ziW,[],[]⟩,[leaf0],[]⟩
def zbF:Block:=⟨zvy 1,[id0],[]⟩
def leaf1:Total:=zfK (zvy 1)
def zxr:Tip:=⟨zbF,zaO [leaf0] leaf1,[]⟩
theorem easy_leaf:zfK ziW=leaf0:=by unfold zfK leaf0;rw[zr8,easy_work]
theorem zr6:zaq 545259519=zfz:=by unfold zaq;rw[ut zr7,easy_first,easy_leaf];rfl
theorem zmd:zes zfz=[id0]:=by
  show zca [] (zw ziW) (zQ ziW)=_;rw[zr8];unfold zca;rw[ur (show ¬32<([]:List Ab.Id).length by decide),ut (show([]:List Ab.Id).length=0 from rfl)]
theorem zoX (n:UInt64):zc7 zfz [] n=zvy n:=by
  have e1:zal [id0]=lk0:=(zwl _).trans easy_lk;have e2:zsX []=s2:=zrs;unfold zc7;rw[zmd,e1,e2];show(⟨_,zw ziW,_,_,_,_,_,_⟩:Head)=_;rw[zr8];rfl
theorem ztZ:ziC (zvy 0) 200=some (zvy 1):=by
  unfold ziC;rw[zkR yp (by rw[easy_may0];decide)];exact ziD yp zoY
theorem zpp:zad [] []=([],0):=yr
theorem zqJ:zfC zfz [] 0 200=0:=by
  unfold zfC;rw[zoX,ur yp,show(zad zfz.c []).2=0 from congrArg (·.2) zpp,ur yp,ztZ];rfl
theorem easy_mineB:zts zfz [] 0 200=zbF:=by
  unfold zts;rw[zqJ,ut rfl,zoX,ztZ,zmd];rfl
theorem zqI:zd4 zfz zbF=0:=by
  unfold zd4;have e:zc7 zfz zbF.t zbF.h.nonce=zbF.h:=zoX 1;rw[e,ur yp,ur yy,ur (by rw[zmd];simp[zbF]),ur yy,ur (by rw[show zbx zbF.h=true from zoY];simp)];exact congrArg (·.2) zpp
theorem easy_pushT:zj3 zfz zbF=zxr:=by
  unfold zj3;rw[zqI,ut rfl,show(zad zfz.c zbF.t).1=[] from congrArg (·.1) zpp];rfl
theorem zuR:zge zbF:=by refine⟨by decide,by decide,fun t ht=>by cases ht⟩
def fewB (b:Block):Bool:=(b.t.all few&&decide ((b.t.length:Int)≤6))&&decide (b.l.length≤40)
theorem few_small {l:List Tx} (h:(l.all few&&decide ((l.length:Int)≤6))=true):zp5 l:=by
  rw[uk,uj] at h;refine⟨by omega,fun t ht=>?_⟩
  have:=List.all_eq_true.1 h.1 t ht
  unfold few at this;rw[uj] at this;exact⟨by omega,by omega⟩
theorem fewB_small {b:Block} (h:fewB b=true):zge b:=by
  unfold fewB at h;rw[uk,uj] at h;exact⟨by omega,few_small h.1⟩
theorem eq_u32 {x y:UInt32}:decide (IntL.toI u32T x=IntL.toI u32T y)=decide (x=y):=by rw[uo];show((x.toNat:Nat):Int)=((y.toNat:Nat):Int)↔_;rw[Int.ofNat_inj,UInt32.toNat_inj]
theorem ztj:∀(r:List Total) (x:Total),(ziy r x).length≤r.length+1
  | [],_=>ug _
  | y::r,x=>by
    rw[ziy]
    split
    · have:=ztj r (zkW y x);rw[List.length_cons];omega
    rw[List.length_cons];omega
theorem zrJ {p:List Total} {x:Total}:(zaO p x).length≤p.length+1:=by
  unfold zaO
  have:=ztj p.reverse x
  rw[List.length_reverse] at this ⊢;exact this
theorem apply_may {p:List Coin} {l:List Tx} (h:(zad p l).2=0):zaZ p=true:=by
  refine Classical.byContradiction fun hn=>?_
  unfold zad at h;rw[ut hn] at h;exact absurd h (show ¬(1:Int)=0 by decide)
theorem zfH {t:Tip} {b:Block}:zd4 t b=0↔b.h.height<48∧b.h=zc7 t b.t b.h.nonce∧b.l=zes t∧zbx b.h=true∧(zad t.c b.t).2=0:=by
  constructor
  · intro h
    unfold zd4 at h;by_cases h1:48≤b.h.height
    · rw[ut h1] at h;exact absurd h yp
    rw[ur h1] at h;by_cases h2:¬zfA b.h=zfA (zc7 t b.t b.h.nonce)
    · rw[ut h2] at h;exact absurd h yp
    rw[ur h2] at h;by_cases h3:¬b.h.links=(zc7 t b.t b.h.nonce).links∨¬b.l=zes t
    · rw[ut h3] at h;exact absurd h yp
    rw[ur h3] at h;by_cases h4:¬b.h=zc7 t b.t b.h.nonce
    · rw[ut h4] at h;exact absurd h yp
    rw[ur h4] at h;by_cases h5:¬zbx b.h=true
    · rw[ut h5] at h;exact absurd h yp
    rw[ur h5] at h;exact⟨by omega,ua h4,ua fun hc=>h3 (.inr hc),ua h5,h⟩
  rintro ⟨h1,h2,h3,h4,h5⟩
  unfold zd4;rw[ur yc,ur (Classical.not_not.2 (congrArg zfA h2)),ur (fun h=>h.elim (fun h=>h (congrArg (·.links) h2)) fun h=>h h3),ur (Classical.not_not.2 h2),ur (Classical.not_not.2 h4)];exact h5
theorem zda {a:UInt32} (h:zbQ a=true):zaq a=⟨⟨zid a,[],[]⟩,[zfK (zid a)],[]⟩:=by unfold zaq;rw[ut h];rfl
theorem zni {t:Tip} {b:Block} (h:zd4 t b=0):zj3 t b=⟨b,zaO t.p (zfK b.h),(zad t.c b.t).1⟩:=by unfold zj3;rw[ut h]
def zhu (x:Total):Prop:=x.w.length=4∧-9223372036854775808≤x.n∧x.n≤9223372036854775807
theorem wrap_q (n:Int):∃q,IntKind.i64.wrap n=n+18446744073709551616*q∧-9223372036854775808≤IntKind.i64.wrap n∧IntKind.i64.wrap n≤9223372036854775807:=by
  have h:=zdw.1 (zjV n);refine⟨(IntKind.i64.wrap n-n)/18446744073709551616,?_,h⟩;simp only[IntKind.wrap,IntKind.signed,IntKind.bits];simp
  split<;>omega
def nS (l:List Total):Nat:=(l.map fun x=>nW x.w).sum
def iS (l:List Total):Int:=(l.map (·.n)).sum
theorem ztA {y x:Total} (hy:zhu y) (hx:zhu x):zhu (zkW y x):=⟨zsw hy.1 hx.1,(wrap_q _).choose_spec.2⟩
theorem zwO {y x:Total} (hy:zhu y) (hx:zhu x):nW (zkW y x).w=(nW y.w+nW x.w)%W256∧∃q,(zkW y x).n=y.n+x.n+18446744073709551616*q:=⟨nW_add hy.1 hx.1,let ⟨q,h,_⟩:=wrap_q (y.n+x.n);⟨q,h⟩⟩
theorem zmw:∀{r:List Total} {x:Total},(∀y∈r,zhu y)→zhu x→zhu (zcU r x)∧nW (zcU r x).w=(nS r+nW x.w)%W256∧∃q,(zcU r x).n=iS r+x.n+18446744073709551616*q
  | [],x,_,hx=>⟨hx,by have:=nW_lt hx.1;show nW x.w=(0+nW x.w)%W256;unfold W256 at *;omega,0,by show x.n=0+x.n+_;omega⟩
  | y::r,x,hr,hx=>by
    have hy:=hr y yy;obtain⟨h1,h2,q,h3⟩:=zmw (r:=r) (fun z hz=>hr z (by simp[hz])) (ztA hy hx);obtain⟨h4,q',h5⟩:=zwO hy hx;refine⟨h1,?_,q+q',?_⟩
    · show nW (zcU r (zkW y x)).w=(nS (y::r)+nW x.w)%W256
      have e:nS (y::r)=nW y.w+nS r:=by unfold nS;simp
      rw[h2,h4,e];unfold W256;omega
    show(zcU r (zkW y x)).n=iS (y::r)+x.n+_;have e:iS (y::r)=y.n+iS r:=by unfold iS;simp
    rw[h3,h5,e];omega
theorem zob:∀{r:List Total} {x:Total},(∀y∈r,zhu y)→zhu x→(∀y∈ziy r x,zhu y)∧nS (ziy r x)%W256=(nS r+nW x.w)%W256∧∃q,iS (ziy r x)=iS r+x.n+18446744073709551616*q
  | [],x,_,hx=>⟨fun y hy=>by simp[ziy] at hy;rw[hy];exact hx,by simp[ziy,nS],0,by simp[ziy,iS]⟩
  | y::r,x,hr,hx=>by
    have hy:=hr y yy;have e:nS (y::r)=nW y.w+nS r:=by unfold nS;simp
    have e':iS (y::r)=y.n+iS r:=by unfold iS;simp
    rw[ziy]
    split
    · obtain⟨h1,h2,q,h3⟩:=zob (r:=r) (fun z hz=>hr z (by simp[hz])) (ztA hy hx)
      obtain⟨h4,q',h5⟩:=zwO hy hx;refine⟨h1,?_,q+q',?_⟩
      · rw[h2,h4,e];unfold W256;omega
      rw[h3,h5,e'];omega
    refine⟨fun z hz=>?_,?_,0,?_⟩
    · rcases List.mem_cons.1 hz with h|h
      · rw[h];exact hx
      exact hr z h
    · have:nS (x::y::r)=nW x.w+(nW y.w+nS r):=by unfold nS;simp
      rw[this,e];congr 1;omega
    have:iS (x::y::r)=x.n+(y.n+iS r):=by unfold iS;simp
    rw[this,e'];omega
theorem ztg {r:List Total} (hr:∀y∈r,zhu y):zhu (zbw r.reverse)∧nW (zbw r.reverse).w=nS r%W256∧∃q,(zbw r.reverse).n=iS r+18446744073709551616*q:=by
  unfold zbw;rw[List.reverse_reverse];cases r with
  | nil=>exact⟨⟨rfl,by decide,by decide⟩,rfl,0,rfl⟩
  | cons x r =>
    obtain⟨h1,h2,q,h3⟩:=zmw (r:=r) (fun z hz=>hr z (by simp[hz])) (hr x yy);refine⟨h1,?_,q,?_⟩
    · show nW (zcU r x).w=_
      rw[h2];unfold nS;simp;congr 1;omega
    show(zcU r x).n=_;rw[h3];unfold iS;simp;omega
theorem zfi (h:Head):(zfL h).length=4:=by
  unfold zfL
  split
  · unfold workW
    split
    · refine zsw ?_ rfl
      unfold divW divP
      split
      · rfl
      simp only[]
      have:∀(b:Wide) (n:Nat) (x:Wide×Wide),x.2.length=4→(divN b n x).2.length=4:=fun b n=>by
        induction n with
        | zero=>intro x hx;exact hx
        | succ n ih =>
          intro x hx;rw[divN];refine ih _ ?_;unfold zkd
          split
          · simp only[zu8,List.length_set];exact hx
          exact hx
      exact this _ _ _ rfl
    rfl
  rfl
theorem append_sum {p:List Total} {h:Head} (hp:∀x∈p,zhu x):(zbw (zaO p (zfK h))).w=addW (zbw p).w (zfL h)∧(zbw (zaO p (zfK h))).n=IntKind.i64.wrap ((zbw p).n+1):=by
  have hr:∀x∈p.reverse,zhu x:=fun x hx=>hp x (by simpa using hx)
  have hx:zhu (zfK h):=⟨zfi h,by show(-9223372036854775808:Int)≤1;decide,by show(1:Int)≤9223372036854775807;decide⟩;obtain⟨a1,a2,q1,a3⟩:=zob hr hx;obtain⟨b1,b2,q2,b3⟩:=ztg a1;obtain⟨c1,c2,q3,c3⟩:=ztg hr;rw[List.reverse_reverse] at c1 c2 c3
  constructor
  · refine nW_inj b1.1 (zsw c1.1 (zfi h)) ?_
    rw[nW_add c1.1 (zfi h),c2];show nW (zbw (ziy p.reverse (zfK h)).reverse).w=_;rw[b2,a2];show(nS p.reverse+nW (zfL h))%W256=_;unfold W256;omega
  show(zbw (ziy p.reverse (zfK h)).reverse).n=_;obtain⟨q4,d1,d2⟩:=wrap_q ((zbw p).n+1);have e:(zfK h).n=1:=rfl
  have:=b1.2
  omega
end Go.Proofs.YtikaeepohlkjdaaGreat
