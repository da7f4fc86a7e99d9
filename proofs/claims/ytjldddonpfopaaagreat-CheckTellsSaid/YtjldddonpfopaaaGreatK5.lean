/- Parts of the proof: the layer that reads Go values as data, and what the functions of the program tell. -/
import Derived.Test.YtjldddonpfopaaaGreatK4
set_option linter.unusedVariables false
set_option linter.unusedSimpArgs false
set_option maxRecDepth 20000
namespace Go.Proofs.YtjldddonpfopaaaGreat
open Go.Ab Go.RowKit
def setN {α:Type} (f:Nat→α) (z:List α) (k:Nat):List α:=(List.range k).foldl (fun l i=>l.set i (f i)) z
theorem zdX {α:Type} {f:Nat→α} {z:List α} {k:Nat}:(setN f z k).set k (f k)=setN f z (k+1):=(zbZ (f:=fun (l:List α) i=>l.set i (f i))).symm
theorem setN_all {α:Type} {f:Nat→α} {z:List α} {k:Nat} (h:z.length=k):setN f z k=(List.range k).map f:=by
  apply List.ext_getElem?
  intro j
  unfold setN
  rw [fold_set_get,List.getElem?_map]
  by_cases c:j<k
  · rw [if_pos ⟨c,by omega⟩,List.getElem?_range c];rfl
  · rw [if_neg (by omega),List.getElem?_eq_none (by omega),List.getElem?_eq_none (by simp;omega)];rfl
theorem zfl {a:Ab.Id} {ρ:Nat→Value} {B:Nat→Prop} {U N:Nat→Prop} {w:World} {v:Value} (h:(AV.val idT a).rel ρ B U N w v):a.length=32:=by
  obtain ⟨cs,h,_⟩:=h
  exact h.1
theorem zaw {a:Wide} {ρ:Nat→Value} {B:Nat→Prop} {U N:Nat→Prop} {w:World} {v:Value} (h:(AV.val wideT a).rel ρ B U N w v):a.length=4:=by
  obtain ⟨cs,h,_⟩:=h
  exact h.1
def cmpU (x y:UInt64):Int:=if x<y then -1 else if y<x then 1 else 0
def atW (a:Wide) (i:Int):UInt64:=if i<0∨4≤i then 0 else a.getD i.toNat default
def upF (a:Wide) (n:Int) (i:Nat):UInt64:=shl64 (atW a ((i:Int)-n/64)) (n%64).toNat|||shr64 (shr64 (atW a ((i:Int)-n/64-1)) 1) (63-n%64).toNat
def upW (a:Wide) (n:Int):Wide:=if n<0 then a else if 256≤n then zWide else (List.range 4).map (upF a n)
def downF (a:Wide) (n:Int) (i:Nat):UInt64:=shr64 (atW a ((i:Int)+n/64)) (n%64).toNat|||shl64 (shl64 (atW a ((i:Int)+n/64+1)) 1) (63-n%64).toNat
def downW (a:Wide) (n:Int):Wide:=if n<0 then a else if 256≤n then zWide else (List.range 4).map (downF a n)
def byteF (a:Wide) (i:Nat):UInt8:=u8OfI (IntL.toI u64T (shr64 (a.getD (3-i/8) default) (56-8*((i:Int)%8)).toNat))
def bytesW (a:Wide):Ab.Id:=(List.range 32).map (byteF a)
def of32S (b:Ab.Id) (w:Wide) (i:Nat):Wide:=w.set (3-i/8) (shl64 (w.getD (3-i/8) default) 8|||u64OfI (IntL.toI u8T (b.getD i default)))
def of32N (b:Ab.Id) (k:Nat):Wide:=(List.range k).foldl (of32S b) zWide
def of32W (b:Ab.Id):Wide:=of32N b 32
def cmpW (a b:Wide):Int:=orL [cmpU (a.getD 3 default) (b.getD 3 default),cmpU (a.getD 2 default) (b.getD 2 default),cmpU (a.getD 1 default) (b.getD 1 default),cmpU (a.getD 0 default) (b.getD 0 default)]
theorem isNaNU_ok (x:UInt64):Tells P 227 [.val u64T x] (.val boolT false):=by
 refine zc Tryz.func227 rfl rfl rfl (fun ext w hext=>?_)
 refine CQR ?_;refine qb7 ?_;refine A0 zd2 ?_;refine qab ?_
 exact zb rfl rfl (zca (by simp [Fr.set]))
theorem cmpU_ok (x y:UInt64):Tells P 192 [.val u64T x,.val u64T y] (.val i64T (cmpU x y)):=by
 refine zc Tryz.func192 rfl rfl rfl (fun ext w hext=>?_)
 refine CQR ?_;refine qa7 ?_;refine A0 (oCl (isNaNU_ok _) rfl fn_227 ⟨(zd rfl),trivial⟩) ?_;refine qa7 ?_;refine A0 (oCl (isNaNU_ok _) rfl fn_227 ⟨(zd rfl),trivial⟩) ?_;refine qah ?_;refine CN ?_;refine Cg ?_;refine qbO ?_;refine CN ?_;refine Cg ?_;refine CSQQR ?_;refine qag ?_;refine qaz ?_;refine zj (p:=x<y) rfl (by simp [IntL.toI,UInt64.lt_iff_toNat_lt]) (fun ht16=>?_) (fun ht16=>?_)
 ·
  refine qam ?_
  exact zb rfl rfl (za rfl (by unfold cmpU;first|rw [if_neg (by assumption),if_neg (by assumption)]|rw [if_neg (by assumption),if_pos (by assumption)]|rw [if_pos (by assumption)]))
 ·
  refine CSQQR ?_;refine qag ?_;refine qcb ?_;refine zj (p:=y<x) rfl (by simp [IntL.toI,UInt64.lt_iff_toNat_lt]) (fun ht19=>?_) (fun ht19=>?_)
  ·
   refine qam ?_
   exact zb rfl rfl (za rfl (by unfold cmpU;first|rw [if_neg (by assumption),if_neg (by assumption)]|rw [if_neg (by assumption),if_pos (by assumption)]|rw [if_pos (by assumption)]))
  ·
   refine CSQR ?_;refine qab ?_
   exact zb rfl rfl (za rfl (by unfold cmpU;first|rw [if_neg (by assumption),if_neg (by assumption)]|rw [if_neg (by assumption),if_pos (by assumption)]|rw [if_pos (by assumption)]))
theorem atW_ok (a:Wide) (i:Int):Tells P 185 [.val wideT a,.val i64T i] (.val u64T (atW a i)):=by
 refine zc Tryz.func185 rfl rfl rfl (fun ext w hext=>?_)
 refine ze (d:=1) rfl zQ (fun hin1=>?_)
 refine ze (d:=0) rfl zaw (fun ha=>?_)
 refine qad ?_;refine qah ?_;refine A0 zbh ?_;refine Sp (d:=6) (p:=i<0) (fun g6=>?_) (fun g6=>?_)
 ·
  refine qar ?_;refine qcc ?_;refine Ct ?_;refine qam ?_
  exact zb rfl rfl (za rfl (by unfold atW;rw [if_pos (.inl g6)];rfl))
 ·
  refine qar ?_;refine A1 mV ?_;refine A1 zez ?_;refine Sp (d:=9) (p:=4≤i) (fun g9=>?_) (fun g9=>?_)
  ·
   refine qaq ?_;refine Ct ?_;refine qam ?_
   exact zb rfl rfl (za rfl (by unfold atW;rw [if_pos (.inr g9)];rfl))
  ·
   refine qaq ?_;refine Cg ?_;refine qbG ?_;refine A0 (zt (i:=i.toNat) rfl rfl rfl (by first|omega|rfl) zag (by omega)) ?_;refine A0 (zl rfl rfl rfl (Lens.elem (i:=i.toNat) (by omega) u64T) zav) ?_;refine qab ?_
   exact zb rfl rfl (za rfl (by unfold atW;rw [if_neg (by omega)]))
theorem upW_ok (a:Wide) (n:Int):Tells P 125 [.val wideT a,.val i64T n] (.val wideT (upW a n)):=by
 refine zc Tryz.func125 rfl rfl rfl (fun ext w hext=>?_)
 refine ze (d:=1) rfl zQ (fun hin1=>?_)
 refine ze (d:=0) rfl zaw (fun ha=>?_)
 refine qad ?_;refine qas ?_;refine qbb ?_;refine qaz ?_;refine Cf (p:=n<0) (fun ht10=>?_) (fun ht10=>?_)
 ·
  refine qba ?_
  exact zu rfl rfl rfl rfl zZ (by unfold upW;rw [if_pos ht10])
 ·
  refine qbO ?_;refine qbk ?_;refine Cf (p:=256≤n) (fun ht13=>?_) (fun ht13=>?_)
  ·
   refine CQR ?_;refine A0 (zaA rfl zag zcO rfl) ?_;refine qae ?_;refine CN ?_
   exact zu rfl rfl rfl rfl zZ (by unfold upW;rw [if_neg ht10,if_pos ht13])
  ·
   refine CSQR ?_;refine qas ?_;refine qbx ?_;refine A0 (g_quo rfl rfl rfl (by first|omega|assumption) (by first|decide|omega) rfl) ?_;refine qar ?_;refine A0 (g_rem rfl rfl rfl (by first|omega|assumption) (by first|decide|omega) rfl) ?_;refine A0 aV ?_;refine qah ?_;refine CNB ?_
   refine Lp (ι:=Nat) 3 (fun (k:Nat)=>((((((Fr.none).set 2 (.ptr 0 0)).set 4 (.ptr 1 0)).set 5 (.ptr 2 0)).set 6 (.val i64T (n/64))).set 7 (.val i64T (n%64))).set 19 (.val i64T (k:Int))) (fun (k:Nat)=>(((Hp.none).set 0 (.box 35 wideT a)).set 1 (.box 35 wideT zWide)).set 2 (.box 35 wideT (setN (upF a n) zWide k))) (fun (k:Nat)=>k≤4) (fun (k:Nat)=>4-k) (0) (Nat.zero_le _) ?_
   intro k hinv
   refine qao ?_;refine Cf (p:=k<4) (fun ht20=>?_) (fun ht20=>?_)
   ·
    refine qaL ?_;refine qab ?_;refine zx [some 1,some 1,some 1,some 1,some 1,some 1,some 1,some 1,some 1,some 1,some 1,some 1,some 1,some 1,some 1,some 1,some 1,some 1,some 1,some 1,none] mixed (by decide +kernel) ?_;refine X0 mV ?_;refine qbI ?_;refine qaP ?_;refine X0 zay ?_;refine X0 (oCl (atW_ok _ _) rfl fn_185 ⟨(zd rfl),(zd rfl),trivial⟩) ?_;refine X0 mV ?_;refine X0 (g_shl64 rfl rfl rfl (by first|decide|(simp [IntL.toI];done)|(simp [IntL.toI];omega)) rfl) ?_;refine qbI ?_;refine qaP ?_;refine X0 zay ?_;refine X0 zay ?_
    refine X0 (oCl (atW_ok _ _) rfl fn_185 ⟨(zd rfl),(zd rfl),trivial⟩) ?_;refine X0 (zbP rfl rfl rfl (by first|decide|(simp [IntL.toI];done)|(simp [IntL.toI];omega)) rfl) ?_;refine X0 mV ?_;refine X0 zay ?_;refine X0 (zbP rfl rfl rfl (by first|decide|(simp [IntL.toI];done)|(simp [IntL.toI];omega)) rfl) ?_;refine X0 (g_or64 rfl rfl rfl) ?_;refine X0 (zt (i:=k) rfl rfl rfl (by first|omega|rfl) zag (by omega)) ?_
    refine XK.e (x:=.idk) (fun fr' hfr kk H=>by exact zh rfl rfl rfl ((hfr 41 (by decide +kernel)).trans rfl) rfl (Lens.elem (i:=k) (by omega) u64T) zav ((hfr 40 (by decide +kernel)).trans rfl) (zz H)) ?_;refine qaQ ?_;refine qal ?_;refine zD (n:=2) (y:=setN (upF a n) zWide (k+1)) rfl zdX ?_
    exact Nx (k+1) (by omega) (by omega)
   ·
    obtain rfl:k=4:=(by omega)
    refine CE ?_;refine qba ?_
    exact zu rfl rfl rfl rfl zZ (by unfold upW;rw [if_neg ht10,if_neg ht13];exact setN_all rfl)
theorem downW_ok (a:Wide) (n:Int):Tells P 136 [.val wideT a,.val i64T n] (.val wideT (downW a n)):=by
 refine zc Tryz.func136 rfl rfl rfl (fun ext w hext=>?_)
 refine ze (d:=1) rfl zQ (fun hin1=>?_)
 refine ze (d:=0) rfl zaw (fun ha=>?_)
 refine qad ?_;refine qas ?_;refine qbb ?_;refine qaz ?_;refine Cf (p:=n<0) (fun ht10=>?_) (fun ht10=>?_)
 ·
  refine qba ?_
  exact zu rfl rfl rfl rfl zZ (by unfold downW;rw [if_pos ht10])
 ·
  refine qbO ?_;refine qbk ?_;refine Cf (p:=256≤n) (fun ht13=>?_) (fun ht13=>?_)
  ·
   refine CQR ?_;refine A0 (zaA rfl zag zcO rfl) ?_;refine qae ?_;refine CN ?_
   exact zu rfl rfl rfl rfl zZ (by unfold downW;rw [if_neg ht10,if_pos ht13])
  ·
   refine CSQR ?_;refine qas ?_;refine qbx ?_;refine A0 (g_quo rfl rfl rfl (by first|omega|assumption) (by first|decide|omega) rfl) ?_;refine qar ?_;refine A0 (g_rem rfl rfl rfl (by first|omega|assumption) (by first|decide|omega) rfl) ?_;refine A0 aV ?_;refine qah ?_;refine CNB ?_
   refine Lp (ι:=Nat) 3 (fun (k:Nat)=>((((((Fr.none).set 2 (.ptr 0 0)).set 4 (.ptr 1 0)).set 5 (.ptr 2 0)).set 6 (.val i64T (n/64))).set 7 (.val i64T (n%64))).set 19 (.val i64T (k:Int))) (fun (k:Nat)=>(((Hp.none).set 0 (.box 35 wideT a)).set 1 (.box 35 wideT zWide)).set 2 (.box 35 wideT (setN (downF a n) zWide k))) (fun (k:Nat)=>k≤4) (fun (k:Nat)=>4-k) (0) (Nat.zero_le _) ?_
   intro k hinv
   refine qao ?_;refine Cf (p:=k<4) (fun ht20=>?_) (fun ht20=>?_)
   ·
    refine qaL ?_;refine qab ?_;refine zx [some 1,some 1,some 1,some 1,some 1,some 1,some 1,some 1,some 1,some 1,some 1,some 1,some 1,some 1,some 1,some 1,some 1,some 1,some 1,some 1,none] mixed (by decide +kernel) ?_;refine X0 mV ?_;refine qbI ?_;refine qaP ?_;refine X0 zaG ?_;refine X0 (oCl (atW_ok _ _) rfl fn_185 ⟨(zd rfl),(zd rfl),trivial⟩) ?_;refine X0 mV ?_;refine X0 (zbP rfl rfl rfl (by first|decide|(simp [IntL.toI];done)|(simp [IntL.toI];omega)) rfl) ?_;refine qbI ?_;refine qaP ?_;refine X0 zaG ?_;refine X0 zaG ?_
    refine X0 (oCl (atW_ok _ _) rfl fn_185 ⟨(zd rfl),(zd rfl),trivial⟩) ?_;refine X0 (g_shl64 rfl rfl rfl (by first|decide|(simp [IntL.toI];done)|(simp [IntL.toI];omega)) rfl) ?_;refine X0 mV ?_;refine X0 zay ?_;refine X0 (g_shl64 rfl rfl rfl (by first|decide|(simp [IntL.toI];done)|(simp [IntL.toI];omega)) rfl) ?_;refine X0 (g_or64 rfl rfl rfl) ?_;refine X0 (zt (i:=k) rfl rfl rfl (by first|omega|rfl) zag (by omega)) ?_
    refine XK.e (x:=.idk) (fun fr' hfr kk H=>by exact zh rfl rfl rfl ((hfr 41 (by decide +kernel)).trans rfl) rfl (Lens.elem (i:=k) (by omega) u64T) zav ((hfr 40 (by decide +kernel)).trans rfl) (zz H)) ?_;refine qaQ ?_;refine qal ?_;refine zD (n:=2) (y:=setN (downF a n) zWide (k+1)) rfl zdX ?_
    exact Nx (k+1) (by omega) (by omega)
   ·
    obtain rfl:k=4:=(by omega)
    refine CE ?_;refine qba ?_
    exact zu rfl rfl rfl rfl zZ (by unfold downW;rw [if_neg ht10,if_neg ht13];exact setN_all rfl)
theorem bytesW_ok (a:Wide):Tells P 79 [.val wideT a] (.val idT (bytesW a)):=by
 refine zc Tryz.func79 rfl rfl rfl (fun ext w hext=>?_)
 refine ze (d:=0) rfl zaw (fun ha=>?_)
 refine qad ?_;refine qa8 ?_;refine CNQR ?_;refine qa8 ?_;refine CNQQR ?_;refine qaI ?_;refine Lp (ι:=Nat) 3 (fun (k:Nat)=>((((Fr.none).set 1 (.ptr 0 0)).set 2 (.ptr 1 0)).set 3 (.ptr 2 0)).set 5 (.val i64T (k:Int))) (fun (k:Nat)=>(((Hp.none).set 0 (.box 35 wideT a)).set 1 (.box 32 idT zId)).set 2 (.box 32 idT (setN (byteF a) zId k))) (fun (k:Nat)=>k≤32) (fun (k:Nat)=>32-k) (0) (Nat.zero_le _) ?_
 intro k hinv
 refine qao ?_;refine Cf (p:=k<32) (fun ht6=>?_) (fun ht6=>?_)
 ·
  refine qaL ?_;refine qb2 ?_;refine qag ?_;refine A0 (g_quo rfl rfl rfl (by first|omega|assumption) (by first|decide|omega) rfl) ?_;refine A0 zay ?_;refine A0 (zt (i:=3-k/8) rfl rfl rfl (by first|omega|rfl) zag (by omega)) ?_;refine A0 (zl rfl rfl rfl (Lens.elem (i:=3-k/8) (by omega) u64T) zav) ?_;refine qar ?_;refine A0 (g_rem rfl rfl rfl (by first|omega|assumption) (by first|decide|omega) rfl) ?_;refine A0 zfc ?_;refine A0 zay ?_;refine A0 (zbP rfl rfl rfl (by first|decide|(simp [IntL.toI];done)|(simp [IntL.toI];omega)) rfl) ?_
  refine A0 (zcU rfl (ui_5) (us_33) rfl) ?_;refine A0 (zt (i:=k) rfl rfl rfl (by first|omega|rfl) za5 (by omega)) ?_;refine zh rfl rfl rfl rfl rfl (Lens.elem (i:=k) (by omega) u8T) ty_5 rfl ?_;refine qbw ?_;refine zD (n:=2) (y:=setN (byteF a) zId (k+1)) rfl zdX ?_
  exact Nx (k+1) (by omega) (by omega)
 ·
  obtain rfl:k=32:=(by omega)
  refine qbM ?_;refine qaN ?_;refine qbz ?_
  exact zu rfl rfl rfl rfl zM (setN_all rfl)
theorem of32W_ok (b:Ab.Id):Tells P 133 [.val idT b] (.val wideT (of32W b)):=by
 refine zc Tryz.func133 rfl rfl rfl (fun ext w hext=>?_)
 refine ze (d:=0) rfl zfl (fun hb=>?_)
 refine qad ?_;refine qas ?_;refine CNQR ?_;refine qas ?_;refine CNQQR ?_;refine qaN ?_;refine qaI ?_;refine Lp (ι:=Nat) 3 (fun (k:Nat)=>((((Fr.none).set 2 (.ptr 1 0)).set 3 (.ptr 2 0)).set 7 (.val idT b)).set 8 (.val i64T (k:Int))) (fun (k:Nat)=>((Hp.none).set 1 (.box 35 wideT zWide)).set 2 (.box 35 wideT (of32N b k))) (fun (k:Nat)=>k≤32) (fun (k:Nat)=>32-k) (0) (Nat.zero_le _) ?_
 intro k hinv
 refine qao ?_;refine Cf (p:=k<32) (fun ht9=>?_) (fun ht9=>?_)
 ·
  obtain ⟨x,hx⟩:∃x,b[k]?=some x:=⟨_,List.getElem?_eq_getElem (by omega)⟩
  refine qaL ?_;refine A0 (g_index rfl rfl rfl rfl za5 ty_5 (by assumption)) ?_;refine A0 aV ?_;refine qa7 ?_;refine A0 (g_quo rfl rfl rfl (by first|omega|assumption) (by first|decide|omega) rfl) ?_;refine A0 zay ?_;refine qb2 ?_;refine qag ?_;refine A0 (zt (i:=3-k/8) rfl rfl rfl (by first|omega|rfl) zag (by omega)) ?_;refine A0 (zl rfl rfl rfl (Lens.elem (i:=3-k/8) (by omega) u64T) zav) ?_;refine A0 (g_shl64 rfl rfl rfl (by first|decide|(simp [IntL.toI];done)|(simp [IntL.toI];omega)) rfl) ?_;refine qar ?_;refine A0 (zcr rfl (ui_33) (us_5) rfl) ?_
  refine A0 (g_or64 rfl rfl rfl) ?_;refine A0 (zt (i:=3-k/8) rfl rfl rfl (by first|omega|rfl) zag (by omega)) ?_;refine zh rfl rfl rfl rfl rfl (Lens.elem (i:=3-k/8) (by omega) u64T) zav rfl ?_;refine qbw ?_;refine zD (n:=2) (y:=of32N b (k+1)) rfl (by unfold of32N;rw [zbZ];unfold of32S;rw [List.getD_eq_getElem?_getD (l:=b),hx];rfl) ?_
  exact Nx (k+1) (by omega) (by omega)
 ·
  obtain rfl:k=32:=(by omega)
  refine CE ?_;refine qba ?_
  exact zu rfl rfl rfl rfl zZ (rfl)
theorem cmpW_ok (a b:Wide):Tells P 135 [.val wideT a,.val wideT b] (.val i64T (cmpW a b)):=by
 refine zc Tryz.func135 rfl rfl rfl (fun ext w hext=>?_)
 refine qav ?_;refine qbF ?_;refine G0 (zt (i:=3) rfl rfl rfl (by first|omega|rfl) zag (by omega)) ?_;refine G0 (zl rfl rfl rfl (Lens.elem (i:=3) (by omega) u64T) zav) ?_;refine G0 (zt (i:=3) rfl rfl rfl (by first|omega|rfl) zag (by omega)) ?_;refine G0 (zl rfl rfl rfl (Lens.elem (i:=3) (by omega) u64T) zav) ?_;refine G0 (oCl (cmpU_ok _ _) rfl fn_192 ⟨(zd rfl),(zd rfl),trivial⟩) ?_;refine G0 (zt (i:=2) rfl rfl rfl (by first|omega|rfl) zag (by omega)) ?_;refine G0 (zl rfl rfl rfl (Lens.elem (i:=2) (by omega) u64T) zav) ?_
 refine G0 (zt (i:=2) rfl rfl rfl (by first|omega|rfl) zag (by omega)) ?_;refine G0 (zl rfl rfl rfl (Lens.elem (i:=2) (by omega) u64T) zav) ?_;refine G0 (oCl (cmpU_ok _ _) rfl fn_192 ⟨(zd rfl),(zd rfl),trivial⟩) ?_;refine G0 (zt (i:=1) rfl rfl rfl (by first|omega|rfl) zag (by omega)) ?_;refine G0 (zl rfl rfl rfl (Lens.elem (i:=1) (by omega) u64T) zav) ?_;refine G0 (zt (i:=1) rfl rfl rfl (by first|omega|rfl) zag (by omega)) ?_;refine G0 (zl rfl rfl rfl (Lens.elem (i:=1) (by omega) u64T) zav) ?_
 refine G0 (oCl (cmpU_ok _ _) rfl fn_192 ⟨(zd rfl),(zd rfl),trivial⟩) ?_;refine G0 (zt (i:=0) rfl rfl rfl (by first|omega|rfl) zag (by omega)) ?_;refine G0 (zl rfl rfl rfl (Lens.elem (i:=0) (by omega) u64T) zav) ?_;refine G0 (zt (i:=0) rfl rfl rfl (by first|omega|rfl) zag (by omega)) ?_;refine G0 (zl rfl rfl rfl (Lens.elem (i:=0) (by omega) u64T) zav) ?_;refine G0 (oCl (cmpU_ok _ _) rfl fn_192 ⟨(zd rfl),(zd rfl),trivial⟩) ?_;refine G0 (zo (T:=i64T) (xs:=[_,_,_,_]) rfl sl_29 zeg ⟨rfl,rfl,rfl,rfl,rfl,rfl,rfl,rfl,trivial⟩ rfl rfl) ?_
 refine G0 (oCl (orInt _) rfl fn_191 ⟨(zd rfl),trivial⟩) ?_;refine qa3 ?_
 exact zb rfl rfl (za rfl rfl)
def ofW (n:UInt64):Wide:=[n,0,0,0]
def tgtM (bits:UInt32):UInt64:=u64OfI (IntL.toI u32T (bits&&&16777215))
def tgtE (bits:UInt32):Int:=IntL.toI u32T (shr32 bits 24)
def tgtOk (bits:UInt32):Bool:=decide (3≤tgtE bits∧tgtE bits≤32∧32768≤(tgtM bits).toNat∧(tgtM bits).toNat<8388608)
def tgtW (bits:UInt32):Wide:=if tgtOk bits=true then upW (ofW (tgtM bits)) (8*(tgtE bits-3)) else zWide
theorem ofW_ok (n:UInt64):Tells P 126 [.val u64T n] (.val wideT (ofW n)):=by
 refine zc Tryz.func126 rfl rfl rfl (fun ext w hext=>?_)
 refine CQR ?_;refine qas ?_;refine qbx ?_;refine A0 (g_buildP (T:=u64T) (xs:=[_]) rfl zag zcO ⟨rfl,rfl,trivial⟩ rfl rfl) ?_;refine qae ?_;refine CN ?_
 exact zu rfl rfl rfl rfl zZ (rfl)
theorem target_ok (bits:UInt32):Tells P 71 [.val u32T bits] (.tup2 (.val wideT (tgtW bits)) (.val boolT (tgtOk bits))):=by
 have he0:0≤tgtE bits:=Int.natCast_nonneg _
 have heL:tgtE bits<4294967296:=by have:(shr32 bits 24).toNat<4294967296:=(shr32 bits 24).toNat_lt;show ((shr32 bits 24).toNat:Int)<4294967296;omega
 refine zc Tryz.func71 rfl rfl rfl (fun ext w hext=>?_)
 refine CQR ?_;refine qas ?_;refine qa7 ?_;refine A0 (g_shr32 rfl rfl rfl (by first|decide|(simp [IntL.toI];done)|(simp [IntL.toI];omega)) rfl) ?_;refine A0 (g_cvi rfl (ui_3) (us_36) rfl (zai (by show -9223372036854775808≤tgtE bits∧tgtE bits≤9223372036854775807;omega))) ?_;refine zp (d:=8) (y:=tgtE bits) rfl rfl ?_;refine qar ?_;refine A0 (zd3 rfl rfl rfl) ?_;refine A0 (zcr rfl (ui_33) (us_36) rfl) ?_;refine zp (d:=11) (y:=tgtM bits) rfl rfl ?_;refine A0 aV ?_;refine qah ?_;refine A0 zbh ?_;refine Sp (d:=13) (p:=tgtE bits<3) (fun g13=>?_) (fun g13=>?_)
 ·
  refine qar ?_;refine qaX ?_;refine qaw ?_;refine qcc ?_;refine Ct ?_;refine CQR ?_;refine A0 (zaA rfl zag zcO rfl) ?_;refine qcf ?_
  exact zF rfl rfl (zw rfl rfl zZ (by unfold tgtW;rw [if_neg (by unfold tgtOk;rw [decide_eq_true_eq];omega)])) (zac (za rfl (by unfold tgtOk;symm;apply decide_eq_false;omega)))
 ·
  refine qar ?_;refine A1 mV ?_;refine A1 zbb ?_;refine Sp (d:=16) (p:=32<tgtE bits) (fun g16=>?_) (fun g16=>?_)
  ·
   refine qaw ?_;refine qaX ?_;refine qaq ?_;refine Ct ?_;refine CQR ?_;refine A0 (zaA rfl zag zcO rfl) ?_;refine qcf ?_
   exact zF rfl rfl (zw rfl rfl zZ (by unfold tgtW;rw [if_neg (by unfold tgtOk;rw [decide_eq_true_eq];omega)])) (zac (za rfl (by unfold tgtOk;symm;apply decide_eq_false;omega)))
  ·
   refine qaw ?_;refine A1 mV ?_;refine A1 zbh ?_;refine zaa (d:=20) (p:=(tgtM bits).toNat<32768) rfl (by rw [decide_eq_decide];show ((tgtM bits).toNat:Int)<(32768:Int)↔_;omega) (fun g20=>?_) (fun g20=>?_)
   ·
    refine qaw ?_;refine qcc ?_;refine Ct ?_;refine CQR ?_;refine A0 (zaA rfl zag zcO rfl) ?_;refine qcf ?_
    exact zF rfl rfl (zw rfl rfl zZ (by unfold tgtW;rw [if_neg (by unfold tgtOk;rw [decide_eq_true_eq];omega)])) (zac (za rfl (by unfold tgtOk;symm;apply decide_eq_false;omega)))
   ·
    refine qaw ?_;refine A1 mV ?_;refine A1 zez ?_;refine zaa (d:=24) (p:=8388608≤(tgtM bits).toNat) rfl (by rw [decide_eq_decide];show (8388608:Int)≤((tgtM bits).toNat:Int)↔_;omega) (fun g24=>?_) (fun g24=>?_)
    ·
     refine qaq ?_;refine Ct ?_;refine CQR ?_;refine A0 (zaA rfl zag zcO rfl) ?_;refine qcf ?_
     exact zF rfl rfl (zw rfl rfl zZ (by unfold tgtW;rw [if_neg (by unfold tgtOk;rw [decide_eq_true_eq];omega)])) (zac (za rfl (by unfold tgtOk;symm;apply decide_eq_false;omega)))
    ·
     refine qaq ?_;refine Cg ?_;refine qbG ?_;refine A0 (oCl (ofW_ok _) rfl fn_126 ⟨(zd rfl),trivial⟩) ?_;refine qby ?_;refine A0 zfc ?_;refine A0 (oCl (upW_ok _ _) rfl fn_125 ⟨(zd rfl),(zd rfl),trivial⟩) ?_;refine qcf ?_
     exact zF rfl rfl (zw rfl rfl zZ (by unfold tgtW;rw [if_pos (by unfold tgtOk;rw [decide_eq_true_eq];omega)])) (zac (za rfl (by unfold tgtOk;symm;apply decide_eq_true;omega)))
set_option maxRecDepth 20000
theorem ext_Add64:ExtAt P 225 add64E:=⟨_,rfl,rfl,rfl,rfl,rfl⟩
theorem ext_Sub64:ExtAt P 280 sub64E:=⟨_,rfl,rfl,rfl,rfl,rfl⟩
def carryN (f g:UInt64→UInt64→UInt64→UInt64) (a b:Wide) (k:Nat):Wide×UInt64:=(List.range k).foldl (fun x i=>(x.1.set i (f (x.1.getD i default) (b.getD i default) x.2),g (x.1.getD i default) (b.getD i default) x.2)) (a,0)
theorem zdj {f g:UInt64→UInt64→UInt64→UInt64} {a b:Wide} {k:Nat}:carryN f g a b (k+1)=((carryN f g a b k).1.set k (f ((carryN f g a b k).1.getD k default) (b.getD k default) (carryN f g a b k).2),g ((carryN f g a b k).1.getD k default) (b.getD k default) (carryN f g a b k).2):=by unfold carryN;rw [zbZ]
def addW (a b:Wide):Wide:=(carryN addS addC a b 4).1
def addOk (a b:Wide):Bool:=decide ((carryN addS addC a b 4).2.toNat=0)
def subW (a b:Wide):Wide:=(carryN subS subC a b 4).1
def subOk (a b:Wide):Bool:=decide ((carryN subS subC a b 4).2.toNat=0)
theorem carryAdd_ok (a b:Wide):Tells P 224 [.val wideT a,.val wideT b,.clo 225 []] (.tup2 (.val wideT (carryN addS addC a b 4).1) (.val boolT (decide ((carryN addS addC a b 4).2.toNat=0)))):=by
 refine zc Tryz.func224 rfl rfl rfl (fun ext w hext=>?_)
 refine qav ?_;refine qas ?_;refine qai ?_;refine qah ?_;refine CNB ?_;refine Lp (ι:=Nat) 3 (fun (k:Nat)=>((((((Fr.none).set 2 (.clo 225 [])).set 3 (.ptr 0 0)).set 4 (.ptr 1 0)).set 6 (.ptr 2 0)).set 8 (.val u64T (carryN addS addC a b k).2)).set 10 (.val i64T (k:Int))) (fun (k:Nat)=>(((Hp.none).set 0 (.box 35 wideT (carryN addS addC a b k).1)).set 1 (.box 35 wideT b)).set 2 (.box 35 wideT zWide)) (fun (k:Nat)=>k≤4∧(carryN addS addC a b k).2.toNat≤1) (fun (k:Nat)=>4-k) (0) (⟨Nat.zero_le _,Nat.zero_le 1⟩) ?_
 intro k hinv
 refine qao ?_;refine Cf (p:=k<4) (fun ht11=>?_) (fun ht11=>?_)
 ·
  refine qaL ?_;refine qab ?_;refine zx [some 1,some 1,some 1,some 1,some 1,some 1,some 1,some 1,some 1,some 1,some 1,some 1,some 1000001,some 1,none,some 1] mixed (by decide +kernel) ?_;refine X0 mV ?_;refine X0 mC ?_;refine X0 mV ?_;refine X0 (zt (i:=k) rfl rfl rfl (by first|omega|rfl) zag (by omega)) ?_;refine X0 (zl rfl rfl rfl (Lens.elem (i:=k) (by omega) u64T) zav) ?_;refine X0 mV ?_;refine X0 (zt (i:=k) rfl rfl rfl (by first|omega|rfl) zag (by omega)) ?_;refine X0 (zl rfl rfl rfl (Lens.elem (i:=k) (by omega) u64T) zav) ?_;refine X0 mV ?_
  refine X0 (g_ext3 rfl ext_Add64 rfl rfl rfl rfl (fun P w=>Go.Ab.run_add64 P w _ _ hinv.2)) ?_;refine X0 mX ?_;refine X0 (by first|exact zW rfl rfl|exact zU rfl rfl) ?_;refine XK.ga (fun _=>by first|exact zY rfl rfl|exact zX rfl rfl) rfl rfl rfl ?_;refine X0 (zt (i:=k) rfl rfl rfl (by first|omega|rfl) zag (by omega)) ?_;refine XK.e (x:=.idk) (fun fr' hfr kk H=>by exact zh rfl rfl rfl ((hfr 26 (by decide +kernel)).trans rfl) rfl (Lens.elem (i:=k) (by omega) u64T) zav ((hfr 24 (by decide +kernel)).trans rfl) (zz H)) ?_;refine X0 aX ?_;refine qaQ ?_;refine qal ?_
  refine zD (n:=0) (y:=(carryN addS addC a b (k+1)).1) rfl (by rw [zdj]) ?_;refine zp (d:=8) (y:=(carryN addS addC a b (k+1)).2) rfl (by rw [zdj]) ?_
  exact Nx (k+1) (⟨by omega,by rw [zdj];exact addC_le _ _ hinv.2⟩) (by omega)
 ·
  obtain rfl:k=4:=(by omega)
  refine qbM ?_;refine qau ?_;refine qar ?_;refine A0 zbU ?_;refine qcf ?_
  exact zF rfl rfl (zw rfl rfl zZ (rfl)) (zac (za rfl (by rw [decide_eq_decide];show ((_:Nat):Int)=(0:Int)↔_;omega)))
theorem carrySub_ok (a b:Wide):Tells P 224 [.val wideT a,.val wideT b,.clo 280 []] (.tup2 (.val wideT (carryN subS subC a b 4).1) (.val boolT (decide ((carryN subS subC a b 4).2.toNat=0)))):=by
 refine zc Tryz.func224 rfl rfl rfl (fun ext w hext=>?_)
 refine qav ?_;refine qas ?_;refine qai ?_;refine qah ?_;refine CNB ?_;refine Lp (ι:=Nat) 3 (fun (k:Nat)=>((((((Fr.none).set 2 (.clo 280 [])).set 3 (.ptr 0 0)).set 4 (.ptr 1 0)).set 6 (.ptr 2 0)).set 8 (.val u64T (carryN subS subC a b k).2)).set 10 (.val i64T (k:Int))) (fun (k:Nat)=>(((Hp.none).set 0 (.box 35 wideT (carryN subS subC a b k).1)).set 1 (.box 35 wideT b)).set 2 (.box 35 wideT zWide)) (fun (k:Nat)=>k≤4∧(carryN subS subC a b k).2.toNat≤1) (fun (k:Nat)=>4-k) (0) (⟨Nat.zero_le _,Nat.zero_le 1⟩) ?_
 intro k hinv
 refine qao ?_;refine Cf (p:=k<4) (fun ht11=>?_) (fun ht11=>?_)
 ·
  refine qaL ?_;refine qab ?_;refine zx [some 1,some 1,some 1,some 1,some 1,some 1,some 1,some 1,some 1,some 1,some 1,some 1,some 1000001,some 1,none,some 1] mixed (by decide +kernel) ?_;refine X0 mV ?_;refine X0 mC ?_;refine X0 mV ?_;refine X0 (zt (i:=k) rfl rfl rfl (by first|omega|rfl) zag (by omega)) ?_;refine X0 (zl rfl rfl rfl (Lens.elem (i:=k) (by omega) u64T) zav) ?_;refine X0 mV ?_;refine X0 (zt (i:=k) rfl rfl rfl (by first|omega|rfl) zag (by omega)) ?_;refine X0 (zl rfl rfl rfl (Lens.elem (i:=k) (by omega) u64T) zav) ?_;refine X0 mV ?_
  refine X0 (g_ext3 rfl ext_Sub64 rfl rfl rfl rfl (fun P w=>Go.Ab.run_sub64 P w _ _ hinv.2)) ?_;refine X0 mX ?_;refine X0 (by first|exact zW rfl rfl|exact zU rfl rfl) ?_;refine XK.ga (fun _=>by first|exact zY rfl rfl|exact zX rfl rfl) rfl rfl rfl ?_;refine X0 (zt (i:=k) rfl rfl rfl (by first|omega|rfl) zag (by omega)) ?_;refine XK.e (x:=.idk) (fun fr' hfr kk H=>by exact zh rfl rfl rfl ((hfr 26 (by decide +kernel)).trans rfl) rfl (Lens.elem (i:=k) (by omega) u64T) zav ((hfr 24 (by decide +kernel)).trans rfl) (zz H)) ?_;refine X0 aX ?_;refine qaQ ?_;refine qal ?_
  refine zD (n:=0) (y:=(carryN subS subC a b (k+1)).1) rfl (by rw [zdj]) ?_;refine zp (d:=8) (y:=(carryN subS subC a b (k+1)).2) rfl (by rw [zdj]) ?_
  exact Nx (k+1) (⟨by omega,by rw [zdj];exact subC_le _ _ _⟩) (by omega)
 ·
  obtain rfl:k=4:=(by omega)
  refine qbM ?_;refine qau ?_;refine qar ?_;refine A0 zbU ?_;refine qcf ?_
  exact zF rfl rfl (zw rfl rfl zZ (rfl)) (zac (za rfl (by rw [decide_eq_decide];show ((_:Nat):Int)=(0:Int)↔_;omega)))
theorem addW_ok (a b:Wide):Tells P 188 [.val wideT a,.val wideT b] (.tup2 (.val wideT (addW a b)) (.val boolT (addOk a b))):=by
 refine zc Tryz.func188 rfl rfl rfl (fun ext w hext=>?_)
 refine qav ?_;refine qas ?_;refine qai ?_;refine qck ?_;refine A0 (oCl (carryAdd_ok a b) rfl fn_224 ⟨(zd rfl),(zd rfl),(by first|exact zc4 (Cs:=[]) rfl fn_225 (by intro n hn;cases hn) trivial rfl (fun x=>no_contract_of_math_bits_Add64)|exact zc3 (Cs:=[]) rfl fn_225 (by intro n hn;cases hn) trivial rfl (fun x y=>no_contract_of_math_bits_Add64)|exact zc5 rfl),trivial⟩) ?_;refine A0 (by first|exact zW rfl rfl|exact zU rfl rfl) ?_;refine A0 (by first|exact zY rfl rfl|exact zX rfl rfl) ?_;refine qcf ?_
 exact zF rfl rfl (zw rfl rfl zZ (rfl)) (zac (za rfl (rfl)))
theorem subW_ok (a b:Wide):Tells P 256 [.val wideT a,.val wideT b] (.tup2 (.val wideT (subW a b)) (.val boolT (subOk a b))):=by
 refine zc Tryz.func256 rfl rfl rfl (fun ext w hext=>?_)
 refine qav ?_;refine qas ?_;refine qai ?_;refine qck ?_;refine A0 (oCl (carrySub_ok a b) rfl fn_224 ⟨(zd rfl),(zd rfl),(by first|exact zc4 (Cs:=[]) rfl fn_280 (by intro n hn;cases hn) trivial rfl (fun x=>no_contract_of_math_bits_Sub64)|exact zc3 (Cs:=[]) rfl fn_280 (by intro n hn;cases hn) trivial rfl (fun x y=>no_contract_of_math_bits_Sub64)|exact zc5 rfl),trivial⟩) ?_;refine A0 (by first|exact zW rfl rfl|exact zU rfl rfl) ?_;refine A0 (by first|exact zY rfl rfl|exact zX rfl rfl) ?_;refine qcf ?_
 exact zF rfl rfl (zw rfl rfl zZ (rfl)) (zac (za rfl (rfl)))
set_option maxRecDepth 20000
def bitLen (n:Nat):Nat:=if n=0 then 0 else Nat.log2 n+1
theorem bitLen_shift {n s:Nat} (h:2^s≤n):bitLen n=s+bitLen (n/2^s):=by
  have hp:=Nat.two_pow_pos s
  have h1:1≤n/2^s:=(Nat.le_div_iff_mul_le hp).2 (by omega)
  unfold bitLen
  rw [if_neg (by omega),if_neg (by omega)]
  obtain ⟨k,hk⟩:∃k,k=Nat.log2 (n/2^s):=⟨_,rfl⟩
  have h2:=(Nat.log2_eq_iff (n:=n/2^s) (k:=k) (by omega)).1 hk.symm
  have h3:Nat.log2 n=k+s:=by
    rw [Nat.log2_eq_iff (by omega)]
    constructor
    · rw [Nat.pow_add];exact (Nat.le_div_iff_mul_le hp).1 h2.1
    · rw [show k+s+1=k+1+s by omega,Nat.pow_add];exact (Nat.div_lt_iff_lt_mul hp).1 h2.2
  rw [h3,←hk];omega
theorem zeZ {n s:Nat} (h:n<2^s):bitLen n≤s:=by
  unfold bitLen
  split
  · omega
  · rename_i h0
    have:=(Nat.log2_lt h0).2 h
    omega
theorem zaP (x:UInt64) {m:Nat} (h:m≤64):(shr64 x m).toNat=x.toNat/2^m:=by
  have hx:x.toNat<18446744073709551616:=x.toNat_lt
  unfold shr64
  rw [UInt64.toNat_ofNat_of_lt' (Nat.lt_of_le_of_lt (Nat.div_le_self _ _) hx),Nat.min_eq_left h]
theorem u8_small {x:UInt64} (h:x.toNat<256):(u8OfI (IntL.toI u64T x)).toNat=x.toNat:=by
  unfold u8OfI
  show (UInt8.ofNat ((x.toNat:Int)%256).toNat).toNat=x.toNat
  rw [UInt8.toNat_ofNat_of_lt' (by show _<256;omega)];omega
theorem len_small {x:UInt64} (h:x.toNat<256):IntL.toI u8T (UInt8.ofNat (bitLen (u8OfI (IntL.toI u64T x)).toNat))=bitLen x.toNat:=by
  have:=zeZ (s:=8) (n:=x.toNat) (by omega)
  rw [u8_small h]
  show ((UInt8.ofNat (bitLen x.toNat)).toNat:Int)=_
  rw [UInt8.toNat_ofNat_of_lt' (by show _<256;omega)]
theorem len_fin {x y:UInt64} {b:Int} {s:Nat} (hy:y.toNat<256) (hx:bitLen x.toNat=s+bitLen y.toNat) (hs:s≤64) (hb:b=(s:Int)):IntKind.i64.wrap (b+IntKind.i64.wrap (IntL.toI u8T (UInt8.ofNat (bitLen (u8OfI (IntL.toI u64T y)).toNat))))=(bitLen x.toNat:Nat):=by
  have:=zeZ (s:=8) (n:=y.toNat) (by omega)
  rw [len_small hy,zai (n:=((bitLen y.toNat:Nat):Int)) (by omega),zai (by omega),hx,hb];omega
theorem zcy {x:UInt64} {s:Nat} (hs:s≤64) (h:2^s≤x.toNat):bitLen x.toNat=s+bitLen (shr64 x s).toNat:=by
  rw [zaP x hs];exact bitLen_shift h
theorem len64_ok (x:UInt64):Tells P 140 [.val u64T x] (.val i64T (bitLen x.toNat:Nat)):=by
 refine zc Tryz.func140 rfl rfl rfl (fun ext w hext=>?_)
 refine CQR ?_;refine qah ?_;refine qbk ?_;refine zj (p:=4294967296≤(x).toNat) rfl (by rw [decide_eq_decide];show (4294967296:Int)≤((x).toNat:Int)↔_;omega) (fun ht4=>?_) (fun ht4=>?_)
 ·
  refine qa2 ?_;refine A0 (zbP rfl rfl rfl (by first|decide|(simp [IntL.toI];done)|(simp [IntL.toI];omega)) rfl) ?_;refine qb2 ?_;refine qah ?_;refine qbk ?_;refine zj (p:=65536≤(shr64 x 32).toNat) rfl (by rw [decide_eq_decide];show (65536:Int)≤((shr64 x 32).toNat:Int)↔_;omega) (fun ht8=>?_) (fun ht8=>?_)
  ·
   refine qa2 ?_;refine A0 (zbP rfl rfl rfl (by first|decide|(simp [IntL.toI];done)|(simp [IntL.toI];omega)) rfl) ?_;refine qb2 ?_;refine qar ?_;refine A0 zaG ?_;refine qah ?_;refine qbk ?_;refine zj (p:=256≤(shr64 (shr64 x 32) 16).toNat) rfl (by rw [decide_eq_decide];show (256:Int)≤((shr64 (shr64 x 32) 16).toNat:Int)↔_;omega) (fun ht14=>?_) (fun ht14=>?_)
   ·
    refine qa2 ?_;refine A0 (zbP rfl rfl rfl (by first|decide|(simp [IntL.toI];done)|(simp [IntL.toI];omega)) rfl) ?_;refine qb2 ?_;refine qar ?_;refine A0 zaG ?_;refine qb7 ?_;refine A0 (zcU rfl (ui_5) (us_33) rfl) ?_;refine A0 (zcL (fun n=>UInt8.ofNat (bitLen n)) rfl rfl st_9 (by decide +kernel)) ?_;refine A0 (g_cvi rfl (ui_3) (us_5) rfl (by first|exact zai (by omega)|rfl)) ?_;refine A0 zaG ?_;refine qab ?_
    exact zb rfl rfl (za rfl (len_fin (y:=shr64 (shr64 (shr64 x 32) 16) 8) (s:=56) (by have hlt:x.toNat<18446744073709551616:=x.toNat_lt;(try simp only [zaP _ (show 32≤64 by decide),zaP _ (show 16≤64 by decide),zaP _ (show 8≤64 by decide)] at *);omega) (by rw [zcy (s:=32) (by decide) ht4,zcy (s:=16) (by decide) ht8,zcy (s:=8) (by decide) ht14];omega) (by decide) (by rfl)))
   ·
    refine qcl ?_;refine A0 (zcU rfl (ui_5) (us_33) rfl) ?_;refine A0 (zcL (fun n=>UInt8.ofNat (bitLen n)) rfl rfl st_9 (by decide +kernel)) ?_;refine A0 (g_cvi rfl (ui_3) (us_5) rfl (by first|exact zai (by omega)|rfl)) ?_;refine A0 zaG ?_;refine qab ?_
    exact zb rfl rfl (za rfl (len_fin (y:=shr64 (shr64 x 32) 16) (s:=48) (by have hlt:x.toNat<18446744073709551616:=x.toNat_lt;(try simp only [zaP _ (show 32≤64 by decide),zaP _ (show 16≤64 by decide),zaP _ (show 8≤64 by decide)] at *);omega) (by rw [zcy (s:=32) (by decide) ht4,zcy (s:=16) (by decide) ht8];omega) (by decide) (by rfl)))
  ·
   refine qbO ?_;refine qbk ?_;refine zj (p:=256≤(shr64 x 32).toNat) rfl (by rw [decide_eq_decide];show (256:Int)≤((shr64 x 32).toNat:Int)↔_;omega) (fun ht14=>?_) (fun ht14=>?_)
   ·
    refine qa2 ?_;refine A0 (zbP rfl rfl rfl (by first|decide|(simp [IntL.toI];done)|(simp [IntL.toI];omega)) rfl) ?_;refine qb2 ?_;refine qar ?_;refine A0 zaG ?_;refine qb7 ?_;refine A0 (zcU rfl (ui_5) (us_33) rfl) ?_;refine A0 (zcL (fun n=>UInt8.ofNat (bitLen n)) rfl rfl st_9 (by decide +kernel)) ?_;refine A0 (g_cvi rfl (ui_3) (us_5) rfl (by first|exact zai (by omega)|rfl)) ?_;refine A0 zaG ?_;refine qab ?_
    exact zb rfl rfl (za rfl (len_fin (y:=shr64 (shr64 x 32) 8) (s:=40) (by have hlt:x.toNat<18446744073709551616:=x.toNat_lt;(try simp only [zaP _ (show 32≤64 by decide),zaP _ (show 16≤64 by decide),zaP _ (show 8≤64 by decide)] at *);omega) (by rw [zcy (s:=32) (by decide) ht4,zcy (s:=8) (by decide) ht14];omega) (by decide) (by rfl)))
   ·
    refine qcl ?_;refine A0 (zcU rfl (ui_5) (us_33) rfl) ?_;refine A0 (zcL (fun n=>UInt8.ofNat (bitLen n)) rfl rfl st_9 (by decide +kernel)) ?_;refine A0 (g_cvi rfl (ui_3) (us_5) rfl (by first|exact zai (by omega)|rfl)) ?_;refine A0 zaG ?_;refine qab ?_
    exact zb rfl rfl (za rfl (len_fin (y:=shr64 x 32) (s:=32) (by have hlt:x.toNat<18446744073709551616:=x.toNat_lt;(try simp only [zaP _ (show 32≤64 by decide),zaP _ (show 16≤64 by decide),zaP _ (show 8≤64 by decide)] at *);omega) (zcy (s:=32) (by decide) ht4) (by decide) (by rfl)))
 ·
  refine qbO ?_;refine qbk ?_;refine zj (p:=65536≤(x).toNat) rfl (by rw [decide_eq_decide];show (65536:Int)≤((x).toNat:Int)↔_;omega) (fun ht8=>?_) (fun ht8=>?_)
  ·
   refine qa2 ?_;refine A0 (zbP rfl rfl rfl (by first|decide|(simp [IntL.toI];done)|(simp [IntL.toI];omega)) rfl) ?_;refine qb2 ?_;refine qar ?_;refine A0 zaG ?_;refine qah ?_;refine qbk ?_;refine zj (p:=256≤(shr64 x 16).toNat) rfl (by rw [decide_eq_decide];show (256:Int)≤((shr64 x 16).toNat:Int)↔_;omega) (fun ht14=>?_) (fun ht14=>?_)
   ·
    refine qa2 ?_;refine A0 (zbP rfl rfl rfl (by first|decide|(simp [IntL.toI];done)|(simp [IntL.toI];omega)) rfl) ?_;refine qb2 ?_;refine qar ?_;refine A0 zaG ?_;refine qb7 ?_;refine A0 (zcU rfl (ui_5) (us_33) rfl) ?_;refine A0 (zcL (fun n=>UInt8.ofNat (bitLen n)) rfl rfl st_9 (by decide +kernel)) ?_;refine A0 (g_cvi rfl (ui_3) (us_5) rfl (by first|exact zai (by omega)|rfl)) ?_;refine A0 zaG ?_;refine qab ?_
    exact zb rfl rfl (za rfl (len_fin (y:=shr64 (shr64 x 16) 8) (s:=24) (by have hlt:x.toNat<18446744073709551616:=x.toNat_lt;(try simp only [zaP _ (show 32≤64 by decide),zaP _ (show 16≤64 by decide),zaP _ (show 8≤64 by decide)] at *);omega) (by rw [zcy (s:=16) (by decide) ht8,zcy (s:=8) (by decide) ht14];omega) (by decide) (by rfl)))
   ·
    refine qcl ?_;refine A0 (zcU rfl (ui_5) (us_33) rfl) ?_;refine A0 (zcL (fun n=>UInt8.ofNat (bitLen n)) rfl rfl st_9 (by decide +kernel)) ?_;refine A0 (g_cvi rfl (ui_3) (us_5) rfl (by first|exact zai (by omega)|rfl)) ?_;refine A0 zaG ?_;refine qab ?_
    exact zb rfl rfl (za rfl (len_fin (y:=shr64 x 16) (s:=16) (by have hlt:x.toNat<18446744073709551616:=x.toNat_lt;(try simp only [zaP _ (show 32≤64 by decide),zaP _ (show 16≤64 by decide),zaP _ (show 8≤64 by decide)] at *);omega) (zcy (s:=16) (by decide) ht8) (by decide) (by rfl)))
  ·
   refine qbO ?_;refine qbk ?_;refine zj (p:=256≤(x).toNat) rfl (by rw [decide_eq_decide];show (256:Int)≤((x).toNat:Int)↔_;omega) (fun ht14=>?_) (fun ht14=>?_)
   ·
    refine qa2 ?_;refine A0 (zbP rfl rfl rfl (by first|decide|(simp [IntL.toI];done)|(simp [IntL.toI];omega)) rfl) ?_;refine qb2 ?_;refine qar ?_;refine A0 zaG ?_;refine qb7 ?_;refine A0 (zcU rfl (ui_5) (us_33) rfl) ?_;refine A0 (zcL (fun n=>UInt8.ofNat (bitLen n)) rfl rfl st_9 (by decide +kernel)) ?_;refine A0 (g_cvi rfl (ui_3) (us_5) rfl (by first|exact zai (by omega)|rfl)) ?_;refine A0 zaG ?_;refine qab ?_
    exact zb rfl rfl (za rfl (len_fin (y:=shr64 x 8) (s:=8) (by have hlt:x.toNat<18446744073709551616:=x.toNat_lt;(try simp only [zaP _ (show 32≤64 by decide),zaP _ (show 16≤64 by decide),zaP _ (show 8≤64 by decide)] at *);omega) (zcy (s:=8) (by decide) ht14) (by decide) (by rfl)))
   ·
    refine qcl ?_;refine A0 (zcU rfl (ui_5) (us_33) rfl) ?_;refine A0 (zcL (fun n=>UInt8.ofNat (bitLen n)) rfl rfl st_9 (by decide +kernel)) ?_;refine A0 (g_cvi rfl (ui_3) (us_5) rfl (by first|exact zai (by omega)|rfl)) ?_;refine A0 zaG ?_;refine qab ?_
    exact zb rfl rfl (za rfl (len_fin (y:=x) (s:=0) (by have hlt:x.toNat<18446744073709551616:=x.toNat_lt;(try simp only [zaP _ (show 32≤64 by decide),zaP _ (show 16≤64 by decide),zaP _ (show 8≤64 by decide)] at *);omega) ((Nat.zero_add _).symm) (by decide) (by rfl)))
theorem lenU_ok (x:UInt64):Tells P 82 [.val u64T x] (.val i64T (bitLen x.toNat:Nat)):=by
 refine zc Tryz.func82 rfl rfl rfl (fun ext w hext=>?_)
 refine CQR ?_;refine qaA ?_;refine Cg ?_;refine qbG ?_;refine A0 (oCl (len64_ok _) rfl fn_140 ⟨(zd rfl),trivial⟩) ?_;refine qab ?_
 exact zb rfl rfl (za rfl rfl)
set_option maxRecDepth 20000
def longN (a:Wide):Nat→Nat
  | 0=>0
  | k+1=>if 0<(a.getD k default).toNat then k*64+bitLen (a.getD k default).toNat else longN a k
def longW (a:Wide):Nat:=longN a 4
theorem longN_yes {a:Wide} {k:Nat} (hk:0<k) (h:0<(a.getD (k-1) default).toNat):longN a k=(k-1)*64+bitLen (a.getD (k-1) default).toNat:=by
  obtain ⟨j,rfl⟩:∃j,k=j+1:=⟨k-1,by omega⟩
  rw [Nat.add_sub_cancel] at *
  rw [longN,if_pos h]
theorem longN_no {a:Wide} {k:Nat} (hk:0<k) (h:¬0<(a.getD (k-1) default).toNat):longN a k=longN a (k-1):=by
  obtain ⟨j,rfl⟩:∃j,k=j+1:=⟨k-1,by omega⟩
  rw [Nat.add_sub_cancel] at *
  rw [longN,if_neg h]
theorem longN_le (a:Wide):∀k,longN a k≤k*64
  | 0=>Nat.le_refl _
  | k+1=>by
    have:=longN_le a k
    have hb:=zeZ (s:=64) (n:=(a.getD k default).toNat) (UInt64.toNat_lt _)
    rw [longN]
    split<;>omega
theorem longW_le (a:Wide):longW a≤256:=longN_le a 4
theorem bitLen_pos {n:Nat} (h:0<n):1≤bitLen n:=by unfold bitLen;rw [if_neg (by omega)];omega
theorem longW_pos {a:Wide} (hl:a.length=4) (h:a≠zWide):1≤longW a:=by
  match a,hl with
  | [a0,a1,a2,a3],_ =>
    unfold longW
    simp only [longN,List.getD_cons_succ,List.getD_cons_zero]
    have hp:∀x:UInt64,0<x.toNat→1≤bitLen x.toNat:=fun x hx=>bitLen_pos hx
    have hz:∀x:UInt64,¬0<x.toNat→x=0:=fun x hx=>UInt64.toNat_inj.1 (by simp;omega)
    split
    · have:=hp _ ‹_›;omega
    · split
      · have:=hp _ ‹_›;omega
      · split
        · have:=hp _ ‹_›;omega
        · split
          · have:=hp _ ‹_›;omega
          · exact absurd (by rw [hz a0 ‹_›,hz a1 ‹_›,hz a2 ‹_›,hz a3 ‹_›];rfl) h
def orBit (out:Wide) (n:Nat):Wide:=out.set (n/64) (out.getD (n/64) default|||shl64 1 (n%64))
def divStep (b:Wide) (x:Wide×Wide) (n:Nat):Wide×Wide:=if subOk x.1 (upW b n)=true then (subW x.1 (upW b n),orBit x.2 n) else x
def divN (b:Wide):Nat→Wide×Wide→Wide×Wide
  | 0,x=>x
  | n+1,x=>divN b n (divStep b x n)
theorem divN_at {b:Wide} {n:Int} (h:0≤n) (x:Wide×Wide):divN b (n+1).toNat x=divN b (n-1+1).toNat (divStep b x n.toNat):=by
  rw [show (n+1).toNat=n.toNat+1 by omega,show (n-1+1).toNat=n.toNat by omega,divN]
def divP (a b:Wide):Wide×Wide:=if b=zWide then (zWide,zWide) else ((divN b (longW a+1-longW b) (a,zWide)).2,(divN b (longW a+1-longW b) (a,zWide)).1)
def divW (a b:Wide):Wide:=(divP a b).1
def remW (a b:Wide):Wide:=(divP a b).2
def divOk (b:Wide):Bool:=decide (b≠zWide)
theorem longW_ok (a:Wide):Tells P 255 [.val wideT a] (.val i64T (longW a:Nat)):=by
 refine zc Tryz.func255 rfl rfl rfl (fun ext w hext=>?_)
 refine ze (d:=0) rfl zaw (fun ha=>?_)
 refine qad ?_;refine qbr ?_;refine Lp (ι:=Nat) 1 (fun (k:Nat)=>((Fr.none).set 1 (.ptr 0 0)).set 3 (.val i64T ((k:Int)-1))) (fun (k:Nat)=>(Hp.none).set 0 (.box 35 wideT a)) (fun (k:Nat)=>k≤4∧longW a=longN a k) (fun (k:Nat)=>k) (4) (⟨Nat.le_refl _,rfl⟩) ?_
 intro k hinv
 refine qa9 ?_;refine qbk ?_;refine Cf (p:=0<k) (fun ht5=>?_) (fun ht5=>?_)
 ·
  refine qaL ?_;refine A0 (zt (i:=k-1) rfl rfl rfl (by first|omega|rfl) zag (by omega)) ?_;refine A0 (zl rfl rfl rfl (Lens.elem (i:=k-1) (by omega) u64T) zav) ?_;refine qcb ?_;refine zj (p:=0<(a.getD (k-1) default).toNat) rfl (by rw [decide_eq_decide];show (0:Int)<((a.getD (k-1) default).toNat:Int)↔_;omega) (fun ht11=>?_) (fun ht11=>?_)
  ·
   have hb:=zeZ (s:=64) (n:=(a.getD (k-1) default).toNat) (UInt64.toNat_lt _)
   refine qa2 ?_;refine A0 zfc ?_;refine qar ?_;refine A0 (zt (i:=k-1) rfl rfl rfl (by first|omega|rfl) zag (by omega)) ?_;refine A0 (zl rfl rfl rfl (Lens.elem (i:=k-1) (by omega) u64T) zav) ?_;refine A0 (oCl (len64_ok _) rfl fn_140 ⟨(zd rfl),trivial⟩) ?_;refine A0 zaG ?_;refine qab ?_
   exact zb rfl rfl (za rfl (by rw [hinv.2,longN_yes ht5 ht11];omega))
  ·
   refine CSIR ?_;refine qby ?_;refine qab ?_;refine zp (d:=3) (y:=((k-1:Nat):Int)-1) rfl (by omega) ?_
   exact Nx (k-1) (⟨by omega,by rw [hinv.2,longN_no ht5 ht11]⟩) (by omega)
 ·
  obtain rfl:k=0:=(by omega)
  refine qbE ?_
  exact zb rfl rfl (za rfl (by rw [hinv.2];rfl))
theorem divW_ok (a b:Wide):Tells P 226 [.val wideT a,.val wideT b] (.tup3 (.val wideT (divW a b)) (.val wideT (remW a b)) (.val boolT (divOk b))):=by
 refine zc Tryz.func226 rfl rfl rfl (fun ext w hext=>?_)
 refine ze (d:=0) rfl zaw (fun ha=>?_)
 refine ze (d:=1) rfl zaw (fun hb=>?_)
 refine qav ?_;refine qas ?_;refine qas ?_;refine qbB ?_;refine qau ?_;refine A0 (zaA rfl zag zcO rfl) ?_;refine A0 (zcM rfl rfl rfl (eqt_35)) ?_;refine CN ?_;refine zj (p:=b=zWide) rfl (by simp) (fun ht13=>?_) (fun ht13=>?_)
 ·
  refine CQR ?_;refine A0 (zaA rfl zag zcO rfl) ?_;refine A0 (zaA rfl zag zcO rfl) ?_;refine qae ?_;refine qcf ?_
  exact zfq rfl rfl (zw rfl rfl zZ (by unfold divW divP;rw [if_pos ht13])) (zw rfl rfl zZ (by unfold remW divP;rw [if_pos ht13])) (zac (za rfl (by unfold divOk;symm;exact decide_eq_false (fun h=>h ht13))))
 ·
  have hz:=longW_pos hb ht13
  have hla:=longW_le a
  have hlb:=longW_le b
  refine CSQR ?_;refine qas ?_;refine CNQ ?_;refine qa0 ?_;refine G0 (oLs rfl rfl rfl zZ) ?_;refine G0 (oCl (longW_ok _) rfl fn_255 ⟨(zd rfl),trivial⟩) ?_;refine G0 (oLs rfl rfl rfl zZ) ?_;refine G0 (oCl (longW_ok _) rfl fn_255 ⟨(zd rfl),trivial⟩) ?_;refine G0 zay ?_;refine qa3 ?_;refine CB ?_
  refine Lp (ι:=Int×Wide×Wide) 5 (fun (i:Int×Wide×Wide)=>match i with|(n,x)=>((((((Fr.none).set 2 (.ptr 0 0)).set 3 (.ptr 1 0)).set 4 (.ptr 2 0)).set 5 (.ptr 3 0)).set 7 (.ptr 4 0)).set 8 (.val i64T n)) (fun (i:Int×Wide×Wide)=>match i with|(n,x)=>(((((Hp.none).set 0 (.box 35 wideT x.1)).set 1 (.box 35 wideT b)).set 2 (.box 35 wideT zWide)).set 3 (.box 35 wideT zWide)).set 4 (.box 35 wideT x.2)) (fun (i:Int×Wide×Wide)=>match i with|(n,x)=>n≤255∧-256≤n∧x.2.length=4∧divN b (n+1).toNat x=divN b (longW a+1-longW b) (a,zWide)) (fun (i:Int×Wide×Wide)=>match i with|(n,x)=>(n+1).toNat) (((longW a:Int)-(longW b:Int),a,zWide)) (⟨by omega,by omega,rfl,by rw [show ((longW a:Int)-(longW b:Int)+1).toNat=longW a+1-longW b by omega]⟩) ?_
  intro ⟨n,x⟩ hinv
  dsimp only at hinv
  refine qa9 ?_;refine qbk ?_;refine Cf (p:=0≤n) (fun ht22=>?_) (fun ht22=>?_)
  ·
   refine qa4 ?_;refine CQ ?_;refine zx [some 1000001,some 1000001,some 1000001,some 1000001,some 1000001,some 1000001,some 1000001,some 1000001,none,none,some 1] mixed (by decide +kernel) ?_;refine XK.gf (t:=2) rfl rfl (fun _ he=>zl rfl rfl he (Lens.self _) zZ) ⟨rfl,trivial⟩ rfl rfl rfl ?_;refine XK.gf (t:=3) rfl rfl (fun _ he=>zl rfl rfl he (Lens.self _) zZ) ⟨rfl,trivial⟩ rfl rfl rfl ?_;refine XK.ga (fun _=>g_mv (.inl rfl) rfl) rfl rfl rfl ?_;refine XK.ga (fun _=>zb5 (upW_ok _ _) rfl fn_125 ⟨(zd rfl),(zd rfl),trivial⟩ rfl) rfl rfl rfl ?_
   refine XK.ga (fun _=>zb5 (subW_ok _ _) rfl fn_256 ⟨(zd rfl),(zd rfl),trivial⟩ rfl) rfl rfl rfl ?_;refine XK.ga (fun _=>by first|exact g_mv (.inl rfl) rfl|exact g_mp (.inl rfl) rfl|exact g_mo (.inl rfl) rfl|exact g_ml (.inl rfl) rfl|exact g_mc (.inl rfl) rfl|exact g_mr (.inl rfl) rfl|exact g_mf1 (.inl rfl) rfl|exact g_mf2 (.inl rfl) rfl|exact g_mw (.inl rfl) rfl|exact g_me (.inl rfl) rfl|exact g_ms (.inl rfl) rfl|exact zeR (.inl rfl) rfl|exact zeQ (.inl rfl) rfl|exact g_mi (.inl rfl) rfl) rfl rfl rfl ?_
   refine XK.ga (fun _=>by first|exact zW rfl rfl|exact zU rfl rfl) rfl rfl rfl ?_;refine XK.ga (fun _=>by first|exact zY rfl rfl|exact zX rfl rfl) rfl rfl rfl ?_;refine XK.e (fun fr' hfr kk H=>by exact zI zcO rfl rfl rfl rfl (zz H)) ?_;refine XK.e (x:=.idk) (fun fr' hfr kk H=>by exact zh rfl rfl rfl ((hfr 9 (by decide +kernel)).trans rfl) rfl (Lens.self _) zZ ((hfr 31 (by decide +kernel)).trans rfl) (zz H)) ?_;refine X0 aV ?_;refine XK.nilp ⟨⟨rfl,rfl,trivial⟩,⟨rfl,rfl,trivial⟩,trivial⟩ ?_;refine qa2 ?_;refine CN ?_
   refine zj (p:=subOk x.1 (upW b n)=true) rfl (by simp) (fun ht33=>?_) (fun ht33=>?_)
   ·
    refine qba ?_;refine zx [some 1,some 1,some 1,some 1,some 1,some 1,some 1,some 1,some 1,none] mixed (by decide +kernel) ?_;refine X0 mV ?_;refine X0 (g_quo rfl rfl rfl (by first|omega|assumption) (by first|decide|omega) rfl) ?_;refine X0 (zt (i:=n.toNat/64) rfl rfl rfl (by first|omega|rfl) zag (by omega)) ?_;refine X0 (zl rfl rfl rfl (Lens.elem (i:=n.toNat/64) (by omega) u64T) zav) ?_;refine X0 mV ?_;refine X0 (g_rem rfl rfl rfl (by first|omega|assumption) (by first|decide|omega) rfl) ?_
    refine X0 (g_shl64 rfl rfl rfl (by first|decide|(simp [IntL.toI];done)|(simp [IntL.toI];omega)) rfl) ?_;refine X0 (g_or64 rfl rfl rfl) ?_;refine X0 (zt (i:=n.toNat/64) rfl rfl rfl (by first|omega|rfl) zag (by omega)) ?_;refine XK.e (x:=.idk) (fun fr' hfr kk H=>by exact zh rfl rfl rfl ((hfr 43 (by decide +kernel)).trans rfl) rfl (Lens.elem (i:=n.toNat/64) (by omega) u64T) zav ((hfr 42 (by decide +kernel)).trans rfl) (zz H)) ?_;refine qaQ ?_;refine qby ?_;refine qab ?_
    refine zD (n:=4) (y:=orBit x.2 n.toNat) rfl (by unfold orBit;rw [show (IntL.toI i64T (n%64)).toNat=n.toNat%64 by simp only [IntL.toI,id_eq];omega];rfl) ?_
    exact Nx ((n-1,subW x.1 (upW b n),orBit x.2 n.toNat)) (by first|exact ⟨by omega,by omega,by unfold orBit;rw [List.length_set];exact hinv.2.2.1,by rw [←hinv.2.2.2,divN_at ht22];unfold divStep;rw [show ((n.toNat:Nat):Int)=n by omega,if_pos ht33]⟩|exact ⟨by omega,by omega,hinv.2.2.1,by rw [←hinv.2.2.2,divN_at ht22];unfold divStep;rw [show ((n.toNat:Nat):Int)=n by omega,if_neg ht33]⟩) (by show (n-1+1).toNat<(n+1).toNat;omega)
   ·
    refine CSIR ?_;refine qby ?_;refine qab ?_
    exact Nx ((n-1,x)) (by first|exact ⟨by omega,by omega,by unfold orBit;rw [List.length_set];exact hinv.2.2.1,by rw [←hinv.2.2.2,divN_at ht22];unfold divStep;rw [show ((n.toNat:Nat):Int)=n by omega,if_pos ht33]⟩|exact ⟨by omega,by omega,hinv.2.2.1,by rw [←hinv.2.2.2,divN_at ht22];unfold divStep;rw [show ((n.toNat:Nat):Int)=n by omega,if_neg ht33]⟩) (by show (n-1+1).toNat<(n+1).toNat;omega)
  ·
   refine CE ?_;refine CQ ?_;refine zx [some 1,some 1000001,none,none,some 1] mixed (by decide +kernel) ?_;refine qbI ?_;refine XK.gf (t:=2) rfl rfl (fun _ he=>zl rfl rfl he (Lens.self _) zZ) ⟨rfl,trivial⟩ rfl rfl rfl ?_;refine XK.e (x:=.idk) (fun fr' hfr kk H=>by exact zh rfl rfl rfl ((hfr 4 (by decide +kernel)).trans rfl) rfl (Lens.self _) zZ ((hfr 44 (by decide +kernel)).trans rfl) (zz H)) ?_
   refine XK.e (x:=.idk) (fun fr' hfr kk H=>by exact zh rfl rfl rfl ((hfr 5 (by decide +kernel)).trans rfl) rfl (Lens.self _) zZ ((hfr 45 (by decide +kernel)).trans rfl) (zz H)) ?_;refine X0 aV ?_;refine XK.nilp ⟨⟨rfl,rfl,trivial⟩,trivial⟩ ?_
   exact zfq rfl rfl (zw rfl rfl zZ (by unfold divW divP;rw [if_neg ht13,←hinv.2.2.2,show (n+1).toNat=0 by omega];rfl)) (zw rfl rfl zZ (by unfold remW divP;rw [if_neg ht13,←hinv.2.2.2,show (n+1).toNat=0 by omega];rfl)) (zac (za rfl (by unfold divOk;symm;exact decide_eq_true ht13)))
set_option maxRecDepth 20000
def searchN (f:Int→Bool) (lo hi:Nat):Nat :=
  if h:lo<hi then (if f (((lo+hi)/2:Nat):Int)=true then searchN f lo ((lo+hi)/2) else searchN f ((lo+hi)/2+1) hi) else lo
termination_by hi-lo
theorem search_no {f:Int→Bool} {lo hi:Nat} (h:lo<hi) (hf:¬f (((lo+hi)/2:Nat):Int)=true):searchN f lo hi=searchN f ((lo+hi)/2+1) hi:=by
  rw [searchN,dif_pos h,if_neg hf]
theorem search_yes {f:Int→Bool} {lo hi:Nat} (h:lo<hi) (hf:f (((lo+hi)/2:Nat):Int)=true):searchN f lo hi=searchN f lo ((lo+hi)/2):=by
  conv=>lhs;rw [searchN,dif_pos h,if_pos hf]
theorem search_end {f:Int→Bool} {lo:Nat}:searchN f lo lo=lo:=by rw [searchN,dif_neg (Nat.lt_irrefl _)]
def levelF (n t:Wide) (k:Int):Bool:=decide (0<cmpW n (downW t k))
def levelW (id:Ab.Id) (t:Wide):Int:=(searchN (levelF (of32W id) t) 0 32:Nat)-1
theorem search_le {f:Int→Bool} (lo hi:Nat) (h:lo≤hi):searchN f lo hi≤hi:=by
  rw [searchN]
  split
  · split
    · have:=search_le (f:=f) lo ((lo+hi)/2) (by omega);omega
    · exact search_le _ _ (by omega)
  · exact h
termination_by hi-lo
theorem search_ok (n:Nat) (f:Int→Bool) (hn:n<4611686018427387904):Tells P 137 [.val i64T (n:Int),.fn1 P i64T boolT f] (.val i64T (searchN f 0 n:Nat)):=by
 refine zc Tryz.func137 rfl rfl rfl (fun ext w hext=>?_)
 refine ze (d:=0) rfl zQ (fun hin0=>?_)
 refine CQR ?_;refine qa7 ?_;refine A0 aV ?_;refine qaA ?_;refine CB ?_;refine Lp (ι:=Nat×Nat) 0 (fun (i:Nat×Nat)=>match i with|(lo,hi)=>(((Fr.none).set 1 (.fn1 P i64T boolT f)).set 5 (.val i64T (lo:Int))).set 6 (.val i64T (hi:Int))) (fun (i:Nat×Nat)=>match i with|(lo,hi)=>Hp.none) (fun (i:Nat×Nat)=>match i with|(lo,hi)=>lo≤hi∧hi≤n∧searchN f 0 n=searchN f lo hi) (fun (i:Nat×Nat)=>match i with|(lo,hi)=>hi-lo) ((0,n)) (⟨Nat.zero_le _,Nat.le_refl _,rfl⟩) ?_
 intro ⟨lo,hi⟩ hinv
 dsimp only at hinv
 refine qbg ?_;refine qaz ?_;refine Cf (p:=lo<hi) (fun ht11=>?_) (fun ht11=>?_)
 ·
  refine CS ?_;refine CB ?_;refine CQR ?_;refine qag ?_;refine A0 zaG ?_;refine A0 (zcr rfl (ui_130) (us_3) rfl) ?_;refine A0 (zbP rfl rfl rfl (by first|decide|(simp [IntL.toI];done)|(simp [IntL.toI];omega)) rfl) ?_;refine A0 (g_cvi rfl (ui_3) (us_130) rfl (mid_eq (by omega))) ?_;refine qai ?_;refine A0 mF ?_;refine qar ?_;refine A0 (zeo rfl rfl (zd rfl)) ?_;refine qaE ?_;refine zj (p:=¬f (((lo+hi)/2:Nat):Int)=true) rfl (by simp) (fun ht21=>?_) (fun ht21=>?_)
  ·
   refine CR ?_;refine qaj ?_;refine CI ?_
   exact Nx (((lo+hi)/2+1,hi)) (by first|exact ⟨by omega,by omega,hinv.2.2.trans (search_no ht11 ht21)⟩|exact ⟨by omega,by omega,hinv.2.2.trans (search_yes ht11 (Classical.not_not.1 ht21))⟩) (by show _<hi-lo;simp only [];omega)
  ·
   refine CR ?_;refine qar ?_;refine qab ?_;refine CI ?_
   exact Nx ((lo,(lo+hi)/2)) (by first|exact ⟨by omega,by omega,hinv.2.2.trans (search_no ht11 ht21)⟩|exact ⟨by omega,by omega,hinv.2.2.trans (search_yes ht11 (Classical.not_not.1 ht21))⟩) (by show _<hi-lo;simp only [];omega)
 ·
  obtain rfl:hi=lo:=(by omega)
  refine CE ?_;refine qb8 ?_
  exact zb rfl rfl (za rfl (by rw [hinv.2.2,search_end]))
theorem level1_ok (n t:Wide) (k:Int):Tells P 134 [.val i64T k,.rptr wideT n,.rptr wideT t] (.val boolT (levelF n t k)):=by
 refine zc Tryz.func134 rfl rfl rfl (fun ext w hext=>?_)
 refine ze (d:=0) rfl zQ (fun hin0=>?_)
 refine CQR ?_;refine qbF ?_;refine G0 (zf rfl rfl zZ) ?_;refine G0 (zf rfl rfl zZ) ?_;refine G0 mV ?_;refine G0 (oCl (downW_ok _ _) rfl fn_136 ⟨(zd rfl),(zd rfl),trivial⟩) ?_;refine G0 (oCl (cmpW_ok _ _) rfl fn_135 ⟨(zd rfl),(zd rfl),trivial⟩) ?_;refine G0 zbb ?_;refine qa3 ?_
 exact zb rfl rfl (za rfl rfl)
theorem levelW_ok (id:Ab.Id) (t:Wide):Tells P 77 [.val idT id,.val wideT t] (.val i64T (levelW id t)):=by
 refine zc Tryz.func77 rfl rfl rfl (fun ext w hext=>?_)
 have hsl:=search_le (f:=levelF (of32W id) t) 0 32 (by decide)
 refine qav ?_;refine qai ?_;refine qaN ?_;refine A0 (oCl (of32W_ok _) rfl fn_133 ⟨(zd rfl),trivial⟩) ?_;refine qcm ?_;refine CNQR ?_;refine A0 (g_mkf (caps:=[_,_]) rfl rfl) ?_;refine A0 aC ?_;refine CNQR ?_;refine A0 mC ?_
 refine A0 (oCl (search_ok 32 (levelF (of32W id) t) (by decide)) rfl fn_137 ⟨(zd rfl),(by first|exact zc4 (Cs:=[_,_]) rfl fn_134 (by intro n hn;simp only [List.mem_cons,List.not_mem_nil,or_false] at hn;rcases hn with rfl|rfl<;>exact ⟨_,_,_,_,rfl⟩) ⟨(by exact za4 rfl),(by exact za4 rfl),trivial⟩ rfl (fun x=>level1_ok (of32W id) t x)|exact zc3 (Cs:=[_,_]) rfl fn_134 (by intro n hn;simp only [List.mem_cons,List.not_mem_nil,or_false] at hn;rcases hn with rfl|rfl<;>exact ⟨_,_,_,_,rfl⟩) ⟨(by exact za4 rfl),(by exact za4 rfl),trivial⟩ rfl (fun x y=>level1_ok (of32W id) t x)|exact zc5 rfl),trivial⟩) ?_
 refine A0 zay ?_;refine qab ?_
 exact zb rfl rfl (za rfl rfl)
set_option maxRecDepth 20000
def workW (t:Wide):Wide:=if addOk t (ofW 1)=true then addW (divW [~~~ t.getD 0 default,~~~ t.getD 1 default,~~~ t.getD 2 default,~~~ t.getD 3 default] (addW t (ofW 1))) (ofW 1) else ofW 1
theorem workW_ok (t:Wide):Tells P 190 [.val wideT t] (.val wideT (workW t)):=by
 refine zc Tryz.func190 rfl rfl rfl (fun ext w hext=>?_)
 refine ze (d:=0) rfl zaw (fun ha=>?_)
 refine qad ?_;refine qas ?_;refine CNQ ?_;refine zx [some 1000001,some 1000001,some 1000001,some 1000001,some 1000001,some 1000001,none,none,some 1] mixed (by decide +kernel) ?_;refine XK.gf (t:=1) rfl rfl (fun _ he=>zl rfl rfl he (Lens.self _) zZ) ⟨rfl,trivial⟩ rfl rfl rfl ?_;refine XK.ga (fun _=>zb5 (ofW_ok 1) rfl fn_126 ⟨(zd rfl),trivial⟩ rfl) rfl rfl rfl ?_;refine XK.ga (fun _=>zb5 (addW_ok _ _) rfl fn_188 ⟨(zd rfl),(zd rfl),trivial⟩ rfl) rfl rfl rfl ?_
 refine XK.ga (fun _=>by first|exact g_mv (.inl rfl) rfl|exact g_mp (.inl rfl) rfl|exact g_mo (.inl rfl) rfl|exact g_ml (.inl rfl) rfl|exact g_mc (.inl rfl) rfl|exact g_mr (.inl rfl) rfl|exact g_mf1 (.inl rfl) rfl|exact g_mf2 (.inl rfl) rfl|exact g_mw (.inl rfl) rfl|exact g_me (.inl rfl) rfl|exact g_ms (.inl rfl) rfl|exact zeR (.inl rfl) rfl|exact zeQ (.inl rfl) rfl|exact g_mi (.inl rfl) rfl) rfl rfl rfl ?_;refine XK.ga (fun _=>by first|exact zW rfl rfl|exact zU rfl rfl) rfl rfl rfl ?_;refine XK.ga (fun _=>by first|exact zY rfl rfl|exact zX rfl rfl) rfl rfl rfl ?_
 refine XK.e (fun fr' hfr kk H=>by exact zI zcO rfl rfl rfl rfl (zz H)) ?_;refine XK.e (x:=.idk) (fun fr' hfr kk H=>by exact zh rfl rfl rfl ((hfr 3 (by decide +kernel)).trans rfl) rfl (Lens.self _) zZ ((hfr 13 (by decide +kernel)).trans rfl) (zz H)) ?_;refine X0 aV ?_;refine XK.nilp ⟨⟨rfl,rfl,trivial⟩,trivial⟩ ?_;refine qa9 ?_;refine qaE ?_;refine zj (p:=¬addOk t (ofW 1)=true) rfl (by cases addOk t (ofW 1)<;>rfl) (fun ht16=>?_) (fun ht16=>?_)
 ·
  refine CQR ?_;refine A0 (oCl (ofW_ok 1) rfl fn_126 ⟨(zd rfl),trivial⟩) ?_;refine qae ?_;refine CN ?_
  exact zu rfl rfl rfl rfl zZ (by unfold workW;rw [if_neg ht16]<;>rfl)
 ·
  refine CSQR ?_;refine A0 (zt (i:=0) rfl rfl rfl (by first|omega|rfl) zag (by omega)) ?_;refine A0 (zl rfl rfl rfl (Lens.elem (i:=0) (by omega) u64T) zav) ?_;refine A0 (g_not64 rfl rfl) ?_;refine A0 (zt (i:=1) rfl rfl rfl (by first|omega|rfl) zag (by omega)) ?_;refine A0 (zl rfl rfl rfl (Lens.elem (i:=1) (by omega) u64T) zav) ?_;refine A0 (g_not64 rfl rfl) ?_;refine A0 (zt (i:=2) rfl rfl rfl (by first|omega|rfl) zag (by omega)) ?_;refine A0 (zl rfl rfl rfl (Lens.elem (i:=2) (by omega) u64T) zav) ?_;refine A0 (g_not64 rfl rfl) ?_
  refine A0 (zt (i:=3) rfl rfl rfl (by first|omega|rfl) zag (by omega)) ?_;refine A0 (zl rfl rfl rfl (Lens.elem (i:=3) (by omega) u64T) zav) ?_;refine A0 (g_not64 rfl rfl) ?_;refine A0 (zfg (T:=u64T) (xs:=[_,_,_,_]) rfl zag zcO ⟨rfl,rfl,rfl,rfl,rfl,rfl,rfl,rfl,trivial⟩ rfl) ?_;refine qcm ?_;refine CNQR ?_;refine qck ?_;refine A0 (oCl (divW_ok _ _) rfl fn_226 ⟨(zd rfl),(zd rfl),trivial⟩) ?_;refine A0 mX ?_;refine A0 (by first|exact zW rfl rfl|exact zU rfl rfl) ?_;refine A0 (by first|exact zY rfl rfl|exact zX rfl rfl) ?_;refine A0 e32 ?_;refine qas ?_
  refine qcm ?_;refine qae ?_;refine qaA ?_;refine zx [some 1,some 1,some 1,some 1,some 1,some 1000001,none] mixed (by decide +kernel) ?_;refine qbI ?_;refine X0 (oCl (ofW_ok 1) rfl fn_126 ⟨(zd rfl),trivial⟩) ?_;refine X0 (oCl (addW_ok _ _) rfl fn_188 ⟨(zd rfl),(zd rfl),trivial⟩) ?_;refine X0 mX ?_;refine X0 (by first|exact zW rfl rfl|exact zU rfl rfl) ?_;refine XK.ga (fun _=>by first|exact zY rfl rfl|exact zX rfl rfl) rfl rfl rfl ?_
  refine XK.e (x:=.idk) (fun fr' hfr kk H=>by exact zh rfl rfl rfl ((hfr 6 (by decide +kernel)).trans rfl) rfl (Lens.self _) zZ ((hfr 42 (by decide +kernel)).trans rfl) (zz H)) ?_;refine XK.nil' ?_;refine qba ?_
  exact zu rfl rfl rfl rfl zZ (by unfold workW;rw [if_pos (Classical.not_not.1 ht16)]<;>rfl)
def hOk (h:Head):Bool:=decide (0≤h.height∧h.height≤1048576)
def putHead (h:Head):List UInt8:=[numBytes (u64OfI (IntL.toI i64T h.height)) 4,h.prev,h.links,h.txs,h.past,bytesW h.work,numBytes (u64OfI (IntL.toI u32T h.bits)) 4,numBytes h.nonce 8].flatten
def headBytes (h:Head):List UInt8:=if hOk h=true then putHead h else []
def headId (h:Head):Ab.Id:=if hOk h=true then shaSum ([5]++putHead h) else zId
def headLevel (h:Head):Int:=if tgtOk h.bits=true∧hOk h=true then (if h.height=0 then 31 else levelW (headId h) (tgtW h.bits)) else -1
def headWork (h:Head):Wide:=if tgtOk h.bits=true then workW (tgtW h.bits) else zWide
def headMay (h:Head):Bool:=!decide (headLevel h = -1)
theorem zeU {h:Head} {ρ:Nat→Value} {B:Nat→Prop} {U N:Nat→Prop} {w:World} {v:Value} (hv:(AV.val headT h).rel ρ B U N w v):h.prev.length=32∧h.links.length=32∧h.txs.length=32∧h.past.length=32∧h.work.length=4:=by
  obtain ⟨cs,⟨_,_,_,_,_,_,_,h1,_,_,_,h2,_,_,_,h3,_,_,_,h4,_,_,_,h5,_⟩,_⟩:=hv
  exact ⟨h1.1,h2.1,h3.1,h4.1,h5.1⟩
theorem zcl (a:Wide):(bytesW a).length=32:=by unfold bytesW;simp
theorem hput_ok (h:Head):Tells P 37 [.val headT h] (.tup2 (.fresh 5 u8T (headBytes h)) (.val boolT (hOk h))):=by
 refine zc Tryz.func37 rfl rfl rfl (fun ext w hext=>?_)
 refine ze (d:=0) rfl zeU (fun hh=>?_)
 obtain ⟨hh1,hh2,hh3,hh4,hh5⟩:=hh
 refine qbi ?_;refine qbB ?_;refine qaZ ?_;refine A0 zbh ?_;refine Sp (d:=7) (p:=h.height<0) (fun g7=>?_) (fun g7=>?_)
 ·
  refine qar ?_;refine qbA ?_;refine Ct ?_;refine qay ?_;refine qab ?_
  exact z7 rfl rfl (by rw [show headBytes h=[] by unfold headBytes hOk;rw [if_neg (by rw [decide_eq_true_eq];omega)]];exact zH rfl) (za rfl (by unfold hOk;symm;apply decide_eq_false;omega))
 ·
  refine qar ?_;refine A1 (oFp zbH) ?_;refine A1 (oLb zS ty_3) ?_;refine A1 zbb ?_;refine qaq ?_;refine Cf (p:=1048576<h.height) (fun ht12=>?_) (fun ht12=>?_)
  ·
   refine qay ?_;refine qab ?_
   exact z7 rfl rfl (by rw [show headBytes h=[] by unfold headBytes hOk;rw [if_neg (by rw [decide_eq_true_eq];omega)]];exact zH rfl) (za rfl (by unfold hOk;symm;apply decide_eq_false;omega))
  ·
   refine CSQR ?_;refine A0 (oFp fd_38_5) ?_;refine A0 (oLb zcJ zZ) ?_;refine A0 (oCl (bytesW_ok _) rfl fn_79 ⟨(zd rfl),trivial⟩) ?_;refine qa8 ?_;refine qap ?_;refine CNQ ?_;refine zbe (d:=1) rfl rfl (Lens.self _) ?_;refine zbe (d:=4) rfl rfl (Lens.self _) ?_
   have hbl:=zcl h.work
   have hn1:=zN (u64OfI (IntL.toI i64T h.height)) 4
   have hn2:=zN (u64OfI (IntL.toI u32T h.bits)) 4
   have hn3:=zN h.nonce 8
   refine zx [some 1,some 1,some 1,some 1,some 1,some 1,some 1,some 1,some 1,some 1,some 1,some 1,some 1,some 1,some 1,some 1,some 1,some 1,some 1,some 1,some 1,none,some 1,some 1] mixed (by decide +kernel) ?_;refine X0 (oFr zbH zS) ?_;refine X0 (zf rfl rfl ty_3) ?_;refine X0 (zcr rfl (ui_33) (us_3) rfl) ?_;refine X0 (zeS (T:=sl u8T) (S:=bsl u8T) (zb5 (zs (binPut_ok _ 4 (by decide))) rfl fn_81 ⟨(zd rfl),(zd rfl),trivial⟩ rfl)) ?_;refine X0 (oFr zcX zaO) ?_;refine X0 (zae rfl rfl za5 rfl rfl) ?_
   refine X0 (oFr zcW zaC) ?_;refine X0 (zae rfl rfl za5 rfl rfl) ?_;refine X0 (oFr zeE zcm) ?_;refine X0 (zae rfl rfl za5 rfl rfl) ?_;refine X0 (oFr zeD zbY) ?_;refine X0 (zae rfl rfl za5 rfl rfl) ?_;refine X0 (zae rfl rfl za5 rfl rfl) ?_;refine X0 (oFr zbk zad) ?_;refine X0 (zf rfl rfl z8) ?_;refine X0 (zcr rfl (ui_33) (us_36) rfl) ?_;refine X0 (zeS (T:=sl u8T) (S:=bsl u8T) (zb5 (zs (binPut_ok _ 4 (by decide))) rfl fn_81 ⟨(zd rfl),(zd rfl),trivial⟩ rfl)) ?_
   refine X0 (oFr zeC zbG) ?_;refine X0 (zf rfl rfl zav) ?_;refine X0 (zeS (T:=sl u8T) (S:=bsl u8T) (zb5 (zs (binPut_ok _ 8 (by decide))) rfl fn_81 ⟨(by first|exact zq rfl|exact zC rfl|exact zy rfl rfl|exact zA rfl|exact zr rfl|exact zL rfl rfl|exact zB rfl),(zd rfl),trivial⟩ rfl)) ?_;refine X0 (zo (T:=(bsl u8T)) (xs:=[_,_,_,_,_,_,_,_]) rfl zdF zde ⟨rfl,rfl,rfl,rfl,rfl,rfl,rfl,rfl,rfl,rfl,rfl,rfl,rfl,rfl,rfl,rfl,trivial⟩ rfl rfl) ?_
   refine XK.e (fun fr' hfr kk H=>by exact zaE (zeW [numBytes (u64OfI (IntL.toI i64T h.height)) 4,h.prev,h.links,h.txs,h.past,bytesW h.work,numBytes (u64OfI (IntL.toI u32T h.bits)) 4,numBytes h.nonce 8] (by simp [hh1,hh2,hh3,hh4,hbl,hn1,hn2,hn3])) rfl fn_80 ⟨(zd ((hfr 36 (by decide +kernel)).trans rfl)),trivial⟩ rfl rfl rfl (zz H)) ?_;refine X0 aO ?_;refine X0 aV ?_;refine XK.nil' ?_
   exact z7 rfl rfl (zg rfl rfl (by unfold headBytes;rw [if_pos (by unfold hOk;rw [decide_eq_true_eq];omega)];rfl)) (za rfl (by unfold hOk;symm;apply decide_eq_true;omega))
theorem zdx (h:Head):Tells P 14 [.val headT h] (.val idT (headId h)):=by
 refine zc Tryz.func14 rfl rfl rfl (fun ext w hext=>?_)
 refine ze (d:=0) rfl zeU (fun hh=>?_)
 obtain ⟨hh1,hh2,hh3,hh4,hh5⟩:=hh
 refine qad ?_;refine qa8 ?_;refine CNQR ?_;refine qb1 ?_;refine A0 (oCl (zcg (hput_ok h)) rfl fn_37 ⟨(zd rfl),trivial⟩) ?_;refine A0 mX ?_;refine A0 (by first|exact zW rfl rfl|exact zU rfl rfl) ?_;refine A0 (by first|exact zY rfl rfl|exact zX rfl rfl) ?_;refine A0 aV ?_;refine qah ?_;refine qaE ?_;refine zj (p:=¬hOk h=true) rfl (by cases hOk h<;>rfl) (fun ht11=>?_) (fun ht11=>?_)
 ·
  refine CQR ?_;refine A0 (zaA rfl za5 ze_32 rfl) ?_;refine qbz ?_
  exact zu rfl rfl rfl rfl zM (by unfold headId;rw [if_neg ht11]<;>rfl)
 ·
  refine CSQR ?_;refine A0 (zo (T:=u8T) (xs:=[_]) rfl zaW zR ⟨rfl,rfl,trivial⟩ rfl rfl) ?_;refine aw_lend (S:=bsl u8T) (d:=13) rfl ?_;refine qar ?_;refine aw_lend (S:=bsl u8T) (d:=14) rfl ?_;refine A0 (zo (T:=(bsl u8T)) (xs:=[_,_]) rfl zdF zde ⟨rfl,rfl,rfl,rfl,trivial⟩ rfl rfl) ?_;refine A0 (oCl (of_ok [[5],headBytes h] (by unfold headBytes;split<;>simp [putHead,hh1,hh2,hh3,hh4,zcl,zN])) rfl fn_38 ⟨(zd rfl),trivial⟩) ?_;refine qbz ?_
  exact zu rfl rfl rfl rfl zM (by unfold headId headBytes;rw [if_pos (Classical.not_not.1 ht11),if_pos (Classical.not_not.1 ht11)];simp)
theorem zem (h:Head):Tells P 35 [.val headT h] (.val i64T (headLevel h)):=by
 refine zc Tryz.func35 rfl rfl rfl (fun ext w hext=>?_)
 refine qad ?_;refine qai ?_;refine A0 (oFp zbk) ?_;refine A0 (oLb zad z8) ?_;refine A0 (oCl (target_ok _) rfl fn_71 ⟨(zd rfl),trivial⟩) ?_;refine A0 mX ?_;refine A0 (by first|exact zW rfl rfl|exact zU rfl rfl) ?_;refine A0 (by first|exact zY rfl rfl|exact zX rfl rfl) ?_;refine qcm ?_;refine qaA ?_;refine CB ?_;refine qa9 ?_;refine A0 oN ?_;refine zaa (d:=13) (p:=¬tgtOk h.bits=true) rfl (by cases tgtOk h.bits<;>rfl) (fun g13=>?_) (fun g13=>?_)
 ·
  refine qab ?_;refine Ct ?_;refine CS ?_;refine Ct ?_;refine qam ?_
  exact zb rfl rfl (za rfl (by unfold headLevel;rw [if_neg (by unfold hOk;rw [decide_eq_true_eq];exact fun h=>g13 h.1)]<;>rfl))
 ·
  refine qab ?_;refine Cg ?_;refine CQR ?_;refine qaZ ?_;refine A0 zbh ?_;refine Sp (d:=16) (p:=h.height<0) (fun g16=>?_) (fun g16=>?_)
  ·
   refine qab ?_;refine Ct ?_;refine CS ?_;refine Ct ?_;refine qam ?_
   exact zb rfl rfl (za rfl (by unfold headLevel;rw [if_neg (by unfold hOk;rw [decide_eq_true_eq];omega)]<;>rfl))
  ·
   refine qab ?_;refine Cg ?_;refine CR ?_;refine qaZ ?_;refine A0 zbb ?_;refine Sp (d:=19) (p:=1048576<h.height) (fun g19=>?_) (fun g19=>?_)
   ·
    refine qab ?_;refine Ct ?_;refine qam ?_
    exact zb rfl rfl (za rfl (by unfold headLevel;rw [if_neg (by unfold hOk;rw [decide_eq_true_eq];omega)]<;>rfl))
   ·
    refine qab ?_;refine Cg ?_;refine CQR ?_;refine qaZ ?_;refine A0 zbU ?_;refine qab ?_;refine Cf (p:=h.height=0) (fun ht20=>?_) (fun ht20=>?_)
    ·
     refine qam ?_
     exact zb rfl rfl (za rfl (by unfold headLevel;rw [if_pos ⟨Classical.not_not.1 g13,by unfold hOk;rw [decide_eq_true_eq];omega⟩,if_pos ht20]<;>rfl))
    ·
     refine CS ?_;refine CI ?_;refine qa0 ?_;refine G0 (oLs rfl rfl rfl zao) ?_;refine G0 (oCl (zdx _) rfl fn_14 ⟨(zd rfl),trivial⟩) ?_;refine G0 (oLs rfl rfl rfl zZ) ?_;refine G0 (oCl (levelW_ok _ _) rfl fn_77 ⟨(zd rfl),(zd rfl),trivial⟩) ?_;refine qa3 ?_
     exact zb rfl rfl (za rfl (by unfold headLevel;rw [if_pos ⟨Classical.not_not.1 g13,by unfold hOk;rw [decide_eq_true_eq];omega⟩,if_neg ht20]))
theorem headWork_ok (h:Head):Tells P 132 [.val headT h] (.val wideT (headWork h)):=by
 refine zc Tryz.func132 rfl rfl rfl (fun ext w hext=>?_)
 refine qad ?_;refine qas ?_;refine CNQR ?_;refine A0 (oFp zbk) ?_;refine A0 (oLb zad z8) ?_;refine A0 (oCl (target_ok _) rfl fn_71 ⟨(zd rfl),trivial⟩) ?_;refine A0 mX ?_;refine A0 (by first|exact zW rfl rfl|exact zU rfl rfl) ?_;refine A0 (by first|exact zY rfl rfl|exact zX rfl rfl) ?_;refine qcm ?_;refine qah ?_;refine qaE ?_;refine zj (p:=¬tgtOk h.bits=true) rfl (by cases tgtOk h.bits<;>rfl) (fun ht12=>?_) (fun ht12=>?_)
 ·
  refine CQR ?_;refine A0 (zaA rfl zag zcO rfl) ?_;refine qae ?_;refine CN ?_
  exact zu rfl rfl rfl rfl zZ (by unfold headWork;rw [if_neg ht12]<;>rfl)
 ·
  refine CSQR ?_;refine qau ?_;refine A0 (oCl (workW_ok _) rfl fn_190 ⟨(zd rfl),trivial⟩) ?_;refine qae ?_;refine CN ?_
  exact zu rfl rfl rfl rfl zZ (by unfold headWork;rw [if_pos (Classical.not_not.1 ht12)])
theorem headMay_ok (h:Head):Tells P 76 [.val headT h] (.val boolT (headMay h)):=by
 refine zc Tryz.func76 rfl rfl rfl (fun ext w hext=>?_)
 refine qad ?_;refine qai ?_;refine qb1 ?_;refine A0 (oCl (zem _) rfl fn_35 ⟨(zd rfl),trivial⟩) ?_;refine A0 zd2 ?_;refine qab ?_
 exact zb rfl rfl (za rfl rfl)
set_option maxRecDepth 20000
theorem equalId (l m:List Ab.Id):Tells P 39 [.val (bsl idT) l,.val (bsl idT) m] (.val boolT (decide (l=m))):=by
 refine zc Tryz.func39 rfl rfl rfl (fun ext w hext=>?_)
 refine ze (d:=0) rfl zi (fun hsl0=>?_)
 refine ze (d:=1) rfl zi (fun hsl1=>?_)
 refine CQR ?_;refine qah ?_;refine qci ?_;refine qa6 ?_;refine qaB ?_;refine Cf (p:=¬l.length=m.length) (fun ht10=>?_) (fun ht10=>?_)
 ·
  refine qam ?_
  exact zb rfl rfl (za rfl (decide_eq_false (fun e=>ht10 (by rw [e]))).symm)
 ·
  refine CSQQR ?_;refine qa6 ?_;refine qaI ?_;refine Lp (ι:=Nat) 0 (fun (k:Nat)=>((((Fr.none).set 0 (.val (bsl idT) l)).set 1 (.val (bsl idT) m)).set 12 (.val i64T (l.length:Int))).set 13 (.val i64T (k:Int))) (fun (k:Nat)=>Hp.none) (fun (k:Nat)=>k≤l.length∧l.take k=m.take k) (fun (k:Nat)=>l.length-k) (0) (⟨Nat.zero_le _,by simp⟩) ?_
  intro k hinv
  refine qao ?_;refine Cf (p:=k<l.length) (fun ht14=>?_) (fun ht14=>?_)
  ·
   obtain ⟨x,hx⟩:∃x,l[k]?=some x:=⟨_,List.getElem?_eq_getElem ht14⟩
   obtain ⟨y,hy⟩:∃y,m[k]?=some y:=⟨_,List.getElem?_eq_getElem (by omega)⟩
   refine qaL ?_;refine qbF ?_;refine qaF ?_;refine G0 (zaQ rfl rfl rfl zak (by assumption)) ?_;refine qb4 ?_;refine qaF ?_;refine G0 (zaQ rfl rfl rfl zak (by assumption)) ?_;refine qb4 ?_;refine G0 (zbQ rfl rfl rfl (zbJ)) ?_;refine GK.nil ?_;refine zj (p:=¬x=y) rfl (by simp) (fun ht24=>?_) (fun ht24=>?_)
   ·
    refine qam ?_
    exact zb rfl rfl (za rfl (decide_eq_false (zdJ hx hy ht24)).symm)
   ·
    refine qbn ?_
    exact Nx (k+1) (⟨by omega,zbw hx hy hinv.2 (by simpa using ht24)⟩) (by omega)
  ·
   refine qbE ?_
   exact zb rfl rfl (za rfl (decide_eq_true (by have h:=hinv.2;rw [List.take_of_length_le (by omega),List.take_of_length_le (by omega)] at h;exact h)).symm)
theorem equalIn (l m:List In):Tells P 164 [.val (bsl inT) l,.val (bsl inT) m] (.val boolT (decide (l=m))):=by
 refine zc Tryz.func164 rfl rfl rfl (fun ext w hext=>?_)
 refine ze (d:=0) rfl zi (fun hsl0=>?_)
 refine ze (d:=1) rfl zi (fun hsl1=>?_)
 refine CQR ?_;refine qah ?_;refine A0 (zah rfl rfl zcb) ?_;refine qar ?_;refine A0 (zah rfl rfl zcb) ?_;refine qaB ?_;refine Cf (p:=¬l.length=m.length) (fun ht10=>?_) (fun ht10=>?_)
 ·
  refine qam ?_
  exact zb rfl rfl (za rfl (decide_eq_false (fun e=>ht10 (by rw [e]))).symm)
 ·
  refine qbO ?_;refine A0 (zah rfl rfl zcb) ?_;refine qaI ?_;refine Lp (ι:=Nat) 0 (fun (k:Nat)=>((((Fr.none).set 0 (.val (bsl inT) l)).set 1 (.val (bsl inT) m)).set 12 (.val i64T (l.length:Int))).set 13 (.val i64T (k:Int))) (fun (k:Nat)=>Hp.none) (fun (k:Nat)=>k≤l.length∧l.take k=m.take k) (fun (k:Nat)=>l.length-k) (0) (⟨Nat.zero_le _,by simp⟩) ?_
  intro k hinv
  refine qao ?_;refine Cf (p:=k<l.length) (fun ht14=>?_) (fun ht14=>?_)
  ·
   obtain ⟨x,hx⟩:∃x,l[k]?=some x:=⟨_,List.getElem?_eq_getElem ht14⟩
   obtain ⟨y,hy⟩:∃y,m[k]?=some y:=⟨_,List.getElem?_eq_getElem (by omega)⟩
   refine qaL ?_;refine qbF ?_;refine qaF ?_;refine G0 (zaQ rfl rfl rfl zdt (by assumption)) ?_;refine G0 (zf rfl rfl zbi) ?_;refine qaF ?_;refine G0 (zaQ rfl rfl rfl zdt (by assumption)) ?_;refine G0 (zf rfl rfl zbi) ?_;refine G0 (zbQ rfl rfl rfl (eqt_193)) ?_;refine GK.nil ?_;refine zj (p:=¬x=y) rfl (by simp) (fun ht24=>?_) (fun ht24=>?_)
   ·
    refine qam ?_
    exact zb rfl rfl (za rfl (decide_eq_false (zdJ hx hy ht24)).symm)
   ·
    refine qbn ?_
    exact Nx (k+1) (⟨by omega,zbw hx hy hinv.2 (by simpa using ht24)⟩) (by omega)
  ·
   refine qbE ?_
   exact zb rfl rfl (za rfl (decide_eq_true (by have h:=hinv.2;rw [List.take_of_length_le (by omega),List.take_of_length_le (by omega)] at h;exact h)).symm)
theorem equalOut (l m:List Out):Tells P 165 [.val (bsl outT) l,.val (bsl outT) m] (.val boolT (decide (l=m))):=by
 refine zc Tryz.func165 rfl rfl rfl (fun ext w hext=>?_)
 refine ze (d:=0) rfl zi (fun hsl0=>?_)
 refine ze (d:=1) rfl zi (fun hsl1=>?_)
 refine CQR ?_;refine qah ?_;refine A0 (zah rfl rfl isl_138) ?_;refine qar ?_;refine A0 (zah rfl rfl isl_138) ?_;refine qaB ?_;refine Cf (p:=¬l.length=m.length) (fun ht10=>?_) (fun ht10=>?_)
 ·
  refine qam ?_
  exact zb rfl rfl (za rfl (decide_eq_false (fun e=>ht10 (by rw [e]))).symm)
 ·
  refine qbO ?_;refine A0 (zah rfl rfl isl_138) ?_;refine qaI ?_;refine Lp (ι:=Nat) 0 (fun (k:Nat)=>((((Fr.none).set 0 (.val (bsl outT) l)).set 1 (.val (bsl outT) m)).set 12 (.val i64T (l.length:Int))).set 13 (.val i64T (k:Int))) (fun (k:Nat)=>Hp.none) (fun (k:Nat)=>k≤l.length∧l.take k=m.take k) (fun (k:Nat)=>l.length-k) (0) (⟨Nat.zero_le _,by simp⟩) ?_
  intro k hinv
  refine qao ?_;refine Cf (p:=k<l.length) (fun ht14=>?_) (fun ht14=>?_)
  ·
   obtain ⟨x,hx⟩:∃x,l[k]?=some x:=⟨_,List.getElem?_eq_getElem ht14⟩
   obtain ⟨y,hy⟩:∃y,m[k]?=some y:=⟨_,List.getElem?_eq_getElem (by omega)⟩
   refine qaL ?_;refine qbF ?_;refine qaF ?_;refine G0 (zaQ rfl rfl rfl zdV (by assumption)) ?_;refine G0 (zf rfl rfl zdU) ?_;refine qaF ?_;refine G0 (zaQ rfl rfl rfl zdV (by assumption)) ?_;refine G0 (zf rfl rfl zdU) ?_;refine G0 (zbQ rfl rfl rfl (eqt_196)) ?_;refine GK.nil ?_;refine zj (p:=¬x=y) rfl (by simp) (fun ht24=>?_) (fun ht24=>?_)
   ·
    refine qam ?_
    exact zb rfl rfl (za rfl (decide_eq_false (zdJ hx hy ht24)).symm)
   ·
    refine qbn ?_
    exact Nx (k+1) (⟨by omega,zbw hx hy hinv.2 (by simpa using ht24)⟩) (by omega)
  ·
   refine qbE ?_
   exact zb rfl rfl (za rfl (decide_eq_true (by have h:=hinv.2;rw [List.take_of_length_le (by omega),List.take_of_length_le (by omega)] at h;exact h)).symm)
theorem cloneId (l:List Ab.Id) (hl:l.length*32≤140737488355328∧l.length≤9223372036854775807):Tells P 124 [.val (bsl idT) l] (.fresh 32 idT l):=by
 refine zc Tryz.func124 rfl rfl rfl (fun ext w hext=>?_)
 refine ze (d:=0) rfl zi (fun hsl0=>?_)
 refine qay ?_;refine qbb ?_;refine aw_eqnil rfl rfl rfl rfl rfl zaJ (fun c4 hc4=>?_)
 refine CN ?_;refine zj (p:=c4=true) rfl (by simp) (fun ht4=>?_) (fun ht4=>?_)
 ·
  obtain rfl:=hc4 ht4
  refine qay ?_;refine CN ?_
  exact zb rfl rfl (zH rfl)
 ·
  refine CSQR ?_;refine zaN (T:=idT) (xs:=[]) rfl rfl rfl rfl zak zbI trivial rfl rfl ?_;refine qar ?_;refine zn rfl rfl rfl rfl rfl rfl rfl zbI (by simpa using hl) ?_;refine qbe ?_
  exact zb rfl rfl (zg rfl rfl (by simp))
theorem cloneTotal (l:List Total) (hl:l.length*72≤140737488355328∧l.length≤9223372036854775807):Tells P 130 [.val (bsl totalT) l] (.fresh 119 totalT l):=by
 refine zc Tryz.func130 rfl rfl rfl (fun ext w hext=>?_)
 refine ze (d:=0) rfl zi (fun hsl0=>?_)
 refine qay ?_;refine qbb ?_;refine aw_eqnil rfl rfl rfl rfl rfl zel (fun c4 hc4=>?_)
 refine CN ?_;refine zj (p:=c4=true) rfl (by simp) (fun ht4=>?_) (fun ht4=>?_)
 ·
  obtain rfl:=hc4 ht4
  refine qay ?_;refine CN ?_
  exact zb rfl rfl (zH rfl)
 ·
  refine CSQR ?_;refine zaN (T:=totalT) (xs:=[]) rfl rfl rfl rfl zdI zef trivial rfl rfl ?_;refine qar ?_;refine zn rfl rfl rfl rfl rfl rfl rfl zef (by simpa using hl) ?_;refine qbe ?_
  exact zb rfl rfl (zg rfl rfl (by simp))
theorem cloneIn (l:List In) (hl:l.length*40≤140737488355328∧l.length≤9223372036854775807):Tells P 175 [.val (bsl inT) l] (.fresh 193 inT l):=by
 refine zc Tryz.func175 rfl rfl rfl (fun ext w hext=>?_)
 refine ze (d:=0) rfl zi (fun hsl0=>?_)
 refine qay ?_;refine qbb ?_;refine aw_eqnil rfl rfl rfl rfl rfl zcb (fun c4 hc4=>?_)
 refine CN ?_;refine zj (p:=c4=true) rfl (by simp) (fun ht4=>?_) (fun ht4=>?_)
 ·
  obtain rfl:=hc4 ht4
  refine qay ?_;refine CN ?_
  exact zb rfl rfl (zH rfl)
 ·
  refine CSQR ?_;refine zaN (T:=inT) (xs:=[]) rfl rfl rfl rfl zdt row_137 trivial rfl rfl ?_;refine qar ?_;refine zn rfl rfl rfl rfl rfl rfl rfl row_137 (by simpa using hl) ?_;refine qbe ?_
  exact zb rfl rfl (zg rfl rfl (by simp))
theorem cloneOut (l:List Out) (hl:l.length*16≤140737488355328∧l.length≤9223372036854775807):Tells P 176 [.val (bsl outT) l] (.fresh 196 outT l):=by
 refine zc Tryz.func176 rfl rfl rfl (fun ext w hext=>?_)
 refine ze (d:=0) rfl zi (fun hsl0=>?_)
 refine qay ?_;refine qbb ?_;refine aw_eqnil rfl rfl rfl rfl rfl isl_138 (fun c4 hc4=>?_)
 refine CN ?_;refine zj (p:=c4=true) rfl (by simp) (fun ht4=>?_) (fun ht4=>?_)
 ·
  obtain rfl:=hc4 ht4
  refine qay ?_;refine CN ?_
  exact zb rfl rfl (zH rfl)
 ·
  refine CSQR ?_;refine zaN (T:=outT) (xs:=[]) rfl rfl rfl rfl zdV row_138 trivial rfl rfl ?_;refine qar ?_;refine zn rfl rfl rfl rfl rfl rfl rfl row_138 (by simpa using hl) ?_;refine qbe ?_
  exact zb rfl rfl (zg rfl rfl (by simp))
theorem cloneTx (l:List Tx) (hl:l.length*48≤140737488355328∧l.length≤9223372036854775807):Tells P 217 [.val (bsl txT) l] (.fresh 140 txT l):=by
 refine zc Tryz.func217 rfl rfl rfl (fun ext w hext=>?_)
 refine ze (d:=0) rfl zi (fun hsl0=>?_)
 refine qay ?_;refine qbb ?_;refine aw_eqnil rfl rfl rfl rfl rfl isl_58 (fun c4 hc4=>?_)
 refine CN ?_;refine zj (p:=c4=true) rfl (by simp) (fun ht4=>?_) (fun ht4=>?_)
 ·
  obtain rfl:=hc4 ht4
  refine qay ?_;refine CN ?_
  exact zb rfl rfl (zH rfl)
 ·
  refine CSQR ?_;refine zaN (T:=txT) (xs:=[]) rfl rfl rfl rfl zec row_58 trivial rfl rfl ?_;refine qar ?_;refine zn rfl rfl rfl rfl rfl rfl rfl row_58 (by simpa using hl) ?_;refine qbe ?_
  exact zb rfl rfl (zg rfl rfl (by simp))
theorem indexId (l:List Ab.Id) (v:Ab.Id):Tells P 78 [.val (bsl idT) l,.val idT v] (.val i64T (idx (fun x=>decide (v=x)) l)):=by
 refine zc Tryz.func78 rfl rfl rfl (fun ext w hext=>?_)
 refine ze (d:=0) rfl zi (fun hsl0=>?_)
 refine qad ?_;refine qah ?_;refine qci ?_;refine qaI ?_;refine Lp (ι:=Nat) 1 (fun (k:Nat)=>(((((Fr.none).set 0 (.val (bsl idT) l)).set 3 (.ptr 0 0)).set 6 (.val (bsl idT) l)).set 7 (.val i64T (l.length:Int))).set 8 (.val i64T (k:Int))) (fun (k:Nat)=>(Hp.none).set 0 (.box 32 idT v)) (fun (k:Nat)=>k≤l.length∧idx (fun x=>decide (v=x)) l=shift k (idx (fun x=>decide (v=x)) (l.drop k))) (fun (k:Nat)=>l.length-k) (0) (⟨Nat.zero_le _,zdd _ l⟩) ?_
 intro k hinv
 refine qao ?_;refine Cf (p:=k<l.length) (fun ht9=>?_) (fun ht9=>?_)
 ·
  obtain ⟨x,hx⟩:∃x,l[k]?=some x:=⟨_,List.getElem?_eq_getElem ht9⟩
  refine qaL ?_;refine qbF ?_;refine G0 (oLs rfl rfl rfl zM) ?_;refine qaF ?_;refine G0 (zaQ rfl rfl rfl zak (by assumption)) ?_;refine qb4 ?_;refine G0 (zcM rfl rfl rfl (zbJ)) ?_;refine GK.nil ?_;refine zj (p:=(decide (v=x))=true) rfl (by simp) (fun ht16=>?_) (fun ht16=>?_)
  ·
   refine qb8 ?_
   exact zb rfl rfl (za rfl (hinv.2.trans (idx_yes hx ht16)).symm)
  ·
   refine qbn ?_
   exact Nx (k+1) (⟨by omega,hinv.2.trans (idx_no hx ht16)⟩) (by omega)
 ·
  refine qbE ?_
  exact zb rfl rfl (za rfl (hinv.2.trans (idx_end (by omega))).symm)
theorem containsId (l:List Ab.Id) (v:Ab.Id):Tells P 36 [.val (bsl idT) l,.val idT v] (.val boolT (l.any fun x=>decide (v=x))):=by
 refine zc Tryz.func36 rfl rfl rfl (fun ext w hext=>?_)
 refine ze (d:=0) rfl zi (fun hsl0=>?_)
 refine qad ?_;refine qa7 ?_;refine qaN ?_;refine A0 (oCl (indexId _ _) rfl fn_78 ⟨(zd rfl),(zd rfl),trivial⟩) ?_;refine A0 zez ?_;refine qab ?_
 exact zb rfl rfl (za rfl (idx_any _ l))
theorem equalFTx (l m:List Tx):Tells P 108 [.val (bsl txT) l,.val (bsl txT) m,.fn2 P txT txT boolT (fun x y=>decide (x=y))] (.val boolT (decide (l=m))):=by
 refine zc Tryz.func108 rfl rfl rfl (fun ext w hext=>?_)
 refine ze (d:=0) rfl zi (fun hsl0=>?_)
 refine ze (d:=1) rfl zi (fun hsl1=>?_)
 refine CQR ?_;refine qah ?_;refine qbq ?_;refine qar ?_;refine qbq ?_;refine qaB ?_;refine Cf (p:=¬l.length=m.length) (fun ht14=>?_) (fun ht14=>?_)
 ·
  refine qam ?_
  exact zb rfl rfl (za rfl (decide_eq_false (fun e=>ht14 (by rw [e]))).symm)
 ·
  refine qbO ?_;refine qbq ?_;refine qaI ?_;refine Lp (ι:=Nat) 0 (fun (k:Nat)=>((((((Fr.none).set 0 (.val (bsl txT) l)).set 1 (.val (bsl txT) m)).set 2 (.fn2 P txT txT boolT (fun x y=>decide (x=y)))).set 15 (.val (bsl txT) l)).set 16 (.val i64T (l.length:Int))).set 17 (.val i64T (k:Int))) (fun (k:Nat)=>Hp.none) (fun (k:Nat)=>k≤l.length∧l.take k=m.take k) (fun (k:Nat)=>l.length-k) (0) (⟨Nat.zero_le _,by simp⟩) ?_
  intro k hinv
  refine qao ?_;refine Cf (p:=k<l.length) (fun ht18=>?_) (fun ht18=>?_)
  ·
   obtain ⟨x,hx⟩:∃x,l[k]?=some x:=⟨_,List.getElem?_eq_getElem ht18⟩
   obtain ⟨y,hy⟩:∃y,m[k]?=some y:=⟨_,List.getElem?_eq_getElem (by omega)⟩
   refine qaL ?_;refine qaU ?_;refine A0 aV ?_;refine qbN ?_;refine CNQR ?_;refine qag ?_;refine qaU ?_;refine qbN ?_;refine CNQR ?_;refine A0 mH ?_;refine qbd ?_;refine qbd ?_;refine A0 (g_callf2 rfl rfl (zd rfl) (zd rfl)) ?_;refine qaE ?_;refine zj (p:=¬x=y) rfl (by simp) (fun ht30=>?_) (fun ht30=>?_)
   ·
    refine qam ?_
    exact zb rfl rfl (za rfl (decide_eq_false (zdJ hx hy ht30)).symm)
   ·
    refine qbn ?_
    exact Nx (k+1) (⟨by omega,zbw hx hy hinv.2 (by simpa using ht30)⟩) (by omega)
  ·
   refine qbE ?_
   exact zb rfl rfl (za rfl (decide_eq_true (by have h:=hinv.2;rw [List.take_of_length_le (by omega),List.take_of_length_le (by omega)] at h;exact h)).symm)
theorem coinSame_ok (a b:Tx):Tells P 109 [.val txT a,.val txT b] (.val boolT (decide (a=b))):=by
 refine zc Tryz.func109 rfl rfl rfl (fun ext w hext=>?_)
 refine qav ?_;refine qai ?_;refine qbV ?_;refine qbV ?_;refine A0 (oCl (equalIn _ _) rfl fn_164 ⟨(zd rfl),(zd rfl),trivial⟩) ?_;refine Sp (d:=9) (p:=a.ins=b.ins) (fun g9=>?_) (fun g9=>?_)
 ·
  refine qar ?_;refine A1 (oFp zbf) ?_;refine A1 (oLb zaU zc9) ?_;refine A1 (oFp zbf) ?_;refine A1 (oLb zaU zc9) ?_;refine A1 (oCl (equalOut _ _) rfl fn_165 ⟨(zd rfl),(zd rfl),trivial⟩) ?_;refine qaW ?_
  exact zb rfl rfl (za rfl (by rw [decide_eq_decide];exact ⟨fun h=>by cases a;cases b;simp_all,fun h=>by rw [h]⟩))
 ·
  refine qar ?_;refine qaJ ?_;refine A2 ?_;refine qaW ?_
  exact zb rfl rfl (za rfl (by symm;apply decide_eq_false;intro h;exact g9 (by rw [h])))
set_option maxRecDepth 20000
def halfN (n:Nat):Nat:=2^(bitLen (n-1)-1)
theorem zdK (n:Nat):0<halfN n:=Nat.two_pow_pos _
theorem zff {n:Nat} (h:2≤n):halfN n<n:=by
  unfold halfN bitLen
  rw [if_neg (by omega),Nat.add_sub_cancel]
  have:=Nat.log2_self_le (n:=n-1) (by omega)
  omega
theorem half_eq {n:Nat} (h:2≤n) (hn:n<4398046511104):IntKind.i64.wrap (1*2^(min (IntL.toI i64T (((bitLen (u64OfI (IntL.toI i64T ((n:Int)-1))).toNat:Nat):Int)-1)).toNat 64))=(halfN n:Nat):=by
  have e1:(u64OfI (IntL.toI i64T ((n:Int)-1))).toNat=n-1:=by
    unfold u64OfI
    show (UInt64.ofNat (((n:Int)-1)%18446744073709551616).toNat).toNat=n-1
    rw [UInt64.toNat_ofNat_of_lt' (by show _<18446744073709551616;omega)];omega
  have hb:=zeZ (s:=42) (n:=n-1) (by omega)
  have hp:2^(bitLen (n-1)-1)≤2^42:=Nat.pow_le_pow_right (by decide) (by omega)
  rw [e1]
  have e2:(IntL.toI i64T (((bitLen (n-1):Nat):Int)-1)).toNat=bitLen (n-1)-1:=by
    show (((bitLen (n-1):Nat):Int)-1).toNat=_;omega
  rw [e2,Nat.min_eq_left (by omega),Int.one_mul]
  have e3:(2:Int)^(bitLen (n-1)-1)=((2^(bitLen (n-1)-1):Nat):Int):=by simp
  rw [e3]
  show _=((2^(bitLen (n-1)-1):Nat):Int)
  obtain ⟨q,hq⟩:∃q,q=2^(bitLen (n-1)-1):=⟨_,rfl⟩
  rw [←hq] at hp ⊢
  exact zai (by omega)
theorem bitLen_one {n:Nat} (h:2≤n) (hn:n<4398046511104):1≤bitLen (u64OfI (IntL.toI i64T ((n:Int)-1))).toNat∧bitLen (u64OfI (IntL.toI i64T ((n:Int)-1))).toNat≤42:=by
  have e1:(u64OfI (IntL.toI i64T ((n:Int)-1))).toNat=n-1:=by
    unfold u64OfI
    show (UInt64.ofNat (((n:Int)-1)%18446744073709551616).toNat).toNat=n-1
    rw [UInt64.toNat_ofNat_of_lt' (by show _<18446744073709551616;omega)];omega
  rw [e1]
  refine ⟨?_,zeZ (by omega)⟩
  unfold bitLen
  rw [if_neg (by omega)];omega
theorem half_ok (n:Nat) (h:2≤n) (hn:n<4398046511104):Tells P 83 [.val i64T (n:Int)] (.val i64T (halfN n:Nat)):=by
 obtain ⟨hb1,hb2⟩:=bitLen_one h hn
 refine zc Tryz.func83 rfl rfl rfl (fun ext w hext=>?_)
 refine ze (d:=0) rfl zQ (fun hin0=>?_)
 refine CQR ?_;refine qa7 ?_;refine A0 zay ?_;refine A0 (zcr rfl (ui_130) (us_3) rfl) ?_;refine A0 (oCl (lenU_ok _) rfl fn_82 ⟨(zd rfl),trivial⟩) ?_;refine A0 zay ?_;refine A0 (g_shlI rfl rfl rfl (by first|decide|omega|(show (0:Int)≤((_:Nat):Int)-1;omega)|(simp [IntL.toI];done)|(simp [IntL.toI];omega)) rfl) ?_;refine qab ?_
 exact zb rfl rfl (za rfl (half_eq h hn))
def leafOf (b:List UInt8):Ab.Id:=shaSum ([0]++b)
theorem leaf_ok (b:List UInt8) (hb:b.length≤1000000):Tells P 85 [.val (bsl u8T) b] (.val idT (leafOf b)):=by
 refine zc Tryz.func85 rfl rfl rfl (fun ext w hext=>?_)
 refine ze (d:=0) rfl zi (fun hsl0=>?_)
 refine CQR ?_;refine qa8 ?_;refine CNQR ?_;refine A0 (zo (T:=u8T) (xs:=[_]) rfl zaW zR ⟨rfl,rfl,trivial⟩ rfl rfl) ?_;refine aw_lend (S:=bsl u8T) (d:=3) rfl ?_;refine qar ?_;refine A0 (zo (T:=(bsl u8T)) (xs:=[_,_]) rfl zdF zde ⟨rfl,rfl,rfl,rfl,trivial⟩ rfl rfl) ?_;refine A0 (oCl (of_ok [[0],b] (by simp;omega)) rfl fn_38 ⟨(zd rfl),trivial⟩) ?_;refine qbz ?_
 exact zu rfl rfl rfl rfl zM (by unfold leafOf;simp)
def nodeText (a b:Ab.Id):List UInt8:=[1]++a++b
def nodeOf (a b:Ab.Id):Ab.Id:=shaSum (nodeText a b)
theorem treeText_ok (a b:Ab.Id) (ha:a.length=32) (hb:b.length=32):Tells P 141 [.val (arrT 2 (by decide) idT) [a,b]] (.fresh 5 u8T (nodeText a b)):=by
 refine zc Tryz.func141 rfl rfl rfl (fun ext w hext=>?_)
 refine qbi ?_;refine CNQ ?_;refine zbe (d:=1) rfl rfl (Lens.self _) ?_
 have e0:([a,b]:List Ab.Id)[0]?=some a:=rfl
 have e1:([a,b]:List Ab.Id)[1]?=some b:=rfl
 refine zx [some 1,some 1,some 1,some 1,some 1,some 1,none,some 1] mixed (by decide +kernel) ?_;refine X0 (zeS (T:=sl u8T) (S:=bsl u8T) (zo (T:=u8T) (xs:=[_]) rfl zaW zR ⟨rfl,rfl,trivial⟩ rfl rfl)) ?_;refine X0 (g_ia_ra (i:=0) rfl rfl rfl (by first|omega|rfl) ar_184 (by assumption)) ?_;refine X0 (zae rfl rfl za5 rfl rfl) ?_;refine X0 (g_ia_ra (i:=1) rfl rfl rfl (by first|omega|rfl) ar_184 (by assumption)) ?_;refine X0 (zae rfl rfl za5 rfl rfl) ?_;refine X0 (zo (T:=(bsl u8T)) (xs:=[_,_,_]) rfl zdF zde ⟨rfl,rfl,rfl,rfl,rfl,rfl,trivial⟩ rfl rfl) ?_
 refine XK.e (fun fr' hfr kk H=>by exact zaE (zeW [[1],a,b] (by simp;omega)) rfl fn_80 ⟨(zd ((hfr 8 (by decide +kernel)).trans rfl)),trivial⟩ rfl rfl rfl (zz H)) ?_;refine X0 aO ?_;refine XK.nil' ?_
 exact zb rfl rfl (zg rfl rfl (by unfold nodeText;simp))
theorem node_ok (a b:Ab.Id):Tells P 84 [.val idT a,.val idT b] (.val idT (nodeOf a b)):=by
 refine zc Tryz.func84 rfl rfl rfl (fun ext w hext=>?_)
 refine ze (d:=0) rfl zfl (fun ha=>?_)
 refine ze (d:=1) rfl zfl (fun hb=>?_)
 refine qav ?_;refine qa8 ?_;refine CNQR ?_;refine qaN ?_;refine qaN ?_;refine A0 (zfg (T:=idT) (xs:=[_,_]) rfl ar_184 ze_184 ⟨rfl,rfl,rfl,rfl,trivial⟩ rfl) ?_;refine A0 (oCl (zs (treeText_ok a b ha hb)) rfl fn_141 ⟨(zd rfl),trivial⟩) ?_;refine A0 (oCl (sum_ok (nodeText a b) (by unfold nodeText;simp;omega)) rfl fn_18 ⟨(zd rfl),trivial⟩) ?_;refine qbz ?_
 exact zu rfl rfl rfl rfl zM (rfl)
set_option maxRecDepth 20000
def rootOf (l:List Ab.Id):Ab.Id:=if l.length=0 then shaSum [2] else if h1:l.length≤1 then l.headD zId else nodeOf (rootOf (l.take (halfN l.length))) (rootOf (l.drop (halfN l.length)))
termination_by l.length
decreasing_by
  · have:=zff (n:=l.length) (by omega);simp;omega
  · have:=zdK l.length;simp;omega
theorem root_ok (l:List Ab.Id) (hl:l.length<4398046511104):Tells P 44 [.val (bsl idT) l] (.val idT (rootOf l)):=by
 refine zc Tryz.func44 rfl rfl rfl (fun ext w hext=>?_)
 refine ze (d:=0) rfl zi (fun hsl0=>?_)
 refine CQR ?_;refine qa8 ?_;refine CNQQR ?_;refine qa6 ?_;refine CNB ?_;refine CQR ?_;refine A0 zbU ?_;refine qab ?_;refine Cf (p:=l.length=0) (fun ht6=>?_) (fun ht6=>?_)
 ·
  refine CQR ?_;refine A0 (zo (T:=u8T) (xs:=[_]) rfl zaW zR ⟨rfl,rfl,trivial⟩ rfl rfl) ?_;refine A0 (oCl (sum_ok [2] (by decide)) rfl fn_18 ⟨(zd rfl),trivial⟩) ?_;refine qbz ?_
  exact zu rfl rfl rfl rfl zM (by rw [rootOf,if_pos ht6])
 ·
  refine CQR ?_;refine A0 zbU ?_;refine qab ?_;refine Cf (p:=l.length=1) (fun ht10=>?_) (fun ht10=>?_)
  ·
   obtain ⟨x,hx⟩:∃x,l[0]?=some x:=⟨_,List.getElem?_eq_getElem (by omega)⟩
   refine qa2 ?_;refine A0 (zm (i:=0) rfl rfl rfl (by omega) zak (by assumption)) ?_;refine A0 (zf rfl rfl zM) ?_;refine qbz ?_
   exact zu rfl rfl rfl rfl zM (by rw [rootOf,if_neg ht6,dif_pos (by omega)];cases l with|nil=>simp at ht6|cons a m=>simp at hx ⊢;exact hx.symm)
  ·
   have hp:=zdK l.length
   have hh:=zff (n:=l.length) (by omega)
   refine CS ?_;refine CI ?_;refine qa2 ?_;refine qci ?_;refine A0 (oCl (half_ok l.length (by omega) (by omega)) rfl fn_83 ⟨(zd rfl),trivial⟩) ?_;refine qaA ?_;refine zx [some 1,some 1,some 1,some 1,some 1,some 1,some 1,some 1,some 1,none] mixed (by decide +kernel) ?_;refine qaP ?_;refine X0 (by first|exact zbt rfl rfl rfl (by first|rfl|omega) zak|exact zdy rfl rfl rfl zak (by first|assumption|omega|(simp;omega))) ?_;refine X0 (oCl (root_ok (l.take (halfN l.length)) (by simp;omega)) rfl fn_44 ⟨(zd rfl),trivial⟩) ?_;refine qaP ?_
   refine X0 (zeP rfl rfl rfl zak (by first|assumption|omega|(simp;omega))) ?_;refine X0 (oCl (root_ok (l.drop (halfN l.length)) (by simp;omega)) rfl fn_44 ⟨(zd rfl),trivial⟩) ?_;refine X0 (oCl (node_ok _ _) rfl fn_84 ⟨(zd rfl),(zd rfl),trivial⟩) ?_;refine XK.e (x:=.idk) (fun fr' hfr kk H=>by exact zh rfl rfl rfl ((hfr 2 (by decide +kernel)).trans rfl) rfl (Lens.self _) zM ((hfr 26 (by decide +kernel)).trans rfl) (zz H)) ?_;refine XK.nil' ?_
   exact zu rfl rfl rfl rfl zM (by conv=>rhs;rw [rootOf,if_neg ht6,dif_neg (by omega)])
termination_by l.length
decreasing_by
  all_goals (simp;omega)
set_option maxRecDepth 20000
theorem fact_total {t:Total} {ρ:Nat→Value} {B:Nat→Prop} {U N:Nat→Prop} {w:World} {v:Value} (hv:(AV.val totalT t).rel ρ B U N w v):t.h.length=32∧t.w.length=4:=by
  obtain ⟨cs,⟨_,_,_,h1,_,_,_,h2,_⟩,_⟩:=hv
  exact ⟨h1.1,h2.1⟩
def totalText (t:Total):List UInt8:=[t.h,bytesW t.w,numBytes (u64OfI (IntL.toI i64T t.n)) 4].flatten
theorem zdH {t:Total} (h:t.h.length=32):(totalText t).length=68:=by unfold totalText;simp [h,zcl,zN]
def joinT (a b:Total):Total:=⟨shaSum ([3]++totalText a++totalText b),addW a.w b.w,IntKind.i64.wrap (a.n+b.n)⟩
def leafT (id:Ab.Id) (w:Wide):Total:=⟨id,w,1⟩
def linkLeaf (id:Ab.Id):Ab.Id:=leafOf id
def linkRoot (l:List Ab.Id):Ab.Id:=rootOf (l.map linkLeaf)
def txRoot (l:List Tx):Ab.Id:=rootOf (l.map idOf)
theorem totalText_ok (t:Total) (hh:t.h.length=32):Tells P 189 [.val totalT t] (.fresh 5 u8T (totalText t)):=by
 refine zc Tryz.func189 rfl rfl rfl (fun ext w hext=>?_)
 refine qbi ?_;refine CNQR ?_;refine qbW ?_;refine A0 (oCl (bytesW_ok _) rfl fn_79 ⟨(zd rfl),trivial⟩) ?_;refine qa8 ?_;refine qap ?_;refine CNQ ?_;refine zbe (d:=1) rfl rfl (Lens.self _) ?_;refine zbe (d:=3) rfl rfl (Lens.self _) ?_
 have hbl:=zcl t.w
 have hn:=zN (u64OfI (IntL.toI i64T t.n)) 4
 refine zx [some 1,some 1,some 1,some 1,some 1,some 1,some 1,some 1,none,some 1] mixed (by decide +kernel) ?_;refine X0 (oFr zcC zb0) ?_;refine X0 (zae rfl rfl za5 rfl rfl) ?_;refine X0 (zae rfl rfl za5 rfl rfl) ?_;refine X0 (oFr zb7 zbE) ?_;refine X0 (zf rfl rfl ty_3) ?_;refine X0 (zcr rfl (ui_33) (us_3) rfl) ?_;refine X0 (zeS (T:=sl u8T) (S:=bsl u8T) (zb5 (zs (binPut_ok _ 4 (by decide))) rfl fn_81 ⟨(zd rfl),(zd rfl),trivial⟩ rfl)) ?_
 refine X0 (zo (T:=(bsl u8T)) (xs:=[_,_,_]) rfl zdF zde ⟨rfl,rfl,rfl,rfl,rfl,rfl,trivial⟩ rfl rfl) ?_;refine XK.e (fun fr' hfr kk H=>by exact zaE (zeW [t.h,bytesW t.w,numBytes (u64OfI (IntL.toI i64T t.n)) 4] (by simp [hh,hbl,hn])) rfl fn_80 ⟨(zd ((hfr 14 (by decide +kernel)).trans rfl)),trivial⟩ rfl rfl rfl (zz H)) ?_;refine X0 aO ?_;refine XK.nil' ?_
 exact zb rfl rfl (zg rfl rfl rfl)
theorem mleaf_ok (id:Ab.Id) (w:Wide):Tells P 131 [.val idT id,.val wideT w] (.val totalT (leafT id w)):=by
 refine zc Tryz.func131 rfl rfl rfl (fun ext w hext=>?_)
 refine qav ?_;refine qbt ?_;refine CNQR ?_;refine qaN ?_;refine qau ?_;refine A0 (zV rfl ze_119 bd_119 (.cons zcC zb0 zM rfl (.cons zfk zeb zZ rfl (.cons zb7 zbE ty_3 rfl .nil))) rfl) ?_;refine qaH ?_;refine CN ?_
 exact zu rfl rfl rfl rfl zaI (rfl)
theorem join_ok (a b:Total):Tells P 129 [.val totalT a,.val totalT b] (.val totalT (joinT a b)):=by
 refine zc Tryz.func129 rfl rfl rfl (fun ext w hext=>?_)
 refine ze (d:=0) rfl fact_total (fun ha=>?_)
 refine ze (d:=1) rfl fact_total (fun hb=>?_)
 refine qav ?_;refine qbt ?_;refine CNQR ?_;refine qbW ?_;refine qbW ?_;refine A0 (oCl (addW_ok _ _) rfl fn_188 ⟨(zd rfl),(zd rfl),trivial⟩) ?_;refine A0 mX ?_;refine A0 (by first|exact zW rfl rfl|exact zU rfl rfl) ?_;refine A0 (by first|exact zY rfl rfl|exact zX rfl rfl) ?_;refine qcm ?_;refine qaA ?_;refine zx [some 1,some 1,some 1,some 1,some 1,some 1,some 1,some 1,some 1,some 1,some 1,some 1,some 1,some 1,none] mixed (by decide +kernel) ?_;refine X0 (zeS (T:=sl u8T) (S:=bsl u8T) (zo (T:=u8T) (xs:=[_]) rfl zaW zR ⟨rfl,rfl,trivial⟩ rfl rfl)) ?_
 refine X0 (oLs rfl rfl rfl zaI) ?_;refine X0 (zeS (T:=sl u8T) (S:=bsl u8T) (zb5 (zs (totalText_ok a ha.1)) rfl fn_189 ⟨(zd rfl),trivial⟩ rfl)) ?_;refine X0 (oLs rfl rfl rfl zaI) ?_;refine X0 (zeS (T:=sl u8T) (S:=bsl u8T) (zb5 (zs (totalText_ok b hb.1)) rfl fn_189 ⟨(zd rfl),trivial⟩ rfl)) ?_;refine X0 (zo (T:=(bsl u8T)) (xs:=[_,_,_]) rfl zdF zde ⟨rfl,rfl,rfl,rfl,rfl,rfl,trivial⟩ rfl rfl) ?_;refine X0 (oCl (of_ok [[3],totalText a,totalText b] (by simp [zdH ha.1,zdH hb.1])) rfl fn_38 ⟨(zd rfl),trivial⟩) ?_;refine qbI ?_
 refine X0 (oFp zb7) ?_;refine X0 (oLb zbE ty_3) ?_;refine X0 (oFp zb7) ?_;refine X0 (oLb zbE ty_3) ?_;refine X0 zaG ?_;refine X0 (zV rfl ze_119 bd_119 (.cons zcC zb0 zM rfl (.cons zfk zeb zZ rfl (.cons zb7 zbE ty_3 rfl .nil))) rfl) ?_;refine XK.e (x:=.idk) (fun fr' hfr kk H=>by exact zh rfl rfl rfl ((hfr 4 (by decide +kernel)).trans rfl) rfl (Lens.self _) zaI ((hfr 28 (by decide +kernel)).trans rfl) (zz H)) ?_;refine XK.nil' ?_
 exact zu rfl rfl rfl rfl zaI (by unfold joinT;simp)
theorem linkLeaf_ok (id:Ab.Id):Tells P 46 [.val idT id] (.val idT (linkLeaf id)):=by
 refine zc Tryz.func46 rfl rfl rfl (fun ext w hext=>?_)
 refine ze (d:=0) rfl zfl (fun hid=>?_)
 refine qad ?_;refine qa8 ?_;refine CNQ ?_;refine zbe (d:=1) rfl rfl (Lens.self _) ?_;refine CR ?_;refine A0 (zae rfl rfl za5 rfl rfl) ?_;refine A0 (oCl (leaf_ok id (by omega)) rfl fn_85 ⟨(zd rfl),trivial⟩) ?_;refine qbz ?_
 exact zu rfl rfl rfl rfl zM (rfl)
theorem mapped_ok (l:List Ab.Id) (f:Ab.Id→Ab.Id) (hl:l.length≤4000000000000):Tells P 45 [.val (bsl idT) l,.fn1 P idT idT f] (.fresh 32 idT (l.map f)):=by
 refine zc Tryz.func45 rfl rfl rfl (fun ext w hext=>?_)
 refine ze (d:=0) rfl zi (fun hsl0=>?_)
 refine qbP ?_;refine A0 aL ?_;refine CNQQR ?_;refine qa6 ?_;refine qaI ?_;refine za0 (T:=idT) (d:=5) 32 rfl ?_;refine Lp (ι:=Nat) 1 (fun (k:Nat)=>((((((Fr.none).set 0 (.val (bsl idT) l)).set 1 (.fn1 P idT idT f)).set 5 (.own 0)).set 8 (.val (bsl idT) l)).set 9 (.val i64T (l.length:Int))).set 10 (.val i64T (k:Int))) (fun (k:Nat)=>(Hp.none).set 0 (.row 32 idT ((l.take k).map f))) (fun (k:Nat)=>k≤l.length) (fun (k:Nat)=>l.length-k) (0) (Nat.zero_le _) ?_
 intro k hinv
 refine qao ?_;refine Cf (p:=k<l.length) (fun ht11=>?_) (fun ht11=>?_)
 ·
  obtain ⟨x,hx⟩:∃x,l[k]?=some x:=⟨_,List.getElem?_eq_getElem ht11⟩
  refine CSQBQR ?_;refine A0 (zaQ rfl rfl rfl zak (by assumption)) ?_;refine A0 (zf rfl rfl zM) ?_;refine qa8 ?_;refine qap ?_;refine CNR ?_;refine A0 mO ?_;refine A0 mF ?_;refine qaN ?_;refine A0 (zeo rfl rfl (zd rfl)) ?_;refine A0 (zo (T:=idT) (xs:=[_]) rfl zak zbI ⟨rfl,rfl,trivial⟩ rfl rfl) ?_;refine zn rfl rfl rfl rfl rfl rfl rfl zbI (by simp;omega) ?_;refine A0 aO ?_;refine qbw ?_;refine zaB 2 0 3 rfl rfl rfl rfl rfl rfl ?_;refine zK (n:=0) (y:=(l.take (k+1)).map f) rfl (by rw [List.take_add_one,hx];simp) ?_
  exact Nx (k+1) (by omega) (by omega)
 ·
  refine qat ?_
  exact zb rfl rfl (zg rfl rfl (by rw [List.take_of_length_le (by omega)]))
theorem zcG (l:List Ab.Id) (hl:l.length≤4000000000000):Tells P 17 [.val (bsl idT) l] (.val idT (linkRoot l)):=by
 refine zc Tryz.func17 rfl rfl rfl (fun ext w hext=>?_)
 refine ze (d:=0) rfl zi (fun hsl0=>?_)
 refine CQR ?_;refine qa8 ?_;refine qbx ?_;refine A0 (oCl (zs (mapped_ok l linkLeaf hl)) rfl fn_45 ⟨(zd rfl),(by first|exact zc4 (Cs:=[]) rfl fn_46 (by intro n hn;cases hn) trivial rfl (fun x=>linkLeaf_ok x)|exact zc3 (Cs:=[]) rfl fn_46 (by intro n hn;cases hn) trivial rfl (fun x y=>linkLeaf_ok x)|exact zc5 rfl),trivial⟩) ?_;refine A0 (oCl (root_ok (l.map linkLeaf) (by simp;omega)) rfl fn_44 ⟨(zd rfl),trivial⟩) ?_;refine qbz ?_
 exact zu rfl rfl rfl rfl zM (rfl)
theorem leads_ok (l:List Ab.Id) (prev id:Ab.Id):Tells P 13 [.val (bsl idT) l,.val idT prev,.val idT id] (.val boolT (decide (prev=id)||l.any fun x=>decide (id=x))):=by
 refine zc Tryz.func13 rfl rfl rfl (fun ext w hext=>?_)
 refine ze (d:=0) rfl zi (fun hsl0=>?_)
 refine qav ?_;refine qai ?_;refine qaN ?_;refine qaN ?_;refine A0 (zcM rfl rfl rfl (zbJ)) ?_;refine Sp (d:=9) (p:=prev=id) (fun g9=>?_) (fun g9=>?_)
 ·
  refine qar ?_;refine qac ?_;refine qaW ?_
  exact zb rfl rfl (za rfl (by simp [g9]))
 ·
  refine qar ?_;refine A1 mV ?_;refine A1 (oLs rfl rfl rfl zM) ?_;refine A1 (oCl (containsId _ _) rfl fn_36 ⟨(zd rfl),(zd rfl),trivial⟩) ?_;refine qaW ?_
  exact zb rfl rfl (za rfl (by simp [g9]))
theorem txRoot_ok (l:List Tx) (hl:l.length≤4000000000000):Tells P 72 [.val (bsl txT) l] (.val idT (txRoot l)):=by
 refine zc Tryz.func72 rfl rfl rfl (fun ext w hext=>?_)
 refine ze (d:=0) rfl zi (fun hsl0=>?_)
 refine CQR ?_;refine qa8 ?_;refine CNQR ?_;refine A0 aL ?_;refine qbb ?_;refine qbq ?_;refine qaI ?_;refine za0 (T:=idT) (d:=3) 32 rfl ?_;refine Lp (ι:=Nat) 2 (fun (k:Nat)=>(((((Fr.none).set 2 (.ptr 0 0)).set 3 (.own 1)).set 6 (.val (bsl txT) l)).set 7 (.val i64T (l.length:Int))).set 8 (.val i64T (k:Int))) (fun (k:Nat)=>((Hp.none).set 0 (.box 32 idT zId)).set 1 (.row 32 idT ((l.take k).map idOf))) (fun (k:Nat)=>k≤l.length) (fun (k:Nat)=>l.length-k) (0) (Nat.zero_le _) ?_
 intro k hinv
 refine qao ?_;refine Cf (p:=k<l.length) (fun ht9=>?_) (fun ht9=>?_)
 ·
  obtain ⟨x,hx⟩:∃x,l[k]?=some x:=⟨_,List.getElem?_eq_getElem ht9⟩
  refine CSQBQR ?_;refine qaU ?_;refine qbN ?_;refine CNR ?_;refine A0 mO ?_;refine qbd ?_;refine A0 (oCl (id_ok _) rfl fn_127 ⟨(zd rfl),trivial⟩) ?_;refine A0 (zo (T:=idT) (xs:=[_]) rfl zak zbI ⟨rfl,rfl,trivial⟩ rfl rfl) ?_;refine zn rfl rfl rfl rfl rfl rfl rfl zbI (by simp;omega) ?_;refine A0 aO ?_;refine qbw ?_;refine zaB 3 1 4 rfl rfl rfl rfl rfl rfl ?_;refine zK (n:=1) (y:=(l.take (k+1)).map idOf) rfl (by rw [List.take_add_one,hx];simp) ?_
  exact Nx (k+1) (by omega) (by omega)
 ·
  obtain rfl:k=l.length:=(by omega)
  refine aw_pub (d:=3) rfl rfl ?_;refine zp (d:=3) (y:=l.map idOf) rfl (by rw [List.take_length]) ?_;refine CE ?_;refine qa2 ?_;refine A0 (oCl (root_ok (l.map idOf) (by simp;omega)) rfl fn_44 ⟨(zd rfl),trivial⟩) ?_;refine qbz ?_
  exact zu rfl rfl rfl rfl zM (rfl)
set_option maxRecDepth 20000
def rootFrom:List Total→Total→Total
  | [],x=>x
  | y::r,x=>rootFrom r (joinT y x)
def mmrRoot (p:List Total):Total:=match p.reverse with
  | []=>⟨shaSum [4],zWide,0⟩
  | x::r=>rootFrom r x
def pushR:List Total→Total→List Total
  | [],x=>[x]
  | y::r,x=>if y.n=x.n then pushR r (joinT y x) else x::y::r
def mmrAppend (p:List Total) (leaf:Total):List Total:=(pushR p.reverse leaf).reverse
theorem mmrRoot_nil:mmrRoot []=⟨shaSum [4],zWide,0⟩:=rfl
theorem mmrRoot_eq {p:List Total} {x:Total} {n:Nat} (hn:p.length=n+1) (hx:p[n]?=some x):mmrRoot p=rootFrom (p.take n).reverse x:=by
  have e:p=p.take n++[x]:=by
    have:=List.take_add_one (l:=p) (i:=n)
    rw [List.take_of_length_le (by omega),hx] at this
    simpa using this
  unfold mmrRoot
  conv=>lhs;rw [e]
  simp
theorem rootFrom_step {p:List Total} {k:Nat} {x y:Total} (hx:p[k]?=some x):rootFrom (p.take (k+1)).reverse y=rootFrom (p.take k).reverse (joinT x y):=by
  rw [List.take_add_one,hx];simp [rootFrom]
theorem mmrRoot_ok (p:List Total) (hp:p.length≤1000000):Tells P 73 [.val (bsl totalT) p] (.val totalT (mmrRoot p)):=by
 refine zc Tryz.func73 rfl rfl rfl (fun ext w hext=>?_)
 refine ze (d:=0) rfl zi (fun hsl0=>?_)
 refine CQR ?_;refine qbt ?_;refine qbb ?_;refine A0 (zah rfl rfl zel) ?_;refine A0 zbU ?_;refine CN ?_;refine Cf (p:=p.length=0) (fun ht8=>?_) (fun ht8=>?_)
 ·
  obtain rfl:p=[]:=List.length_eq_zero_iff.1 ht8
  refine CQR ?_;refine A0 (zo (T:=u8T) (xs:=[_]) rfl zaW zR ⟨rfl,rfl,trivial⟩ rfl rfl) ?_;refine A0 (oCl (sum_ok [4] (by decide)) rfl fn_18 ⟨(zd rfl),trivial⟩) ?_;refine A0 (zV rfl ze_119 bd_119 (.cons zcC zb0 zM rfl .nil) rfl) ?_;refine qaH ?_;refine CN ?_
  exact zu rfl rfl rfl rfl zaI (mmrRoot_nil.symm)
 ·
  obtain ⟨n,hn⟩:∃n,p.length=n+1:=⟨p.length-1,by omega⟩
  obtain ⟨x0,hx0⟩:∃x,p[n]?=some x:=⟨_,List.getElem?_eq_getElem (by omega)⟩
  have hroot:=mmrRoot_eq hn hx0
  refine qcl ?_;refine A0 (zah rfl rfl zel) ?_;refine A0 zay ?_;refine A0 (zm (i:=n) rfl rfl rfl (by omega) zdI (by assumption)) ?_;refine A0 (zf rfl rfl zaI) ?_;refine qbt ?_;refine qaH ?_;refine CNQQR ?_;refine qag ?_;refine A0 (zah rfl rfl zel) ?_;refine A0 zay ?_;refine A0 (by first|exact zbt rfl rfl rfl (by first|rfl|omega) zdI|exact zdy rfl rfl rfl zdI (by first|assumption|omega|(simp;omega))) ?_;refine zp (d:=22) (y:=p.take n) rfl (by congr 1;omega) ?_;refine zcf rfl rfl rfl rfl Tryz.func128 fn_128 rfl rfl (fun ia1 iok1=>?_)
  refine qbi ?_;refine CNQR ?_;refine A0 (g_mkf (caps:=[_]) rfl rfl) ?_;refine A0 aC ?_;refine CN ?_;refine zc2 rfl ?_;refine CNB ?_;refine aw_range rfl rfl rfl Tryz.func187 fn_187 rfl rfl (by intro n hn;simp only [List.mem_cons,List.not_mem_nil,or_false] at hn;rcases hn with rfl<;>rfl) (fun fid2 ca2 lN2 DN2 cok2 rc2 hrc2=>?_)
  refine CQR ?_;refine A0 (oLs rfl rfl rfl ty_61) ?_;refine A0 (zah rfl rfl zel) ?_;refine A0 zay ?_;refine qbC ?_;refine zp (d:=3) (y:=(n:Int)-1) rfl (by simp;omega) ?_
  refine Lp (ι:=Nat×Total) 5 (fun (i:Nat×Total)=>match i with|(k,y)=>(((Fr.none).set 0 (.lit (.func (.yield lN2) #[] #[]))).set 1 (.ptr 2 0)).set 3 (.val i64T ((k:Int)-1))) (fun (i:Nat×Total)=>match i with|(k,y)=>(((((Hp.none).set 0 (.box 119 totalT zTotal)).set 1 (.box 119 totalT y)).set 2 (.box 61 (bsl totalT) (p.take n))).set 3 (.objAt DN2 (.deferred (some [])))).set 4 (.objAt lN2 (rc2 .ready none))) (fun (i:Nat×Total)=>match i with|(k,y)=>k≤n∧mmrRoot p=rootFrom (p.take k).reverse y) (fun (i:Nat×Total)=>match i with|(k,y)=>k) ((n,x0)) (⟨Nat.le_refl _,hroot⟩) ?_
  intro ⟨k,y⟩ hinv
  dsimp only at hinv
  refine qa9 ?_;refine qbk ?_;refine Cf (p:=0<k) (fun ht8=>?_) (fun ht8=>?_)
  ·
   obtain ⟨x,hx⟩:∃x,(p.take n)[k-1]?=some x:=⟨_,List.getElem?_eq_getElem (by simp;omega)⟩
   have hx2:p[k-1]?=some x:=by rw [List.getElem?_take] at hx;split at hx;exact hx;cases hx
   refine CSQBQR ?_;refine A0 mL ?_;refine qar ?_;refine A0 (oLs rfl rfl rfl ty_61) ?_;refine qar ?_;refine A0 (zm (i:=k-1) rfl rfl rfl (by omega) zdI (by assumption)) ?_;refine A0 (zf rfl rfl zaI) ?_;refine aw_yield (nL:=4) rfl rfl rfl rfl rfl hrc2 rfl rfl rfl (fun ya3 yok3=>?_)
   refine CR ?_;refine qbt ?_;refine qaH ?_;refine CN ?_;refine aw_begin (nL:=4) hrc2 rfl ?_;refine CB ?_;refine CR ?_;refine A0 (oLs rfl rfl rfl zaI) ?_;refine A0 (oLs rfl rfl rfl zaI) ?_;refine A0 (oCl (join_ok _ _) rfl fn_129 ⟨(zd rfl),(zd rfl),trivial⟩) ?_;refine qaH ?_;refine CN ?_;refine CI ?_;refine zdz (nL:=4) hrc2 rfl ?_;refine qaE ?_;refine Cg ?_;refine CSIR ?_;refine qby ?_;refine qab ?_;refine zp (d:=3) (y:=((k-1:Nat):Int)-1) rfl (by omega) ?_
   exact Nx ((k-1,joinT x y)) (⟨by omega,by rw [hinv.2,show k=k-1+1 by omega,rootFrom_step hx2];rfl⟩) (by show k-1<k;omega)
  ·
   obtain rfl:k=0:=(by omega)
   refine CE ?_;refine zdA (nL:=4) rfl hrc2 rfl (by decide) ?_;refine CI ?_;refine CQR ?_;refine A0 (oLs rfl rfl rfl zaI) ?_;refine qaH ?_;refine CN ?_;refine zaK (zc6 (nD:=3) rfl rfl rfl ?_)
   exact ar_retc1 rfl rfl rfl rfl zaI (by rw [hinv.2];rfl)
set_option maxRecDepth 20000
theorem mmrAppend_ok (p:List Total) (leaf:Total) (hp:p.length≤1000000):Tells P 74 [.val (bsl totalT) p,.val totalT leaf] (.fresh 119 totalT (mmrAppend p leaf)):=by
 refine zc Tryz.func74 rfl rfl rfl (fun ext w hext=>?_)
 refine ze (d:=0) rfl zi (fun hsl0=>?_)
 refine qbi ?_;refine CN ?_;refine aw_scope (ι:=List Total×Total) 2 0 rfl rfl rfl (fun (i:List Total×Total)=>match i with|(r,x)=>((Fr.none).set 3 (.ptr 0 0)).set 5 (.own 1)) (fun (i:List Total×Total)=>match i with|(r,x)=>((Hp.none).set 0 (.box 119 totalT leaf)).set 1 (.row 119 totalT (r.reverse++[x]))) (fun (i:List Total×Total)=>match i with|(r,x)=>r.length≤1000000∧pushR r x=pushR p.reverse leaf) (fun (i:List Total×Total)=>match i with|(r,x)=>r.length) ?_ (fun hreach=>?_)
 ·
  intro ⟨r,x⟩ hinv
  dsimp only at hinv
  refine CQR ?_;refine A0 mO ?_;refine A0 (zaY rfl rfl rfl zel) ?_;refine zp (d:=13) (y:=((r.length+1:Nat):Int)) rfl (by simp) ?_;refine qaA ?_;refine qcd ?_;refine G0 zbh ?_;refine zab (d:=15) (p:=r=[]) rfl (by rw [decide_eq_decide];show ((r.length+1:Nat):Int)<2↔_;rw [←List.length_eq_zero_iff];omega) (fun g15=>?_) (fun g15=>?_)
  ·
   refine G0 mV ?_;refine qaa ?_;refine qaa ?_;refine G2 ?_;refine qaK ?_;refine Ct ?_;refine CQR ?_;refine A0 mO ?_;refine qbe ?_
   exact zb rfl rfl (zg rfl rfl (by unfold mmrAppend;rw [←hinv.2,g15];rfl))
  ·
   obtain ⟨y,s,hr⟩:∃y s,r=y::s:=by cases r with|nil=>exact absurd rfl g15|cons y s=>exact ⟨y,s,rfl⟩
   have hrl:r.length=s.length+1:=by rw [hr];rfl
   have hx1:(r.reverse++[x])[s.length]?=some y:=by rw [hr];simp
   have hx2:(r.reverse++[x])[s.length+1]?=some x:=by rw [List.getElem?_append_right (by simp [hrl])];simp [hrl]
   refine G0 mV ?_;refine G1 mO ?_;refine G1 mV ?_;refine G1 zay ?_;refine G1 (zas (i:=s.length) rfl rfl rfl rfl (by first|omega|rfl) zdI (by first|assumption|omega|(simp;omega))) ?_;refine G1 (g_fa_e rfl rfl zb7 rfl) ?_;refine G1 (zT rfl rfl rfl rfl (by assumption) zbE ty_3) ?_;refine G1 mO ?_;refine G1 mV ?_;refine G1 zay ?_;refine G1 (zas (i:=s.length+1) rfl rfl rfl rfl (by first|omega|rfl) zdI (by first|assumption|omega|(simp;omega))) ?_;refine G1 (g_fa_e rfl rfl zb7 rfl) ?_;refine G1 (zT rfl rfl rfl rfl (by assumption) zbE ty_3) ?_
   refine G1 zd2 ?_;refine qaK ?_;refine zj (p:=¬y.n=x.n) rfl (by simp [IntL.toI]) (fun ht30=>?_) (fun ht30=>?_)
   ·
    refine CQR ?_;refine A0 mO ?_;refine qbe ?_
    exact zb rfl rfl (zg rfl rfl (by unfold mmrAppend;rw [←hinv.2,hr,pushR,if_neg ht30];simp))
   ·
    refine CS ?_;refine CQ ?_;refine zx [some 1,some 1,some 1,some 1,some 1,some 1,some 1,some 1,some 1,some 1,some 1,some 1,some 1,some 1,some 1,some 1,none,some 1] mixed (by decide +kernel) ?_;refine X0 mO ?_;refine X0 mV ?_;refine X0 zay ?_;refine X0 (g_os_h (q:=s.length) rfl rfl rfl rfl zdI (by first|omega|rfl) (by first|assumption|omega|(simp;omega))) ?_;refine X0 mO ?_;refine X0 mV ?_;refine X0 zay ?_;refine X0 (zas (i:=s.length) rfl rfl rfl rfl (by first|omega|rfl) zdI (by first|assumption|omega|(simp;omega))) ?_
    refine X0 (zT rfl rfl rfl rfl (by assumption) (Lens.self _) zaI) ?_;refine X0 mO ?_;refine X0 mV ?_;refine X0 zay ?_;refine X0 (zas (i:=s.length+1) rfl rfl rfl rfl (by first|omega|rfl) zdI (by first|assumption|omega|(simp;omega))) ?_;refine X0 (zT rfl rfl rfl rfl (by assumption) (Lens.self _) zaI) ?_;refine X0 (oCl (join_ok _ _) rfl fn_129 ⟨(zd rfl),(zd rfl),trivial⟩) ?_;refine X0 (zo (T:=totalT) (xs:=[_]) rfl zdI zef ⟨rfl,rfl,trivial⟩ rfl rfl) ?_
    refine XK.e (fun fr' hfr kk H=>by exact aw_append_inv rfl rfl rfl rfl ((hfr 35 (by decide +kernel)).trans rfl) ((hfr 47 (by decide +kernel)).trans rfl) rfl zef (by simp;omega) (zz H)) ?_;refine X0 aS ?_;refine XK.nil' ?_;refine aw_shrink (d:=5) rfl rfl rfl (by simp;omega) ?_;refine zaB 2 1 3 rfl rfl rfl rfl rfl rfl ?_;refine zK (n:=1) (y:=s.reverse++[joinT y x]) rfl (by simp [hr,List.take_append];exact List.take_of_length_le (by simp)) ?_
    exact aw_goto ((s,joinT y x)) rfl (⟨by omega,by rw [←hinv.2,hr,pushR,if_pos (Classical.not_not.1 ht30)]⟩) (by show s.length<r.length;omega) rfl (by (repeat refine Fr.le_set ?_ (by first|rfl|(simp;done)));exact Fr.le_none _) (by (repeat refine Hp.le_set ?_ rfl);exact Hp.le_none _) (by (repeat refine Fr.below_setB ?_ rfl);exact Fr.below_none _) (by (repeat refine Hp.below_set ?_ (by decide));exact Hp.below_none _)
 ·
  refine CQ ?_;refine zx [some 1,none,some 2,some 2,none,some 1] mixed (by decide +kernel) ?_;refine X0 mV ?_;refine XK.e (fun fr' hfr kk H=>by exact zaE (cloneTotal p (by constructor<;>omega)) rfl fn_130 ⟨(zd ((hfr 7 (by decide +kernel)).trans rfl)),trivial⟩ rfl rfl rfl (zz H)) ?_;refine XK.gb (t:=3) rfl rfl (fun _ he=>zl rfl rfl he (Lens.self _) zaI) rfl ⟨rfl,rfl,trivial⟩ rfl rfl rfl ?_;refine XK.g2 (zo (T:=totalT) (xs:=[_]) rfl zdI zef ⟨rfl,rfl,trivial⟩ rfl rfl) (zo (T:=totalT) (xs:=[_]) rfl zdI zef ⟨rfl,rfl,trivial⟩ rfl rfl) rfl rfl rfl ?_
  refine XK.e (fun fr' hfr kk H=>by exact zn rfl rfl rfl rfl ((hfr 8 (by decide +kernel)).trans rfl) rfl ((hfr 10 (by decide +kernel)).trans rfl) zef (by simp;omega) (zz H)) ?_;refine X0 aO ?_;refine XK.nil' ?_;refine CQR ?_;refine qaA ?_;refine zaB 2 1 3 rfl rfl rfl rfl rfl rfl ?_;refine zK (n:=1) (y:=p.reverse.reverse++[leaf]) rfl (by simp) ?_
  exact aw_reach hreach ((p.reverse,leaf)) rfl (⟨by simp;omega,rfl⟩) rfl (by (repeat refine Fr.le_set ?_ (by first|rfl|(simp;done)));exact Fr.le_none _) (by (repeat refine Hp.le_set ?_ rfl);exact Hp.le_none _) (by (repeat refine Fr.below_setB ?_ rfl);exact Fr.below_none _) (by (repeat refine Hp.below_set ?_ (by decide));exact Hp.below_none _)
set_option maxRecDepth 20000
theorem growNilId (n:Nat) (hn:n≤1000000):Tells P 260 [.lit (.slice none 0 0),.val i64T (n:Int)] (.fresh 32 idT []):=by
 refine zc Tryz.func260 rfl rfl rfl (fun ext w hext=>?_)
 refine ze (d:=1) rfl zQ (fun hin1=>?_)
 refine qay ?_;refine qbb ?_;refine qaz ?_;refine zeG rfl (decide_eq_false (by show ¬((n:Int)<0);omega)) ?_;refine qbO ?_;refine A0 mL ?_;refine A0 (g_cap_nil rfl rfl zaJ) ?_;refine A0 mL ?_;refine A0 (by first|exact zah rfl rfl zaJ|exact zaY rfl rfl rfl zaJ|exact zbu rfl rfl zaJ) ?_;refine A0 zay ?_;refine A0 zay ?_;refine qa7 ?_;refine qcb ?_;refine zj (p:=0<n) rfl (by rw [decide_eq_decide];simp only [IntL.toI,id_eq];omega) (fun ht16=>?_) (fun ht16=>?_)
 ·
  refine CR ?_;refine A0 mL ?_;refine A0 mL ?_;refine A0 (g_cap_nil rfl rfl zaJ) ?_;refine A0 (by first|exact zbt rfl rfl rfl (by first|rfl|omega) zak|exact zdy rfl rfl rfl zak (by first|assumption|omega|(simp;omega))) ?_;refine qar ?_;refine aw_appendz (T:=idT) (n:=n) rfl rfl rfl rfl rfl rfl (by first|rfl|omega) zbI ze_32 (ui_3) (⟨by assumption,by omega,by omega⟩) ?_;refine A0 mL ?_;refine A0 (by first|exact zah rfl rfl zaJ|exact zaY rfl rfl rfl zaJ|exact zbu rfl rfl zaJ) ?_
  refine A0 (g_os_h (q:=0) rfl rfl rfl rfl zak (by first|omega|rfl) (by first|assumption|omega|(simp;omega))) ?_;refine A0 aS ?_;refine CNQR ?_;refine A0 mS ?_;refine A0 aS ?_;refine CN ?_
  exact zb rfl rfl (ret_fresh_s rfl rfl (by simp;omega) rfl)
 ·
  refine CSQR ?_;refine A0 mL ?_;refine A0 aL ?_;refine CN ?_
  exact zb rfl rfl (zH rfl)
theorem concatId (ls:List (List Ab.Id)) (hl:ls.flatten.length≤1000000):Tells P 235 [.val (bsl (bsl idT)) ls] (.fresh 32 idT ls.flatten):=by
 refine zc Tryz.func235 rfl rfl rfl (fun ext w hext=>?_)
 refine ze (d:=0) rfl zi (fun hsl0=>?_)
 refine qbP ?_;refine qah ?_;refine A0 (zah rfl rfl isl_278) ?_;refine qaI ?_;refine Lp (ι:=Nat) 0 (fun (k:Nat)=>(((((Fr.none).set 0 (.val (bsl (bsl idT)) ls)).set 3 (.val i64T ((ls.take k).flatten.length:Int))).set 9 (.val (bsl (bsl idT)) ls)).set 10 (.val i64T (ls.length:Int))).set 11 (.val i64T (k:Int))) (fun (k:Nat)=>Hp.none) (fun (k:Nat)=>k≤ls.length) (fun (k:Nat)=>ls.length-k) (0) (Nat.zero_le _) ?_
 intro k hinv
 refine qao ?_;refine Cf (p:=k<ls.length) (fun ht12=>?_) (fun ht12=>?_)
 ·
  obtain ⟨x,hx⟩:∃x,ls[k]?=some x:=⟨_,List.getElem?_eq_getElem ht12⟩
  have hle:=zep ls (k+1)
  rw [za8 hx,List.length_append] at hle
  refine CSQBQR ?_;refine A0 (zaQ rfl rfl rfl sl_278 (by assumption)) ?_;refine A0 (zf rfl rfl zbj) ?_;refine A0 aX ?_;refine qbx ?_;refine A0 mX ?_;refine A0 (by first|exact zah rfl rfl zaJ|exact zaY rfl rfl rfl zaJ|exact zbu rfl rfl zaJ) ?_;refine A0 zaG ?_;refine qa7 ?_;refine qaz ?_;refine zeG rfl (decide_eq_false (by simp only [IntL.toI,id_eq];omega)) ?_;refine qbn ?_;refine zp (d:=3) (y:=((ls.take (k+1)).flatten.length:Int)) rfl (by rw [za8 hx,List.length_append];omega) ?_
  exact Nx (k+1) (by omega) (by omega)
 ·
  refine zp (d:=3) (y:=((ls.flatten.length:Nat):Int)) rfl (by rw [List.take_of_length_le (by omega)]) ?_;refine CE ?_;refine qa2 ?_;refine zaE (growNilId ls.flatten.length hl) rfl fn_260 ⟨(by first|exact zq rfl|exact zC rfl|exact zy rfl rfl|exact zA rfl|exact zr rfl|exact zL rfl rfl|exact zB rfl),(zd rfl),trivial⟩ rfl rfl rfl ?_;refine A0 aO ?_;refine qbb ?_;refine A0 (zah rfl rfl isl_278) ?_;refine qaI ?_
  refine Lp (ι:=Nat) 1 (fun (k:Nat)=>((((Fr.none).set 6 (.own 0)).set 25 (.val (bsl (bsl idT)) ls)).set 26 (.val i64T (ls.length:Int))).set 27 (.val i64T (k:Int))) (fun (k:Nat)=>(Hp.none).set 0 (.row 32 idT (ls.take k).flatten)) (fun (k:Nat)=>k≤ls.length) (fun (k:Nat)=>ls.length-k) (0) (Nat.zero_le _) ?_
  intro k hinv
  refine qao ?_;refine Cf (p:=k<ls.length) (fun ht28=>?_) (fun ht28=>?_)
  ·
   obtain ⟨x,hx⟩:∃x,ls[k]?=some x:=⟨_,List.getElem?_eq_getElem ht28⟩
   have hle:=zep ls (k+1)
   rw [za8 hx,List.length_append] at hle
   refine CSQBQR ?_;refine A0 (zaQ rfl rfl rfl sl_278 (by assumption)) ?_;refine A0 (zf rfl rfl zbj) ?_;refine A0 aX ?_;refine CNR ?_;refine A0 mO ?_;refine A0 mX ?_;refine zn rfl rfl rfl rfl rfl rfl rfl zbI (by omega) ?_;refine A0 aO ?_;refine qbw ?_;refine zaB 1 0 2 rfl rfl rfl rfl rfl rfl ?_;refine zK (n:=0) rfl (za8 hx).symm ?_
   exact Nx (k+1) (by omega) (by omega)
  ·
   refine qat ?_
   exact zb rfl rfl (zg rfl rfl (by rw [List.take_of_length_le (by omega)]))
def mulM (x y:UInt64):UInt64:=shr64 x 32*(y&&&4294967295)+shr64 ((x&&&4294967295)*(y&&&4294967295)) 32
def mulHi (x y:UInt64):UInt64:=shr64 x 32*shr64 y 32+shr64 (mulM x y) 32+shr64 ((mulM x y&&&4294967295)+(x&&&4294967295)*shr64 y 32) 32
theorem mul64_ok (x y:UInt64):Tells P 282 [.val u64T x,.val u64T y] (.tup2 (.val u64T (mulHi x y)) (.val u64T (x*y))):=by
 refine zc Tryz.func282 rfl rfl rfl (fun ext w hext=>?_)
 refine CQR ?_;refine A0 aV ?_;refine qa7 ?_;refine A0 (g_and64 rfl rfl rfl) ?_;refine qa7 ?_;refine A0 (zbP rfl rfl rfl (by first|decide|(simp [IntL.toI];done)|(simp [IntL.toI];omega)) rfl) ?_;refine qa7 ?_;refine A0 (g_and64 rfl rfl rfl) ?_;refine qa7 ?_;refine A0 (zbP rfl rfl rfl (by first|decide|(simp [IntL.toI];done)|(simp [IntL.toI];omega)) rfl) ?_;refine qb7 ?_;refine A0 (g_mul64 rfl rfl rfl) ?_;refine qb7 ?_;refine A0 (g_mul64 rfl rfl rfl) ?_;refine qar ?_;refine A0 (zbP rfl rfl rfl (by first|decide|(simp [IntL.toI];done)|(simp [IntL.toI];omega)) rfl) ?_
 refine A0 (zcV rfl rfl rfl) ?_;refine qa7 ?_;refine A0 (g_and64 rfl rfl rfl) ?_;refine qa7 ?_;refine A0 (zbP rfl rfl rfl (by first|decide|(simp [IntL.toI];done)|(simp [IntL.toI];omega)) rfl) ?_;refine qb7 ?_;refine qar ?_;refine A0 (g_mul64 rfl rfl rfl) ?_;refine A0 (zcV rfl rfl rfl) ?_;refine qb7 ?_;refine A0 (g_mul64 rfl rfl rfl) ?_;refine qar ?_;refine A0 (zcV rfl rfl rfl) ?_;refine qar ?_;refine A0 (zbP rfl rfl rfl (by first|decide|(simp [IntL.toI];done)|(simp [IntL.toI];omega)) rfl) ?_;refine A0 (zcV rfl rfl rfl) ?_;refine qb7 ?_;refine A0 (g_mul64 rfl rfl rfl) ?_
 refine qab ?_
 exact z7 rfl rfl (za rfl rfl) (za rfl rfl)
theorem mulU_ok (x y:UInt64):Tells P 261 [.val u64T x,.val u64T y] (.tup2 (.val u64T (mulHi x y)) (.val u64T (x*y))):=by
 refine zc Tryz.func261 rfl rfl rfl (fun ext w hext=>?_)
 refine CQR ?_;refine A0 aV ?_;refine qaA ?_;refine Cg ?_;refine qcl ?_;refine A0 (oCl (mul64_ok _ _) rfl fn_282 ⟨(zd rfl),(zd rfl),trivial⟩) ?_;refine A0 mX ?_;refine A0 (by first|exact zW rfl rfl|exact zU rfl rfl) ?_;refine A0 (by first|exact zY rfl rfl|exact zX rfl rfl) ?_;refine A0 aV ?_;refine qb7 ?_;refine qaY ?_
 exact z7 rfl rfl (za rfl rfl) (za rfl rfl)
theorem mulHi_one {n:Nat} (h:n≤1000000):mulHi 1 (u64OfI (IntL.toI i64T (n:Int)))=0:=by
  have e:(u64OfI (IntL.toI i64T (n:Int))).toNat=n:=by
    unfold u64OfI
    show (UInt64.ofNat ((n:Int)%18446744073709551616).toNat).toNat=n
    rw [UInt64.toNat_ofNat_of_lt' (by show _<18446744073709551616;omega)];omega
  obtain ⟨y,hy⟩:∃y,y=u64OfI (IntL.toI i64T (n:Int)):=⟨_,rfl⟩
  rw [←hy] at e ⊢
  have a1:shr64 (1:UInt64) 32=0:=by decide
  have a2:shr64 y 32=0:=by
    apply UInt64.toNat_inj.1
    rw [zaP y (by decide),e]
    show n/4294967296=0
    omega
  have a3:y&&&4294967295=y:=by
    apply UInt64.toNat_inj.1
    rw [UInt64.toNat_and,e]
    show n&&&(2^32-1)=n
    rw [Nat.and_two_pow_sub_one_eq_mod];omega
  have a4:(1:UInt64)&&&4294967295=1:=by decide
  unfold mulHi mulM
  rw [a1,a2,a3,a4,UInt64.one_mul,a2]
  simp
  rfl
theorem mulLo_one {n:Nat} (h:n≤1000000):IntKind.i64.wrap (IntL.toI u64T (1*u64OfI (IntL.toI i64T (n:Int))))=(n:Int):=by
  have e:(u64OfI (IntL.toI i64T (n:Int))).toNat=n:=by
    unfold u64OfI
    show (UInt64.ofNat ((n:Int)%18446744073709551616).toNat).toNat=n
    rw [UInt64.toNat_ofNat_of_lt' (by show _<18446744073709551616;omega)];omega
  rw [UInt64.one_mul]
  show IntKind.i64.wrap (((u64OfI (IntL.toI i64T (n:Int))).toNat:Nat):Int)=n
  rw [e,zai (by omega)]
theorem u64_small {n:Nat} (h:n≤1000000):(u64OfI (IntL.toI i64T (n:Int))).toNat=n:=by
  unfold u64OfI
  show (UInt64.ofNat ((n:Int)%18446744073709551616).toNat).toNat=n
  rw [UInt64.toNat_ofNat_of_lt' (by show _<18446744073709551616;omega)];omega
theorem rep_step {x:Ab.Id} {l:List Ab.Id} {i m N:Nat} (hl:l.length=N) (hi:i+m≤N) (hm:m≤i) (h:l.take i=List.replicate i x):(l.take i++(l.take i).take m++l.drop (i+m)).take (i+m)=List.replicate (i+m) x:=by
  rw [h,List.take_replicate,Nat.min_eq_left hm,←List.replicate_append_replicate,List.take_append_of_le_length (by simp),List.take_of_length_le (by simp)]
theorem repeatId (x:Ab.Id) (n:Nat) (hn:1≤n∧n≤1000):Tells P 236 [.val (bsl idT) [x],.val i64T (n:Int)] (.fresh 32 idT (List.replicate n x)):=by
 refine zc Tryz.func236 rfl rfl rfl (fun ext w hext=>?_)
 refine ze (d:=0) rfl zi (fun hsl0=>?_)
 refine ze (d:=1) rfl zQ (fun hin1=>?_)
 refine qay ?_;refine qbb ?_;refine qaz ?_;refine zeG rfl (decide_eq_false (by simp only [IntL.toI,id_eq];omega)) ?_;refine CSQR ?_;refine qa6 ?_;refine A0 (zcr rfl (ui_130) (us_3) rfl) ?_;refine qar ?_;refine A0 (zcr rfl (ui_130) (us_3) rfl) ?_;refine A0 (oCl (mulU_ok 1 (u64OfI (IntL.toI i64T (n:Int)))) rfl fn_261 ⟨(zd rfl),(zd rfl),trivial⟩) ?_;refine A0 mX ?_;refine A0 (by first|exact zW rfl rfl|exact zU rfl rfl) ?_;refine zp (d:=19) (y:=(0:UInt64)) rfl (mulHi_one (by omega)) ?_;refine A0 (by first|exact zY rfl rfl|exact zX rfl rfl) ?_;refine A0 aV ?_
 refine qah ?_;refine A0 zbb ?_;refine zd9 (d:=22) rfl (rfl) ?_;refine qar ?_;refine A1 mV ?_;refine A1 zbb ?_;refine zd9 (d:=25) rfl (decide_eq_false (by rw [UInt64.one_mul];show ¬((9223372036854775807:Int)<(((u64OfI (IntL.toI i64T (n:Int))).toNat:Nat):Int));rw [u64_small (by omega)];omega)) ?_;refine qaq ?_;refine Cg ?_;refine qbG ?_;refine A0 (g_cvi rfl (ui_3) (us_130) rfl (mulLo_one (by omega))) ?_;refine aw_mks (T:=idT) (n:=n) rfl rfl rfl rfl rfl rfl (by first|omega|rfl) (by first|omega|rfl) zbI ze_32 ⟨by omega,by omega,(show (n)*32≤16777216 by omega)⟩ ?_;refine qaT ?_
 refine qar ?_;refine aw_copy_o rfl rfl rfl rfl rfl rfl rfl zbI (m:=1) (by simp;omega) (by simp;omega) ?_;refine A0 aX ?_;refine CNQ ?_;refine CB ?_;refine Lp (ι:=Nat×List Ab.Id) 1 (fun (i:Nat×List Ab.Id)=>match i with|(i,l)=>((Fr.none).set 7 (.own 0)).set 8 (.val i64T (i:Int))) (fun (i:Nat×List Ab.Id)=>match i with|(i,l)=>(Hp.none).set 0 (.row 32 idT l)) (fun (i:Nat×List Ab.Id)=>match i with|(i,l)=>l.length=n∧1≤i∧i≤n∧l.take i=List.replicate i x) (fun (i:Nat×List Ab.Id)=>match i with|(i,l)=>n-i) ((1,[x]++(List.replicate n zId).drop 1)) (⟨by simp;omega,by omega,by omega,by simp⟩) ?_
 intro ⟨i,l⟩ hinv
 dsimp only at hinv
 refine qa9 ?_;refine A0 mO ?_;refine A0 (zaY rfl rfl rfl zaJ) ?_;refine qaz ?_;refine zj (p:=i<n) rfl (by rw [decide_eq_decide];simp only [IntL.toI,id_eq,hinv.1];omega) (fun ht37=>?_) (fun ht37=>?_)
 ·
  refine CS ?_;refine CB ?_;refine zx [some 1000001,some 1,some 1,some 1,some 1,some 1,some 1,none,some 1,some 1] mixed (by decide +kernel) ?_;refine XK.ga (fun _=>g_mv (.inl rfl) rfl) rfl rfl rfl ?_;refine X0 mO ?_;refine X0 mV ?_;refine X0 (g_os_l (p:=i) rfl rfl rfl rfl zak (by first|omega|rfl) (by first|assumption|omega|(simp;omega))) ?_;refine X0 mO ?_;refine X0 mV ?_;refine X0 (g_os_h (q:=i) rfl rfl rfl rfl zak (by first|omega|rfl) (by first|assumption|omega|(simp;omega))) ?_
  refine XK.e (fun fr' hfr kk H=>by exact aw_copy_in rfl rfl rfl rfl ((hfr 41 (by decide +kernel)).trans rfl) ((hfr 44 (by decide +kernel)).trans rfl) rfl zbI (m:=min i (n-i)) (by omega) (by omega) (zz H)) ?_;refine X0 zaG ?_;refine X0 aV ?_;refine XK.nil' ?_;refine CI ?_
  exact Nx ((i+min i (n-i),l.take i++(l.take i).take (min i (n-i))++l.drop (i+min i (n-i)))) (⟨by simp;omega,by omega,by omega,rep_step hinv.1 (by omega) (by omega) hinv.2.2.2⟩) (by show n-(i+min i (n-i))<n-i;omega)
 ·
  refine qat ?_
  exact zb rfl rfl (zg rfl rfl (by have h:=hinv.2.2.2;rw [List.take_of_length_le (by omega)] at h;rw [h];congr 1;omega))
set_option maxRecDepth 20000
def linkNext (l:List Ab.Id) (id:Ab.Id) (level:Int):List Ab.Id:=if 32<l.length then [] else if l.length=0 then [id] else if level<1 then l else l.take 1++List.replicate (min level 31).toNat id++l.drop ((min level 31).toNat+1)
theorem linkNext_ok (l:List Ab.Id) (id:Ab.Id) (level:Int):Tells P 210 [.val (bsl idT) l,.val idT id,.val i64T level] (.fresh 32 idT (linkNext l id level)):=by
 refine zc Tryz.func210 rfl rfl rfl (fun ext w hext=>?_)
 refine ze (d:=0) rfl zi (fun hsl0=>?_)
 refine ze (d:=2) rfl zQ (fun hin2=>?_)
 refine qbi ?_;refine CNQ ?_;refine CB ?_;refine qa2 ?_;refine qci ?_;refine A0 zbb ?_;refine Sp (d:=12) (p:=32<l.length) (fun g12=>?_) (fun g12=>?_)
 ·
  refine qab ?_;refine Ct ?_;refine qay ?_;refine CN ?_
  exact zb rfl rfl (by unfold linkNext;rw [if_pos g12];exact zH rfl)
 ·
  refine qab ?_;refine Cg ?_;refine qa2 ?_;refine qci ?_;refine A0 zbU ?_;refine Sp (d:=16) (p:=l.length=0) (fun g16=>?_) (fun g16=>?_)
  ·
   refine qab ?_;refine Ct ?_;refine CQR ?_;refine qaN ?_;refine zaN (T:=idT) (xs:=[_]) rfl rfl rfl rfl zak zbI ⟨rfl,rfl,trivial⟩ rfl rfl ?_;refine qbe ?_
   exact zb rfl rfl (zg rfl rfl (by unfold linkNext;rw [if_neg g12,if_pos g16]))
  ·
   refine qab ?_;refine Cg ?_;refine qa2 ?_;refine A0 zbh ?_;refine Sp (d:=21) (p:=level<1) (fun g21=>?_) (fun g21=>?_)
   ·
    refine qab ?_;refine Ct ?_;refine qa2 ?_;refine zaE (cloneId l (by constructor<;>omega)) rfl fn_124 ⟨(zd rfl),trivial⟩ rfl rfl rfl ?_;refine qbe ?_
    exact zb rfl rfl (zg rfl rfl (by unfold linkNext;rw [if_neg g12,if_neg g16,if_pos g21]))
   ·
    refine qab ?_;refine Cg ?_;refine CS ?_;refine CI ?_;refine qa2 ?_;refine A0 (g_min rfl rfl rfl) ?_;refine A0 (g_add rfl rfl rfl (show _=((((min level 31).toNat+1:Nat):Int):Int) from (zai (by omega)).trans (by omega))) ?_;refine qaA ?_;refine zx [some 1,some 1,some 1,some 1,some 1,some 1,some 1,some 1,none,some 1] mixed (by decide +kernel) ?_;refine X0 mV ?_;refine X0 (by first|exact zbt rfl rfl rfl (by first|rfl|omega) zak|exact zdy rfl rfl rfl zak (by first|assumption|omega|(simp;omega))) ?_;refine X0 (oLs rfl rfl rfl zM) ?_
    refine X0 (zo (T:=idT) (xs:=[_]) rfl zak zbI ⟨rfl,rfl,trivial⟩ rfl rfl) ?_;refine X0 mV ?_;refine X0 (g_sub rfl rfl rfl (show _=(((min level 31).toNat:Int):Int) from (zai (by omega)).trans (by omega))) ?_;refine X0 (zeS (T:=sl idT) (S:=bsl idT) (zb5 (zs (repeatId id (min level 31).toNat (by omega))) rfl fn_236 ⟨(zd rfl),(zd rfl),trivial⟩ rfl)) ?_;refine X0 (zo (T:=(bsl idT)) (xs:=[_,_]) rfl sl_278 row_278 ⟨rfl,rfl,rfl,rfl,trivial⟩ rfl rfl) ?_
    refine XK.e (fun fr' hfr kk H=>by exact zaE (concatId [l.take 1,List.replicate (min level 31).toNat id] (by simp;omega)) rfl fn_235 ⟨(zd ((hfr 34 (by decide +kernel)).trans rfl)),trivial⟩ rfl rfl rfl (zz H)) ?_;refine X0 aO ?_;refine XK.nil' ?_;refine CQQR ?_;refine qa6 ?_;refine qar ?_;refine qcb ?_;refine Cf (p:=(min level 31).toNat+1<l.length) (fun ht39=>?_) (fun ht39=>?_)
    ·
     refine CR ?_;refine A0 mO ?_;refine qag ?_;refine A0 (zeP rfl rfl rfl zak (by first|assumption|omega|(simp;omega))) ?_;refine zn rfl rfl rfl rfl rfl rfl rfl zbI (by simp;omega) ?_;refine qaT ?_;refine qbe ?_
     exact zb rfl rfl (zg rfl rfl (by unfold linkNext;rw [if_neg g12,if_neg g16,if_neg g21];simp;omega))
    ·
     refine CSQR ?_;refine A0 mO ?_;refine qbe ?_
     exact zb rfl rfl (zg rfl rfl (by unfold linkNext;rw [if_neg g12,if_neg g16,if_neg g21,List.drop_of_length_le (by omega)];simp))
set_option maxRecDepth 20000
def mineFrom:Nat→Head→Option Head
  | 0,_=>none
  | n+1,h=>if headMay h=true then some h else mineFrom n { h with nonce:=h.nonce+1 }
def mineOf (h:Head) (tries:Int):Option Head:=mineFrom (min tries 200).toNat h
theorem mineFrom_step {n:Nat} {h:Head} (hn:0<n) (hm:¬headMay h=true):mineFrom n h=mineFrom (n-1) { h with nonce:=h.nonce+1 }:=by
  obtain ⟨m,rfl⟩:∃m,n=m+1:=⟨n-1,by omega⟩
  rw [mineFrom,if_neg hm];rfl
theorem mineFrom_yes {n:Nat} {h:Head} (hn:0<n) (hm:headMay h=true):mineFrom n h=some h:=by
  obtain ⟨m,rfl⟩:∃m,n=m+1:=⟨n-1,by omega⟩
  rw [mineFrom,if_pos hm]
theorem mine_ok (h:Head) (tries:Int):Tells P 177 [.val headT h,.val i64T tries] (.tup2 (.val headT ((mineOf h tries).getD h)) (.val boolT (mineOf h tries).isSome)):=by
 refine zc Tryz.func177 rfl rfl rfl (fun ext w hext=>?_)
 refine ze (d:=1) rfl zQ (fun hin1=>?_)
 refine qad ?_;refine zI ze_38 rfl rfl rfl rfl ?_;refine zI ze_4 rfl rfl rfl rfl ?_;refine CNQQR ?_;refine qb1 ?_;refine qar ?_;refine zcf rfl rfl rfl rfl Tryz.func218 fn_218 rfl rfl (fun ia1 iok1=>?_)
 refine qav ?_;refine A0 aL ?_;refine CNQR ?_;refine A0 (g_mkf (caps:=[_,_]) rfl rfl) ?_;refine A0 aC ?_;refine CN ?_;refine zc2 rfl ?_;refine CNB ?_;refine aw_range rfl rfl rfl Tryz.func250 fn_250 rfl rfl (by intro n hn;simp only [List.mem_cons,List.not_mem_nil,or_false] at hn;rcases hn with rfl|rfl<;>rfl) (fun fid2 ca2 lN2 DN2 cok2 rc2 hrc2=>?_)
 refine CQR ?_;refine A0 (oLs rfl rfl rfl ty_3) ?_;refine A0 (g_min rfl rfl rfl) ?_;refine qaI ?_
 refine Lp (ι:=Nat×Head) 7 (fun (i:Nat×Head)=>match i with|(k,g)=>(((((Fr.none).set 0 (.lit (.func (.yield lN2) #[] #[]))).set 1 (.ptr 4 0)).set 2 (.ptr 3 0)).set 5 (.val i64T (min tries 200))).set 6 (.val i64T (k:Int))) (fun (i:Nat×Head)=>match i with|(k,g)=>(((((((Hp.none).set 0 (.box 38 headT h)).set 1 (.box 38 headT zHead)).set 2 (.box 4 boolT false)).set 3 (.box 38 headT g)).set 4 (.box 3 i64T tries)).set 5 (.objAt DN2 (.deferred (some [])))).set 6 (.objAt lN2 (rc2 .ready none))) (fun (i:Nat×Head)=>match i with|(k,g)=>k≤(min tries 200).toNat∧mineOf h tries=mineFrom ((min tries 200).toNat-k) g) (fun (i:Nat×Head)=>match i with|(k,g)=>(min tries 200).toNat-k) ((0,h)) (⟨Nat.zero_le _,rfl⟩) ?_
 intro ⟨k,g⟩ hinv
 dsimp only at hinv
 refine qao ?_;refine Cf (p:=(k:Int)<min tries 200) (fun ht7=>?_) (fun ht7=>?_)
 ·
  refine qa4 ?_;refine CQQR ?_;refine A0 mL ?_;refine qb1 ?_;refine aw_yield (nL:=6) rfl rfl rfl rfl rfl hrc2 rfl rfl rfl (fun ya3 yok3=>?_)
  refine CR ?_;refine qaM ?_;refine CN ?_;refine aw_begin (nL:=6) hrc2 rfl ?_;refine CB ?_;refine CQR ?_;refine qb1 ?_;refine A0 (oCl (headMay_ok _) rfl fn_76 ⟨(zd rfl),trivial⟩) ?_;refine CN ?_;refine zj (p:=headMay g=true) rfl (by simp) (fun ht12=>?_) (fun ht12=>?_)
  ·
   refine CQR ?_;refine qb1 ?_;refine zh rfl rfl rfl rfl rfl (Lens.self _) zao rfl ?_;refine qbo ?_;refine zeu (nL:=6) hrc2 rfl ?_;refine qaE ?_;refine Ct ?_;refine zfr (nL:=6) rfl hrc2 rfl (by decide) ?_;refine zaK (zc6 (nD:=5) rfl rfl rfl ?_)
   exact ar_retr2 rfl rfl (zw rfl rfl zao (by rw [hinv.2,mineFrom_yes (by omega) ht12];rfl)) (zw rfl rfl ty_4 (by rw [hinv.2,mineFrom_yes (by omega) ht12];rfl))
  ·
   refine CS ?_;refine CI ?_;refine zdz (nL:=6) hrc2 rfl ?_;refine qaE ?_;refine Cg ?_;refine CS ?_;refine CR ?_;refine A0 (oFp zeC) ?_;refine A0 (oLb zbG zav) ?_;refine A0 (zcV rfl rfl rfl) ?_;refine A0 (oFp zeC) ?_;refine zh rfl rfl rfl rfl rfl zbG zav rfl ?_;refine qbw ?_
   exact Nx ((k+1,{ g with nonce:=g.nonce+1 })) (⟨by omega,by rw [hinv.2,mineFrom_step (by omega) ht12];rfl⟩) (by show (min tries 200).toNat-(k+1)<(min tries 200).toNat-k;omega)
 ·
  refine CE ?_;refine zdA (nL:=6) rfl hrc2 rfl (by decide) ?_;refine CI ?_;refine CQR ?_;refine qb1 ?_;refine zh rfl rfl rfl rfl rfl (Lens.self _) zao rfl ?_;refine qbo ?_;refine zaK (zc6 (nD:=5) rfl rfl rfl ?_)
  exact ar_retr2 rfl rfl (zw rfl rfl zao (by rw [hinv.2,show (min tries 200).toNat-k=0 by omega];rfl)) (zw rfl rfl ty_4 (by rw [hinv.2,show (min tries 200).toNat-k=0 by omega];rfl))
set_option maxRecDepth 20000
def leafH (h:Head):Total:=leafT (headId h) (headWork h)
def linksT (t:Tip):List Ab.Id:=linkNext t.b.l (headId t.b.h) (headLevel t.b.h)
def nextH (t:Tip) (l:List Tx) (nonce:UInt64):Head:=⟨IntKind.i64.wrap (t.b.h.height+1),headId t.b.h,linkRoot (linksT t),txRoot l,(mmrRoot t.p).h,(mmrRoot t.p).w,t.b.h.bits,nonce⟩
def firstH (bits:UInt32):Head:=⟨0,zId,linkRoot [],txRoot [],(mmrRoot []).h,zWide,bits,0⟩
def firstTip (bits:UInt32):Tip:=if tgtOk bits=true then ⟨⟨firstH bits,[],[]⟩,mmrAppend [] (leafH (firstH bits)),[]⟩ else zTip
def behindH (h:Head):Head:={ zHead with height:=h.height,prev:=h.prev,bits:=h.bits }
theorem linkNext_len {l:List Ab.Id} {id:Ab.Id} {level:Int}:(linkNext l id level).length≤64:=by
  unfold linkNext
  split
  · simp
  · split
    · simp
    · split
      · omega
      · simp;omega
def smallTx (t:Tx):Prop:=t.ins.length*40≤140737488351232∧t.outs.length*16≤140737488351232
def smallL (l:List Tx):Prop:=l.length*48≤140737488351232∧∀t∈l,smallTx t
def smallB (b:Block):Prop:=b.l.length*32≤140737488351232∧smallL b.t
def smallTip (t:Tip):Prop:=smallB t.b∧t.p.length≤1000∧t.c.length≤1000
theorem set_same {α:Type} {l:List α} {k:Nat} {x:α} (h:l[k]?=some x):l.set k x=l:=by
  obtain ⟨hk,rfl⟩:=List.getElem?_eq_some_iff.1 h
  exact List.set_getElem_self hk
theorem leafH_ok (h:Head):Tells P 75 [.val headT h] (.val totalT (leafH h)):=by
 refine zc Tryz.func75 rfl rfl rfl (fun ext w hext=>?_)
 refine qad ?_;refine qbt ?_;refine CNQ ?_;refine zx [some 1,some 1,some 1,some 1,some 1,none] mixed (by decide +kernel) ?_;refine X0 (oLs rfl rfl rfl zao) ?_;refine X0 (oCl (zdx _) rfl fn_14 ⟨(zd rfl),trivial⟩) ?_;refine X0 (oLs rfl rfl rfl zao) ?_;refine X0 (oCl (headWork_ok _) rfl fn_132 ⟨(zd rfl),trivial⟩) ?_;refine X0 (oCl (mleaf_ok _ _) rfl fn_131 ⟨(zd rfl),(zd rfl),trivial⟩) ?_
 refine XK.e (x:=.idk) (fun fr' hfr kk H=>by exact zh rfl rfl rfl ((hfr 2 (by decide +kernel)).trans rfl) rfl (Lens.self _) zaI ((hfr 7 (by decide +kernel)).trans rfl) (zz H)) ?_;refine XK.nil' ?_
 exact zu rfl rfl rfl rfl zaI (rfl)
theorem linksT_ok (t:Tip):Tells P 166 [.val tipT t] (.fresh 32 idT (linksT t)):=by
 refine zc Tryz.func166 rfl rfl rfl (fun ext w hext=>?_)
 refine qbi ?_;refine CNQ ?_;refine zx [some 1,some 1,some 1,some 1,some 1,some 1,some 1,some 1,some 1,some 1,some 1,none,some 1] mixed (by decide +kernel) ?_;refine X0 (oFp zcH) ?_;refine X0 (oFp zbR) ?_;refine X0 (oLb (za6.comp zaH) zbj) ?_;refine qbu ?_;refine X0 (oLb (za6.comp zE) zao) ?_;refine X0 (oCl (zdx _) rfl fn_14 ⟨(zd rfl),trivial⟩) ?_;refine qbu ?_;refine X0 (oLb (za6.comp zE) zao) ?_;refine X0 (oCl (zem _) rfl fn_35 ⟨(zd rfl),trivial⟩) ?_
 refine XK.e (fun fr' hfr kk H=>by exact zaE (linkNext_ok t.b.l (headId t.b.h) (headLevel t.b.h)) rfl fn_210 ⟨(zd ((hfr 5 (by decide +kernel)).trans rfl)),(zd ((hfr 9 (by decide +kernel)).trans rfl)),(zd ((hfr 13 (by decide +kernel)).trans rfl)),trivial⟩ rfl rfl rfl (zz H)) ?_;refine X0 aO ?_;refine XK.nil' ?_
 exact zb rfl rfl (zg rfl rfl rfl)
theorem nextH_ok (t:Tip) (l:List Tx) (nonce:UInt64) (hl:l.length≤4000000000000) (hp:t.p.length≤1000000):Tells P 110 [.val tipT t,.val (bsl txT) l,.val u64T nonce] (.val headT (nextH t l nonce)):=by
 have hlk:(linksT t).length≤64:=linkNext_len
 refine zc Tryz.func110 rfl rfl rfl (fun ext w hext=>?_)
 refine ze (d:=1) rfl zi (fun hsl1=>?_)
 refine qad ?_;refine zI ze_38 rfl rfl rfl rfl ?_;refine CNQR ?_;refine A0 (oFp zeB) ?_;refine A0 (oLb zeH ty_61) ?_;refine A0 (oCl (mmrRoot_ok t.p hp) rfl fn_73 ⟨(zd rfl),trivial⟩) ?_;refine qbt ?_;refine qaH ?_;refine CNQ ?_;refine zx [some 1,some 1,some 1,some 1,some 1,some 1,some 1,some 1,some 1,some 1,some 1,some 1,some 1,some 1,some 1,some 1,some 1,some 1,some 1,some 1,some 1,some 1,some 1,some 1,none] mixed (by decide +kernel) ?_;refine qbu ?_;refine X0 (oFp zbH) ?_;refine X0 (oLb ((za6.comp zE).comp zS) ty_3) ?_;refine X0 zaG ?_
 refine qbu ?_;refine X0 (oLb (za6.comp zE) zao) ?_;refine X0 (oCl (zdx _) rfl fn_14 ⟨(zd rfl),trivial⟩) ?_;refine X0 (oLs rfl rfl rfl zaM) ?_;refine X0 (oCl (zs (linksT_ok t)) rfl fn_166 ⟨(zd rfl),trivial⟩) ?_;refine X0 (oCl (zcG (linksT t) (by omega)) rfl fn_17 ⟨(zd rfl),trivial⟩) ?_;refine X0 mV ?_;refine X0 (oCl (txRoot_ok l hl) rfl fn_72 ⟨(zd rfl),trivial⟩) ?_;refine X0 (oFp zcC) ?_;refine X0 (oLb zb0 zM) ?_;refine X0 (oFp zfk) ?_;refine X0 (oLb zeb zZ) ?_;refine qbu ?_;refine X0 (oFp zbk) ?_
 refine X0 (oLb ((za6.comp zE).comp zad) z8) ?_;refine X0 mV ?_;refine X0 (zV rfl ze_38 bd_38 (.cons zbH zS ty_3 rfl (.cons zcX zaO zM rfl (.cons zcW zaC zM rfl (.cons zeE zcm zM rfl (.cons zeD zbY zM rfl (.cons fd_38_5 zcJ zZ rfl (.cons zbk zad z8 rfl (.cons zeC zbG zav rfl .nil)))))))) rfl) ?_
 refine XK.e (x:=.idk) (fun fr' hfr kk H=>by exact zh rfl rfl rfl ((hfr 6 (by decide +kernel)).trans rfl) rfl (Lens.self _) zao ((hfr 34 (by decide +kernel)).trans rfl) (zz H)) ?_;refine XK.nil' ?_
 exact zu rfl rfl rfl rfl zao (rfl)
theorem firstTip_ok (bits:UInt32):Tells P 31 [.val u32T bits] (.tup2 (.val tipT (firstTip bits)) (.val boolT (tgtOk bits))):=by
 refine zc Tryz.func31 rfl rfl rfl (fun ext w hext=>?_)
 refine CQR ?_;refine qbm ?_;refine qah ?_;refine A0 (oCl (target_ok _) rfl fn_71 ⟨(zd rfl),trivial⟩) ?_;refine A0 mX ?_;refine A0 (by first|exact zW rfl rfl|exact zU rfl rfl) ?_;refine A0 (by first|exact zY rfl rfl|exact zX rfl rfl) ?_;refine qcm ?_;refine qa7 ?_;refine qaE ?_;refine zj (p:=¬tgtOk bits=true) rfl (by cases tgtOk bits<;>rfl) (fun ht13=>?_) (fun ht13=>?_)
 ·
  refine CQR ?_;refine A0 (zV rfl ze_64 bd_64 .nil rfl) ?_;refine qan ?_;refine qab ?_
  exact zF rfl rfl (zw rfl rfl zaM (by unfold firstTip;rw [if_neg ht13])) (zac (za rfl (by simpa using ht13)))
 ·
  refine CSQR ?_;refine A0 (oCl (zcG [] (by decide)) rfl fn_17 ⟨(by first|exact zq rfl|exact zC rfl|exact zy rfl rfl|exact zA rfl|exact zr rfl|exact zL rfl rfl|exact zB rfl),trivial⟩) ?_;refine A0 (oCl (txRoot_ok [] (by decide)) rfl fn_72 ⟨(by first|exact zq rfl|exact zC rfl|exact zy rfl rfl|exact zA rfl|exact zr rfl|exact zL rfl rfl|exact zB rfl),trivial⟩) ?_
  refine A0 (oCl (mmrRoot_ok [] (by decide)) rfl fn_73 ⟨(by first|exact zq rfl|exact zC rfl|exact zy rfl rfl|exact zA rfl|exact zr rfl|exact zL rfl rfl|exact zB rfl),trivial⟩) ?_;refine A0 (g_field rfl rfl zcC zb0 zM) ?_;refine qar ?_;refine A0 (zV rfl ze_38 bd_38 (.cons zcW zaC zM rfl (.cons zeE zcm zM rfl (.cons zeD zbY zM rfl (.cons zbk zad z8 rfl .nil)))) rfl) ?_;refine qaM ?_;refine CNQ ?_
  refine zx [some 1,some 1,some 1,some 1,some 1,some 1,none,some 1] mixed (by decide +kernel) ?_;refine X0 (oLs rfl rfl rfl zao) ?_;refine X0 (zV rfl ze_60 bd_60 (.cons zan zE zao rfl .nil) rfl) ?_;refine X0 (oLs rfl rfl rfl zao) ?_;refine X0 (oCl (leafH_ok (firstH bits)) rfl fn_75 ⟨(zd rfl),trivial⟩) ?_;refine X0 (oCl (zs (mmrAppend_ok [] (leafH (firstH bits)) (by decide))) rfl fn_74 ⟨(by first|exact zq rfl|exact zC rfl|exact zy rfl rfl|exact zA rfl|exact zr rfl|exact zL rfl rfl|exact zB rfl),(zd rfl),trivial⟩) ?_
  refine X0 (zV rfl ze_64 bd_64 (.cons zcH za6 zb8 rfl (.cons zeB zeH ty_61 rfl .nil)) rfl) ?_;refine XK.e (x:=.idk) (fun fr' hfr kk H=>by exact zh rfl rfl rfl ((hfr 2 (by decide +kernel)).trans rfl) rfl (Lens.self _) zaM ((hfr 26 (by decide +kernel)).trans rfl) (zz H)) ?_;refine X0 aV ?_;refine XK.nil' ?_
  exact zF rfl rfl (zw rfl rfl zaM (by unfold firstTip;rw [if_pos (Classical.not_not.1 ht13)];rfl)) (zac (za rfl ((Classical.not_not.1 ht13).symm)))
theorem behindH_ok (h:Head):Tells P 167 [.val headT h] (.val headT (behindH h)):=by
 refine zc Tryz.func167 rfl rfl rfl (fun ext w hext=>?_)
 refine qad ?_;refine zI ze_38 rfl rfl rfl rfl ?_;refine CNQR ?_;refine qaZ ?_;refine A0 (oFp zcX) ?_;refine A0 (oLb zaO zM) ?_;refine A0 (oFp zbk) ?_;refine A0 (oLb zad z8) ?_;refine A0 (zV rfl ze_38 bd_38 (.cons zbH zS ty_3 rfl (.cons zcX zaO zM rfl (.cons zbk zad z8 rfl .nil))) rfl) ?_;refine zh rfl rfl rfl rfl rfl (Lens.self _) zao rfl ?_;refine CN ?_
 exact zu rfl rfl rfl rfl zao (rfl)
theorem txs_ok (l:List Tx) (hl:smallL l):Tells P 170 [.val (bsl txT) l] (.fresh 140 txT l):=by
 obtain ⟨hl1,hl2⟩:=hl
 refine zc Tryz.func170 rfl rfl rfl (fun ext w hext=>?_)
 refine ze (d:=0) rfl zi (fun hsl0=>?_)
 refine qay ?_;refine qbx ?_;refine zaE (cloneTx l (by constructor<;>omega)) rfl fn_217 ⟨(zd rfl),trivial⟩ rfl rfl rfl ?_;refine A0 aO ?_;refine CNQQR ?_;refine A0 mO ?_;refine A0 (zaY rfl rfl rfl isl_58) ?_;refine qaI ?_;refine Lp (ι:=Nat) 1 (fun (k:Nat)=>((((Fr.none).set 3 (.own 0)).set 8 (.own 0)).set 9 (.val i64T (l.length:Int))).set 10 (.val i64T (k:Int))) (fun (k:Nat)=>(Hp.none).set 0 (.row 140 txT l)) (fun (k:Nat)=>k≤l.length) (fun (k:Nat)=>l.length-k) (0) (Nat.zero_le _) ?_
 intro k hinv
 refine qao ?_;refine Cf (p:=k<l.length) (fun ht11=>?_) (fun ht11=>?_)
 ·
  obtain ⟨x,hx⟩:∃x,l[k]?=some x:=⟨_,List.getElem?_eq_getElem ht11⟩
  have hxm:=List.mem_of_getElem? hx
  refine qaL ?_;refine A0 (zas (i:=k) rfl rfl rfl rfl (by first|omega|rfl) zec (by first|assumption|omega|(simp;omega))) ?_;refine A0 (zT rfl rfl rfl rfl (by assumption) (Lens.self _) ty_140) ?_;refine zI ze_140 rfl rfl rfl rfl ?_;refine A0 aV ?_;refine qbN ?_;refine CN ?_;refine zx [some 1,some 1,some 1,some 1,some 1,some 1,some 1,some 1,some 1,some 1,none] mixed (by decide +kernel) ?_;refine X0 mO ?_;refine X0 mV ?_;refine X0 (oFp zbg) ?_;refine X0 (oLb zbD zda) ?_
  refine X0 (oCl (zs (cloneIn x.ins (by have:=hl2 x hxm;unfold smallTx at this;constructor<;>omega))) rfl fn_175 ⟨(zd rfl),trivial⟩) ?_;refine X0 (oFp zbf) ?_;refine X0 (oLb zaU zc9) ?_;refine X0 (oCl (zs (cloneOut x.outs (by have:=hl2 x hxm;unfold smallTx at this;constructor<;>omega))) rfl fn_176 ⟨(zd rfl),trivial⟩) ?_;refine X0 (zV rfl ze_140 bd_140 (.cons zbg zbD zda rfl (.cons zbf zaU zc9 rfl .nil)) rfl) ?_;refine X0 (zas (i:=k) rfl rfl rfl rfl (by first|omega|rfl) zec (by first|assumption|omega|(simp;omega))) ?_
  refine XK.e (x:=.idk) (fun fr' hfr kk H=>by exact zdl rfl rfl rfl ((hfr 24 (by decide +kernel)).trans rfl) rfl rfl (by assumption) (Lens.self _) ty_140 ((hfr 23 (by decide +kernel)).trans rfl) (zz H)) ?_;refine qaQ ?_;refine qal ?_;refine zK (n:=0) (y:=l) rfl (by rw [show (⟨x.ins,x.outs⟩:Tx)=x from rfl];exact set_same hx) ?_
  exact Nx (k+1) (by omega) (by omega)
 ·
  refine qat ?_
  exact zb rfl rfl (zg rfl rfl rfl)
theorem copied_ok (b:Block) (hb:smallB b):Tells P 119 [.val blockT b] (.val blockT b):=by
 obtain ⟨hb1,hb2⟩:=hb
 refine zc Tryz.func119 rfl rfl rfl (fun ext w hext=>?_)
 refine qad ?_;refine zI ze_60 rfl rfl rfl rfl ?_;refine CNQR ?_;refine A0 (oFp zbR) ?_;refine A0 (oLb zaH zbj) ?_;refine A0 (oCl (zs (cloneId b.l (by constructor<;>omega))) rfl fn_124 ⟨(zd rfl),trivial⟩) ?_;refine A0 (oFp zbR) ?_;refine zh rfl rfl rfl rfl rfl zaH zbj rfl ?_;refine CNQR ?_;refine qbX ?_;refine A0 (oCl (zs (txs_ok b.t hb2)) rfl fn_170 ⟨(zd rfl),trivial⟩) ?_;refine A0 (oFp zd5) ?_;refine zh rfl rfl rfl rfl rfl zcw ty_58 rfl ?_;refine CNQR ?_;refine A0 (oLs rfl rfl rfl zb8) ?_;refine qbv ?_;refine CN ?_
 exact zu rfl rfl rfl rfl zb8 (rfl)
theorem own_ok (t:Tip) (ht:smallTip t):Tells P 118 [.val tipT t] (.val tipT t):=by
 obtain ⟨ht1,ht2,ht3⟩:=ht
 refine zc Tryz.func118 rfl rfl rfl (fun ext w hext=>?_)
 refine qad ?_;refine qbm ?_;refine CNQ ?_;refine zx [some 1,some 1,some 1,some 1,some 1,some 1,some 1,some 1,some 1,some 1,none,some 1,none,some 1,none] mixed (by decide +kernel) ?_;refine X0 (oFp zcH) ?_;refine X0 (oLb za6 zb8) ?_;refine X0 (oCl (copied_ok t.b ht1) rfl fn_119 ⟨(zd rfl),trivial⟩) ?_;refine X0 (oFp zeB) ?_;refine X0 (oLb zeH ty_61) ?_;refine X0 (oCl (zs (cloneTotal t.p (by constructor<;>omega))) rfl fn_130 ⟨(zd rfl),trivial⟩) ?_;refine X0 (oFp fd_64_2) ?_;refine X0 (oLb L_Tip_c ty_62) ?_
 refine X0 (oCl (zs (cloneCoin t.c (by constructor<;>omega))) rfl fn_169 ⟨(zd rfl),trivial⟩) ?_;refine X0 (oFp zcH) ?_;refine XK.e (x:=.idk) (fun fr' hfr kk H=>by exact zh rfl rfl rfl ((hfr 12 (by decide +kernel)).trans rfl) rfl za6 zb8 ((hfr 5 (by decide +kernel)).trans rfl) (zz H)) ?_;refine X0 (oFp zeB) ?_;refine XK.e (x:=.idk) (fun fr' hfr kk H=>by exact zh rfl rfl rfl ((hfr 13 (by decide +kernel)).trans rfl) rfl zeH ty_61 ((hfr 8 (by decide +kernel)).trans rfl) (zz H)) ?_;refine X0 (oFp fd_64_2) ?_
 refine XK.e (x:=.idk) (fun fr' hfr kk H=>by exact zh rfl rfl rfl ((hfr 14 (by decide +kernel)).trans rfl) rfl L_Tip_c ty_62 ((hfr 11 (by decide +kernel)).trans rfl) (zz H)) ?_;refine XK.nil' ?_;refine CQR ?_;refine A0 (oLs rfl rfl rfl zaM) ?_;refine qan ?_;refine CN ?_
 exact zu rfl rfl rfl rfl zaM (rfl)
theorem sameB_ok (a b:Block):Tells P 65 [.val blockT a,.val blockT b] (.val boolT (decide (a=b))):=by
 refine zc Tryz.func65 rfl rfl rfl (fun ext w hext=>?_)
 refine qav ?_;refine qai ?_;refine A0 (oFp zan) ?_;refine A0 (oLb zE zao) ?_;refine A0 (oFp zan) ?_;refine A0 (oLb zE zao) ?_;refine A0 (zcM rfl rfl rfl (eqt_38)) ?_;refine Sp (d:=9) (p:=a.h=b.h) (fun g9=>?_) (fun g9=>?_)
 ·
  refine qar ?_;refine A1 (oFp zbR) ?_;refine A1 (oLb zaH zbj) ?_;refine A1 (oFp zbR) ?_;refine A1 (oLb zaH zbj) ?_;refine A1 (oCl (equalId _ _) rfl fn_39 ⟨(zd rfl),(zd rfl),trivial⟩) ?_;refine Sp (d:=15) (p:=a.l=b.l) (fun g15=>?_) (fun g15=>?_)
  ·
   refine qaw ?_;refine A1 (oFp zd5) ?_;refine A1 (oLb zcw ty_58) ?_;refine A1 (oFp zd5) ?_;refine A1 (oLb zcw ty_58) ?_;refine A1 (oCl (equalFTx _ _) rfl fn_108 ⟨(zd rfl),(zd rfl),(by first|exact zc4 (Cs:=[]) rfl fn_109 (by intro n hn;cases hn) trivial rfl (fun x=>coinSame_ok x y)|exact zc3 (Cs:=[]) rfl fn_109 (by intro n hn;cases hn) trivial rfl (fun x y=>coinSame_ok x y)|exact zc5 rfl),trivial⟩) ?_;refine qaW ?_
   exact zb rfl rfl (za rfl (by rw [decide_eq_decide];exact ⟨fun h=>by cases a;cases b;simp_all,fun h=>by rw [h]⟩))
  ·
   refine qaw ?_;refine qaJ ?_;refine A2 ?_;refine qaW ?_
   exact zb rfl rfl (za rfl (by symm;apply decide_eq_false;intro h;exact g15 (by rw [h])))
 ·
  refine qar ?_;refine qaJ ?_;refine A2 ?_;refine qaw ?_;refine qaJ ?_;refine A2 ?_;refine qaW ?_
  exact zb rfl rfl (za rfl (by symm;apply decide_eq_false;intro h;exact g9 (by rw [h])))
set_option maxRecDepth 20000
theorem refIds_ok (l m:List Ab.Id):Tells P 16 [.val (bsl idT) l,.val (bsl idT) m] (.val boolT (decide (l=m))):=by
 refine zc Tryz.func16 rfl rfl rfl (fun ext w hext=>?_)
 refine ze (d:=0) rfl zi (fun hsl0=>?_)
 refine ze (d:=1) rfl zi (fun hsl1=>?_)
 refine CQR ?_;refine qah ?_;refine qci ?_;refine qa6 ?_;refine qaB ?_;refine zj (p:=¬l.length=m.length) rfl (by simp [IntL.toI];omega) (fun ht10=>?_) (fun ht10=>?_)
 ·
  refine qam ?_
  exact zb rfl rfl (za rfl (decide_eq_false (fun e=>ht10 (by rw [e]))).symm)
 ·
  refine CSQQR ?_;refine qbC ?_;refine Lp (ι:=Nat) 0 (fun (k:Nat)=>(((Fr.none).set 0 (.val (bsl idT) l)).set 1 (.val (bsl idT) m)).set 5 (.val i64T (k:Int))) (fun (k:Nat)=>Hp.none) (fun (k:Nat)=>k≤l.length∧l.take k=m.take k) (fun (k:Nat)=>l.length-k) (0) (⟨Nat.zero_le _,rfl⟩) ?_
  intro k hinv
  refine qbg ?_;refine qci ?_;refine qaz ?_;refine Cf (p:=k<l.length) (fun ht14=>?_) (fun ht14=>?_)
  ·
   obtain ⟨x,hx⟩:∃x,l[k]?=some x:=⟨_,List.getElem?_eq_getElem ht14⟩
   obtain ⟨y,hy⟩:∃y,m[k]?=some y:=⟨_,List.getElem?_eq_getElem (by omega)⟩
   refine qa4 ?_;refine qa0 ?_;refine qaF ?_;refine G0 (zm (i:=k) rfl rfl rfl (by omega) zak (by assumption)) ?_;refine qb4 ?_;refine qaF ?_;refine G0 (zm (i:=k) rfl rfl rfl (by omega) zak (by assumption)) ?_;refine qb4 ?_;refine G0 (zbQ rfl rfl rfl (zbJ)) ?_;refine GK.nil ?_;refine zj (p:=¬x=y) rfl (by simp) (fun ht25=>?_) (fun ht25=>?_)
   ·
    refine qam ?_
    exact zb rfl rfl (za rfl (decide_eq_false (zdJ hx hy ht25)).symm)
   ·
    refine qb3 ?_
    exact Nx (k+1) (⟨by omega,zbw hx hy hinv.2 (Classical.not_not.1 ht25)⟩) (by omega)
  ·
   refine qbE ?_
   exact zb rfl rfl (za rfl (decide_eq_true (by have h:=hinv.2;rw [List.take_of_length_le (by omega),List.take_of_length_le (by omega)] at h;exact h)).symm)
theorem refTx_ok (a b:Tx):Tells P 199 [.val txT a,.val txT b] (.val boolT (decide (a=b))):=by
 refine zc Tryz.func199 rfl rfl rfl (fun ext w hext=>?_)
 refine ze (d:=0) rfl fact_txl (fun htl=>?_)
 refine qav ?_;refine qbB ?_;refine qa1 ?_;refine qa1 ?_;refine A0 zd2 ?_;refine zaa (d:=13) (p:=¬a.ins.length=b.ins.length) rfl (by simp [IntL.toI];omega) (fun g13=>?_) (fun g13=>?_)
 ·
  refine qar ?_;refine qac ?_;refine qaJ ?_;refine qaq ?_;refine Ct ?_;refine qam ?_
  exact zb rfl rfl (za rfl (decide_eq_false (fun e=>g13 (by rw [e]))).symm)
 ·
  refine qar ?_;refine qaO ?_;refine qaO ?_;refine A1 zd2 ?_;refine qaq ?_;refine zj (p:=¬a.outs.length=b.outs.length) rfl (by simp [IntL.toI];omega) (fun ht22=>?_) (fun ht22=>?_)
  ·
   refine qam ?_
   exact zb rfl rfl (za rfl (decide_eq_false (fun e=>ht22 (by rw [e]))).symm)
  ·
   refine CSQQR ?_;refine qbC ?_;refine Lp (ι:=Nat) 2 (fun (k:Nat)=>(((Fr.none).set 2 (.ptr 0 0)).set 3 (.ptr 1 0)).set 5 (.val i64T (k:Int))) (fun (k:Nat)=>((Hp.none).set 0 (.box 140 txT a)).set 1 (.box 140 txT b)) (fun (k:Nat)=>k≤a.ins.length∧a.ins.take k=b.ins.take k) (fun (k:Nat)=>a.ins.length-k) (0) (⟨Nat.zero_le _,rfl⟩) ?_
   intro k hinv
   refine qa9 ?_;refine qa1 ?_;refine qaz ?_;refine Cf (p:=k<a.ins.length) (fun ht27=>?_) (fun ht27=>?_)
   ·
    obtain ⟨x,hx⟩:∃x,a.ins[k]?=some x:=⟨_,List.getElem?_eq_getElem ht27⟩
    obtain ⟨y,hy⟩:∃y,b.ins[k]?=some y:=⟨_,List.getElem?_eq_getElem (by omega)⟩
    refine qa4 ?_;refine qa0 ?_;refine G0 (oFp zbg) ?_;refine G0 (oLb zbD zda) ?_;refine G0 mV ?_;refine G0 (zm (i:=k) rfl rfl rfl (by omega) zdt (by assumption)) ?_;refine G0 (zf rfl rfl zbi) ?_;refine G0 (oFp zbg) ?_;refine G0 (oLb zbD zda) ?_;refine G0 mV ?_;refine G0 (zm (i:=k) rfl rfl rfl (by omega) zdt (by assumption)) ?_;refine G0 (zf rfl rfl zbi) ?_;refine G0 (zbQ rfl rfl rfl (eqt_193)) ?_;refine GK.nil ?_;refine zj (p:=¬x=y) rfl (by simp) (fun ht40=>?_) (fun ht40=>?_)
    ·
     refine qam ?_
     exact zb rfl rfl (za rfl (decide_eq_false (fun e=>zdJ hx hy ht40 (by rw [e]))).symm)
    ·
     refine qb3 ?_
     exact Nx (k+1) (⟨by omega,zbw hx hy hinv.2 (Classical.not_not.1 ht40)⟩) (by omega)
   ·
    have hins:a.ins=b.ins:=by have h:=hinv.2;rw [List.take_of_length_le (by omega),List.take_of_length_le (by omega)] at h;exact h
    refine CE ?_;refine CQQR ?_;refine qbC ?_;refine Lp (ι:=Nat) 2 (fun (k:Nat)=>(((Fr.none).set 2 (.ptr 0 0)).set 3 (.ptr 1 0)).set 6 (.val i64T (k:Int))) (fun (k:Nat)=>((Hp.none).set 0 (.box 140 txT a)).set 1 (.box 140 txT b)) (fun (k:Nat)=>k≤a.outs.length∧a.outs.take k=b.outs.take k) (fun (k:Nat)=>a.outs.length-k) (0) (⟨Nat.zero_le _,rfl⟩) ?_
    intro k hinv
    refine qa9 ?_;refine qaD ?_;refine qaz ?_;refine Cf (p:=k<a.outs.length) (fun ht45=>?_) (fun ht45=>?_)
    ·
     obtain ⟨x,hx⟩:∃x,a.outs[k]?=some x:=⟨_,List.getElem?_eq_getElem ht45⟩
     obtain ⟨y,hy⟩:∃y,b.outs[k]?=some y:=⟨_,List.getElem?_eq_getElem (by omega)⟩
     refine qa4 ?_;refine qa0 ?_;refine G0 (oFp zbf) ?_;refine G0 (oLb zaU zc9) ?_;refine G0 mV ?_;refine G0 (zm (i:=k) rfl rfl rfl (by omega) zdV (by assumption)) ?_;refine G0 (zf rfl rfl zdU) ?_;refine G0 (oFp zbf) ?_;refine G0 (oLb zaU zc9) ?_;refine G0 mV ?_;refine G0 (zm (i:=k) rfl rfl rfl (by omega) zdV (by assumption)) ?_;refine G0 (zf rfl rfl zdU) ?_;refine G0 (zbQ rfl rfl rfl (eqt_196)) ?_;refine GK.nil ?_;refine zj (p:=¬x=y) rfl (by simp) (fun ht58=>?_) (fun ht58=>?_)
     ·
      refine qam ?_
      exact zb rfl rfl (za rfl (decide_eq_false (fun e=>zdJ hx hy ht58 (by rw [e]))).symm)
     ·
      refine qb3 ?_
      exact Nx (k+1) (⟨by omega,zbw hx hy hinv.2 (Classical.not_not.1 ht58)⟩) (by omega)
    ·
     refine qbE ?_
     exact zb rfl rfl (za rfl (decide_eq_true (by have h:=hinv.2;rw [List.take_of_length_le (by omega),List.take_of_length_le (by omega)] at h;cases a;cases b;simp_all)).symm)
theorem refTxs_ok (l m:List Tx):Tells P 155 [.val (bsl txT) l,.val (bsl txT) m] (.val boolT (decide (l=m))):=by
 refine zc Tryz.func155 rfl rfl rfl (fun ext w hext=>?_)
 refine ze (d:=0) rfl zi (fun hsl0=>?_)
 refine ze (d:=1) rfl zi (fun hsl1=>?_)
 refine CQR ?_;refine qah ?_;refine qbq ?_;refine qar ?_;refine qbq ?_;refine qaB ?_;refine zj (p:=¬l.length=m.length) rfl (by simp [IntL.toI];omega) (fun ht11=>?_) (fun ht11=>?_)
 ·
  refine qam ?_
  exact zb rfl rfl (za rfl (decide_eq_false (fun e=>ht11 (by rw [e]))).symm)
 ·
  refine CSQQR ?_;refine qbC ?_;refine Lp (ι:=Nat) 0 (fun (k:Nat)=>(((Fr.none).set 0 (.val (bsl txT) l)).set 1 (.val (bsl txT) m)).set 5 (.val i64T (k:Int))) (fun (k:Nat)=>Hp.none) (fun (k:Nat)=>k≤l.length∧l.take k=m.take k) (fun (k:Nat)=>l.length-k) (0) (⟨Nat.zero_le _,rfl⟩) ?_
  intro k hinv
  refine qbg ?_;refine qbq ?_;refine qaz ?_;refine Cf (p:=k<l.length) (fun ht15=>?_) (fun ht15=>?_)
  ·
   obtain ⟨x,hx⟩:∃x,l[k]?=some x:=⟨_,List.getElem?_eq_getElem ht15⟩
   obtain ⟨y,hy⟩:∃y,m[k]?=some y:=⟨_,List.getElem?_eq_getElem (by omega)⟩
   refine qa4 ?_;refine qa0 ?_;refine qaF ?_;refine G0 (zm (i:=k) rfl rfl rfl (by omega) zec (by assumption)) ?_;refine G0 (zf rfl rfl ty_140) ?_;refine qaF ?_;refine G0 (zm (i:=k) rfl rfl rfl (by omega) zec (by assumption)) ?_;refine G0 (zf rfl rfl ty_140) ?_
   refine G0 (oCl (refTx_ok _ _) rfl fn_199 ⟨(by first|exact zq rfl|exact zC rfl|exact zy rfl rfl|exact zA rfl|exact zr rfl|exact zL rfl rfl|exact zB rfl),(by first|exact zq rfl|exact zC rfl|exact zy rfl rfl|exact zA rfl|exact zr rfl|exact zL rfl rfl|exact zB rfl),trivial⟩) ?_;refine qa3 ?_;refine qa2 ?_;refine qaE ?_;refine zj (p:=¬x=y) rfl (by simp) (fun ht28=>?_) (fun ht28=>?_)
   ·
    refine qam ?_
    exact zb rfl rfl (za rfl (decide_eq_false (zdJ hx hy ht28)).symm)
   ·
    refine qb3 ?_
    exact Nx (k+1) (⟨by omega,zbw hx hy hinv.2 (Classical.not_not.1 ht28)⟩) (by omega)
  ·
   refine qbE ?_
   exact zb rfl rfl (za rfl (decide_eq_true (by have h:=hinv.2;rw [List.take_of_length_le (by omega),List.take_of_length_le (by omega)] at h;exact h)).symm)
theorem refB_ok (a b:Block):Tells P 101 [.val blockT a,.val blockT b] (.val boolT (decide (a=b))):=by
 refine zc Tryz.func101 rfl rfl rfl (fun ext w hext=>?_)
 refine qav ?_;refine qai ?_;refine A0 (oFp zbR) ?_;refine A0 (oLb zaH zbj) ?_;refine A0 (oFp zbR) ?_;refine A0 (oLb zaH zbj) ?_;refine A0 (oCl (refIds_ok _ _) rfl fn_16 ⟨(zd rfl),(zd rfl),trivial⟩) ?_;refine qai ?_;refine qbX ?_;refine qbX ?_;refine A0 (oCl (refTxs_ok _ _) rfl fn_155 ⟨(zd rfl),(zd rfl),trivial⟩) ?_;refine qa7 ?_;refine Sp (d:=17) (p:=a.l=b.l) (fun g17=>?_) (fun g17=>?_)
 ·
  refine qar ?_;refine A1 mV ?_;refine A0 oK ?_;refine Sp (d:=20) (p:=a.t=b.t) (fun g20=>?_) (fun g20=>?_)
  ·
   refine qar ?_;refine A1 (oFp zan) ?_;refine A1 (oLb zE zao) ?_;refine A1 (oFp zan) ?_;refine A1 (oLb zE zao) ?_;refine A1 (zcM rfl rfl rfl (eqt_38)) ?_;refine qaW ?_
   exact zb rfl rfl (za rfl (by rw [decide_eq_decide];exact ⟨fun h=>by cases a;cases b;simp_all,fun h=>by rw [h]⟩))
  ·
   refine qar ?_;refine qaJ ?_;refine A2 ?_;refine qaW ?_
   exact zb rfl rfl (za rfl (by symm;apply decide_eq_false;intro h;exact g20 (by rw [h])))
 ·
  refine qar ?_;refine A2 ?_;refine qaw ?_;refine qaJ ?_;refine A2 ?_;refine qaW ?_
  exact zb rfl rfl (za rfl (by symm;apply decide_eq_false;intro h;exact g17 (by rw [h])))
set_option maxRecDepth 20000
theorem half_of {n p:Nat} (h:2≤n) (hp:∃j,p=2^j) (h1:p=1∨p<n) (h2:¬2*p<n):p=halfN n:=by
  obtain ⟨j,rfl⟩:=hp
  unfold halfN bitLen
  rw [if_neg (by omega),Nat.add_sub_cancel]
  congr 1
  symm
  refine (Nat.log2_eq_iff (by omega)).2 ⟨by omega,?_⟩
  rw [Nat.pow_succ];omega
theorem rhalfN_ok (n:Nat) (h:2≤n) (hn:n<4398046511104):Tells P 97 [.val i64T (n:Int)] (.val i64T (halfN n:Nat)):=by
 refine zc Tryz.func97 rfl rfl rfl (fun ext w hext=>?_)
 refine ze (d:=0) rfl zQ (fun hin0=>?_)
 refine CQR ?_;refine qai ?_;refine qaA ?_;refine CB ?_;refine Lp (ι:=Nat) 0 (fun (p:Nat)=>((Fr.none).set 0 (.val i64T (n:Int))).set 3 (.val i64T (p:Int))) (fun (p:Nat)=>Hp.none) (fun (p:Nat)=>(∃j,p=2^j)∧1≤p∧(p=1∨p<n)) (fun (p:Nat)=>n-p) (1) (⟨⟨0,rfl⟩,Nat.le_refl _,.inl rfl⟩) ?_
 intro p hinv
 refine qa9 ?_;refine A0 (g_mul rfl rfl rfl (show _=(((2*p:Nat):Int):Int) from (zai (by omega)).trans (by omega))) ?_;refine qar ?_;refine qaz ?_;refine Cf (p:=2*p<n) (fun ht7=>?_) (fun ht7=>?_)
 ·
  refine CS ?_;refine CB ?_;refine CR ?_;refine qar ?_;refine A0 (g_mul rfl rfl rfl (show _=(((2*p:Nat):Int):Int) from (zai (by omega)).trans (by omega))) ?_;refine qab ?_;refine CI ?_
  exact Nx (2*p) (⟨let ⟨j,hj⟩:=hinv.1;⟨j+1,by rw [hj,Nat.pow_succ,Nat.mul_comm]⟩,by omega,.inr ht7⟩) (by omega)
 ·
  refine CE ?_;refine qb8 ?_
  exact zb rfl rfl (za rfl (by rw [half_of h hinv.1 hinv.2.2 ht7]))
theorem rtreeText_ok (a b:Ab.Id) (ha:a.length=32) (hb:b.length=32):Tells P 154 [.val idT a,.val idT b] (.fresh 5 u8T (nodeText a b)):=by
 refine zc Tryz.func154 rfl rfl rfl (fun ext w hext=>?_)
 refine qav ?_;refine A0 aL ?_;refine CNQ ?_;refine zbe (d:=2) rfl rfl (Lens.self _) ?_;refine zbe (d:=3) rfl rfl (Lens.self _) ?_;refine CR ?_;refine zaN (T:=u8T) (xs:=[_]) rfl rfl rfl rfl zaW zR ⟨rfl,rfl,trivial⟩ rfl rfl ?_;refine A0 (zae rfl rfl za5 rfl rfl) ?_;refine zn rfl rfl rfl rfl rfl rfl rfl zR (by simp [ha,hb]) ?_;refine qaT ?_;refine A0 (zae rfl rfl za5 rfl rfl) ?_;refine zn rfl rfl rfl rfl rfl rfl rfl zR (by simp [ha,hb]) ?_;refine qbe ?_
 exact zb rfl rfl (zg rfl rfl (by simp [nodeText]))
theorem rnode_ok (a b:Ab.Id):Tells P 151 [.val idT a,.val idT b] (.val idT (nodeOf a b)):=by
 refine zc Tryz.func151 rfl rfl rfl (fun ext w hext=>?_)
 refine ze (d:=0) rfl zfl (fun ha=>?_)
 refine ze (d:=1) rfl zfl (fun hb=>?_)
 refine qav ?_;refine qa8 ?_;refine CNQR ?_;refine qaN ?_;refine qaN ?_;refine A0 (oCl (zs (rtreeText_ok a b ha hb)) rfl fn_154 ⟨(zd rfl),(zd rfl),trivial⟩) ?_;refine A0 (oCl (rsumB_ok (nodeText a b) (by unfold nodeText;simp;omega)) rfl fn_145 ⟨(zd rfl),trivial⟩) ?_;refine qbz ?_
 exact zu rfl rfl rfl rfl zM (rfl)
theorem rroot_ok (l:List Ab.Id) (hl:l.length<4398046511104):Tells P 94 [.val (bsl idT) l] (.val idT (rootOf l)):=by
 refine zc Tryz.func94 rfl rfl rfl (fun ext w hext=>?_)
 refine ze (d:=0) rfl zi (fun hsl0=>?_)
 refine CQR ?_;refine qa8 ?_;refine CNQQR ?_;refine qa6 ?_;refine A0 zbU ?_;refine CN ?_;refine Cf (p:=l.length=0) (fun ht6=>?_) (fun ht6=>?_)
 ·
  refine CQR ?_;refine A0 (zo (T:=u8T) (xs:=[_]) rfl zaW zR ⟨rfl,rfl,trivial⟩ rfl rfl) ?_;refine A0 (oCl (rsumB_ok [2] (by decide)) rfl fn_145 ⟨(zd rfl),trivial⟩) ?_;refine qbz ?_
  exact zu rfl rfl rfl rfl zM (by rw [rootOf,if_pos ht6])
 ·
  refine CSQQR ?_;refine qa6 ?_;refine A0 zbU ?_;refine CN ?_;refine Cf (p:=l.length=1) (fun ht11=>?_) (fun ht11=>?_)
  ·
   obtain ⟨x,hx⟩:∃x,l[0]?=some x:=⟨_,List.getElem?_eq_getElem (by omega)⟩
   refine qa2 ?_;refine A0 (zm (i:=0) rfl rfl rfl (by omega) zak (by assumption)) ?_;refine A0 (zf rfl rfl zM) ?_;refine qbz ?_
   exact zu rfl rfl rfl rfl zM (by rw [rootOf,if_neg ht6,dif_pos (by omega)];cases l with|nil=>simp at ht6|cons a m=>simp at hx ⊢;exact hx.symm)
  ·
   have hp:=zdK l.length
   have hh:=zff (n:=l.length) (by omega)
   refine CSQR ?_;refine qa6 ?_;refine A0 (oCl (rhalfN_ok l.length (by omega) (by omega)) rfl fn_97 ⟨(zd rfl),trivial⟩) ?_;refine qaA ?_;refine zx [some 1,some 1,some 1,some 1,some 1,some 1,some 1,some 1,some 1,none] mixed (by decide +kernel) ?_;refine qaP ?_;refine X0 (by first|exact zbt rfl rfl rfl (by first|rfl|omega) zak|exact zdy rfl rfl rfl zak (by first|assumption|omega|(simp;omega))) ?_;refine X0 (oCl (rroot_ok (l.take (halfN l.length)) (by simp;omega)) rfl fn_94 ⟨(zd rfl),trivial⟩) ?_;refine qaP ?_
   refine X0 (zeP rfl rfl rfl zak (by first|assumption|omega|(simp;omega))) ?_;refine X0 (oCl (rroot_ok (l.drop (halfN l.length)) (by simp;omega)) rfl fn_94 ⟨(zd rfl),trivial⟩) ?_;refine X0 (oCl (rnode_ok _ _) rfl fn_151 ⟨(zd rfl),(zd rfl),trivial⟩) ?_;refine XK.e (x:=.idk) (fun fr' hfr kk H=>by exact zh rfl rfl rfl ((hfr 2 (by decide +kernel)).trans rfl) rfl (Lens.self _) zM ((hfr 26 (by decide +kernel)).trans rfl) (zz H)) ?_;refine XK.nil' ?_
   exact zu rfl rfl rfl rfl zM (by conv=>rhs;rw [rootOf,if_neg ht6,dif_neg (by omega)])
termination_by l.length
decreasing_by
  all_goals (simp;omega)
theorem rtxIds_ok (l:List Tx) (hl:l.length≤4000000000000):Tells P 159 [.val (bsl txT) l] (.fresh 32 idT (l.map idOf)):=by
 refine zc Tryz.func159 rfl rfl rfl (fun ext w hext=>?_)
 refine ze (d:=0) rfl zi (fun hsl0=>?_)
 refine qbP ?_;refine A0 aL ?_;refine qax ?_;refine za0 (T:=idT) (d:=3) 32 rfl ?_;refine Lp (ι:=Nat) 1 (fun (k:Nat)=>(((Fr.none).set 0 (.val (bsl txT) l)).set 3 (.own 0)).set 4 (.val i64T (k:Int))) (fun (k:Nat)=>(Hp.none).set 0 (.row 32 idT ((l.take k).map idOf))) (fun (k:Nat)=>k≤l.length) (fun (k:Nat)=>l.length-k) (0) (Nat.zero_le _) ?_
 intro k hinv
 refine qbg ?_;refine qbq ?_;refine qaz ?_;refine Cf (p:=k<l.length) (fun ht8=>?_) (fun ht8=>?_)
 ·
  obtain ⟨x,hx⟩:∃x,l[k]?=some x:=⟨_,List.getElem?_eq_getElem ht8⟩
  refine qa4 ?_;refine CR ?_;refine A0 mO ?_;refine qag ?_;refine A0 (zm (i:=k) rfl rfl rfl (by omega) zec (by assumption)) ?_;refine qbT ?_;refine A0 (oCl (rid_ok _) rfl fn_205 ⟨(by first|exact zq rfl|exact zC rfl|exact zy rfl rfl|exact zA rfl|exact zr rfl|exact zL rfl rfl|exact zB rfl),trivial⟩) ?_;refine A0 (zo (T:=idT) (xs:=[_]) rfl zak zbI ⟨rfl,rfl,trivial⟩ rfl rfl) ?_;refine zn rfl rfl rfl rfl rfl rfl rfl zbI (by simp;omega) ?_;refine A0 aO ?_;refine qaR ?_;refine zaB 1 0 2 rfl rfl rfl rfl rfl rfl ?_
  refine zK (n:=0) (y:=(l.take (k+1)).map idOf) rfl (by rw [List.take_add_one,hx];simp) ?_
  exact Nx (k+1) (by omega) (by omega)
 ·
  refine qat ?_
  exact zb rfl rfl (zg rfl rfl (by rw [List.take_of_length_le (by omega)]))
theorem rtxRoot_ok (l:List Tx) (hl:l.length≤4000000000000):Tells P 103 [.val (bsl txT) l] (.val idT (txRoot l)):=by
 refine zc Tryz.func103 rfl rfl rfl (fun ext w hext=>?_)
 refine ze (d:=0) rfl zi (fun hsl0=>?_)
 refine CQR ?_;refine qa8 ?_;refine qbx ?_;refine A0 (oCl (zs (rtxIds_ok l hl)) rfl fn_159 ⟨(zd rfl),trivial⟩) ?_;refine A0 (oCl (rroot_ok (l.map idOf) (by simp;omega)) rfl fn_94 ⟨(zd rfl),trivial⟩) ?_;refine qbz ?_
 exact zu rfl rfl rfl rfl zM (rfl)
theorem fact_idsL {l:List Ab.Id} {ρ:Nat→Value} {B:Nat→Prop} {U N:Nat→Prop} {w:World} {v:Value} (h:(AV.val (bsl idT) l).rel ρ B U N w v):∀x∈l,x.length=32:=fun x hx=>by
  obtain ⟨cs,⟨ad,cap,_,_,_,h3⟩,_⟩:=h
  obtain ⟨_,ds,_,_,hr,_⟩:=h3 (List.ne_nil_of_mem hx)
  obtain ⟨c,hc⟩:=relAll_mem hr x hx
  exact hc.1
theorem rleaf_ok (b:List UInt8) (hb:b.length≤1000000):Tells P 152 [.val (bsl u8T) b] (.val idT (leafOf b)):=by
 refine zc Tryz.func152 rfl rfl rfl (fun ext w hext=>?_)
 refine ze (d:=0) rfl zi (fun hsl0=>?_)
 refine CQR ?_;refine qa8 ?_;refine CNQR ?_;refine A0 (zo (T:=u8T) (xs:=[_]) rfl zaW zR ⟨rfl,rfl,trivial⟩ rfl rfl) ?_;refine aw_lend (S:=bsl u8T) (d:=3) rfl ?_;refine qar ?_;refine A0 (zo (T:=(bsl u8T)) (xs:=[_,_]) rfl zdF zde ⟨rfl,rfl,rfl,rfl,trivial⟩ rfl rfl) ?_;refine A0 (oCl (rof_ok [[0],b] (by simp;omega)) rfl fn_91 ⟨(zd rfl),trivial⟩) ?_;refine qbz ?_
 exact zu rfl rfl rfl rfl zM (by unfold leafOf;simp)
theorem rleaves_ok (l:List Ab.Id) (hl:l.length≤4000000000000):Tells P 95 [.val (bsl idT) l] (.fresh 32 idT (l.map linkLeaf)):=by
 refine zc Tryz.func95 rfl rfl rfl (fun ext w hext=>?_)
 refine ze (d:=0) rfl zi (fun hsl0=>?_)
 refine ze (d:=0) rfl fact_idsL (fun hids=>?_)
 refine qbP ?_;refine A0 aL ?_;refine qax ?_;refine za0 (T:=idT) (d:=3) 32 rfl ?_;refine Lp (ι:=Nat) 1 (fun (k:Nat)=>(((Fr.none).set 0 (.val (bsl idT) l)).set 3 (.own 0)).set 4 (.val i64T (k:Int))) (fun (k:Nat)=>(Hp.none).set 0 (.row 32 idT ((l.take k).map linkLeaf))) (fun (k:Nat)=>k≤l.length) (fun (k:Nat)=>l.length-k) (0) (Nat.zero_le _) ?_
 intro k hinv
 refine qbg ?_;refine qci ?_;refine qaz ?_;refine Cf (p:=k<l.length) (fun ht8=>?_) (fun ht8=>?_)
 ·
  obtain ⟨x,hx⟩:∃x,l[k]?=some x:=⟨_,List.getElem?_eq_getElem ht8⟩
  have hx32:=hids x (List.mem_of_getElem? hx)
  refine qa4 ?_;refine CR ?_;refine A0 mO ?_;refine qag ?_;refine A0 (zm (i:=k) rfl rfl rfl (by omega) zak (by assumption)) ?_;refine A0 (zae rfl rfl za5 rfl rfl) ?_;refine A0 (oCl (rleaf_ok x (by omega)) rfl fn_152 ⟨(zd rfl),trivial⟩) ?_;refine A0 (zo (T:=idT) (xs:=[_]) rfl zak zbI ⟨rfl,rfl,trivial⟩ rfl rfl) ?_;refine zn rfl rfl rfl rfl rfl rfl rfl zbI (by simp;omega) ?_;refine A0 aO ?_;refine qaR ?_;refine zaB 1 0 2 rfl rfl rfl rfl rfl rfl ?_;refine zK (n:=0) (y:=(l.take (k+1)).map linkLeaf) rfl (by rw [List.take_add_one,hx];simp [linkLeaf]) ?_
  exact Nx (k+1) (by omega) (by omega)
 ·
  refine qat ?_
  exact zb rfl rfl (zg rfl rfl (by rw [List.take_of_length_le (by omega)]))
theorem zdu (l:List Ab.Id) (hl:l.length≤4000000000000):Tells P 53 [.val (bsl idT) l] (.val idT (linkRoot l)):=by
 refine zc Tryz.func53 rfl rfl rfl (fun ext w hext=>?_)
 refine ze (d:=0) rfl zi (fun hsl0=>?_)
 refine CQR ?_;refine qa8 ?_;refine qbx ?_;refine A0 (oCl (zs (rleaves_ok l hl)) rfl fn_95 ⟨(zd rfl),trivial⟩) ?_;refine A0 (oCl (rroot_ok (l.map linkLeaf) (by simp;omega)) rfl fn_94 ⟨(zd rfl),trivial⟩) ?_;refine qbz ?_
 exact zu rfl rfl rfl rfl zM (rfl)
set_option maxRecDepth 20000
def nW (a:Wide):Nat:=(a.getD 0 0).toNat+18446744073709551616*(a.getD 1 0).toNat+340282366920938463463374607431768211456*(a.getD 2 0).toNat+6277101735386680763835789423207666416102355444464034512896*(a.getD 3 0).toNat
abbrev W256:Nat:=115792089237316195423570985008687907853269984665640564039457584007913129639936
theorem addS_n (a b c:UInt64):(addS a b c).toNat=(a.toNat+b.toNat+c.toNat)%18446744073709551616:=by unfold addS;rw [UInt64.toNat_ofNat']
theorem addC_n (a b:UInt64) {c:UInt64} (h:c.toNat≤1):(addC a b c).toNat=(a.toNat+b.toNat+c.toNat)/18446744073709551616:=by
  have ha:a.toNat<18446744073709551616:=a.toNat_lt
  have hb:b.toNat<18446744073709551616:=b.toNat_lt
  unfold addC
  rw [UInt64.toNat_ofNat_of_lt' (by show _<18446744073709551616;omega)]
theorem carry_add (a0 a1 a2 a3 b0 b1 b2 b3:UInt64):carryN addS addC [a0,a1,a2,a3] [b0,b1,b2,b3] 4=([addS a0 b0 0,addS a1 b1 (addC a0 b0 0),addS a2 b2 (addC a1 b1 (addC a0 b0 0)),addS a3 b3 (addC a2 b2 (addC a1 b1 (addC a0 b0 0)))],addC a3 b3 (addC a2 b2 (addC a1 b1 (addC a0 b0 0)))):=rfl
theorem nW_lt {a:Wide} (_h:a.length=4):nW a<W256:=by
  have h0:(a.getD 0 0).toNat<18446744073709551616:=UInt64.toNat_lt _
  have h1:(a.getD 1 0).toNat<18446744073709551616:=UInt64.toNat_lt _
  have h2:(a.getD 2 0).toNat<18446744073709551616:=UInt64.toNat_lt _
  have h3:(a.getD 3 0).toNat<18446744073709551616:=UInt64.toNat_lt _
  unfold nW W256;omega
theorem nW_inj {a b:Wide} (ha:a.length=4) (hb:b.length=4) (h:nW a=nW b):a=b:=by
  match a,ha with
  | [a0,a1,a2,a3],_=>match b,hb with
    | [b0,b1,b2,b3],_ =>
      have h0:a0.toNat<18446744073709551616:=a0.toNat_lt
      have h1:a1.toNat<18446744073709551616:=a1.toNat_lt
      have h2:a2.toNat<18446744073709551616:=a2.toNat_lt
      have h3:a3.toNat<18446744073709551616:=a3.toNat_lt
      have k0:b0.toNat<18446744073709551616:=b0.toNat_lt
      have k1:b1.toNat<18446744073709551616:=b1.toNat_lt
      have k2:b2.toNat<18446744073709551616:=b2.toNat_lt
      have k3:b3.toNat<18446744073709551616:=b3.toNat_lt
      have h:a0.toNat+18446744073709551616*a1.toNat+340282366920938463463374607431768211456*a2.toNat+6277101735386680763835789423207666416102355444464034512896*a3.toNat=b0.toNat+18446744073709551616*b1.toNat+340282366920938463463374607431768211456*b2.toNat+6277101735386680763835789423207666416102355444464034512896*b3.toNat:=h
      rw [UInt64.toNat_inj.1 (show a0.toNat=b0.toNat by omega),UInt64.toNat_inj.1 (show a1.toNat=b1.toNat by omega),UInt64.toNat_inj.1 (show a2.toNat=b2.toNat by omega),UInt64.toNat_inj.1 (show a3.toNat=b3.toNat by omega)]
theorem zaL {a b:Wide} (ha:a.length=4) (hb:b.length=4):(addW a b).length=4:=by
  match a,ha with
  | [a0,a1,a2,a3],_=>match b,hb with
    | [b0,b1,b2,b3],_=>unfold addW;rw [carry_add];rfl
theorem nW_add2 {a b:Wide} (ha:a.length=4) (hb:b.length=4):nW (addW a b)=(nW a+nW b)%W256∧(addOk a b=true↔nW a+nW b<W256):=by
  match a,ha with
  | [a0,a1,a2,a3],_=>match b,hb with
    | [b0,b1,b2,b3],_ =>
      have h0:a0.toNat<18446744073709551616:=a0.toNat_lt
      have h1:a1.toNat<18446744073709551616:=a1.toNat_lt
      have h2:a2.toNat<18446744073709551616:=a2.toNat_lt
      have h3:a3.toNat<18446744073709551616:=a3.toNat_lt
      have k0:b0.toNat<18446744073709551616:=b0.toNat_lt
      have k1:b1.toNat<18446744073709551616:=b1.toNat_lt
      have k2:b2.toNat<18446744073709551616:=b2.toNat_lt
      have k3:b3.toNat<18446744073709551616:=b3.toNat_lt
      have z:(0:UInt64).toNat≤1:=by decide
      have z0:(0:UInt64).toNat=0:=rfl
      have c1:=addC_n a0 b0 z
      have l1:=addC_le a0 b0 z
      have c2:=addC_n a1 b1 l1
      have l2:=addC_le a1 b1 l1
      have c3:=addC_n a2 b2 l2
      have l3:=addC_le a2 b2 l2
      have c4:=addC_n a3 b3 l3
      have s0:=addS_n a0 b0 0
      have s1:=addS_n a1 b1 (addC a0 b0 0)
      have s2:=addS_n a2 b2 (addC a1 b1 (addC a0 b0 0))
      have s3:=addS_n a3 b3 (addC a2 b2 (addC a1 b1 (addC a0 b0 0)))
      unfold addW addOk
      rw [carry_add]
      unfold nW W256
      simp only [List.getD_cons_zero,List.getD_cons_succ,decide_eq_true_eq]
      rw [z0] at c1 s0
      generalize addC a3 b3 (addC a2 b2 (addC a1 b1 (addC a0 b0 0)))=x4 at *
      generalize addS a3 b3 (addC a2 b2 (addC a1 b1 (addC a0 b0 0)))=y3 at *
      generalize addS a2 b2 (addC a1 b1 (addC a0 b0 0))=y2 at *
      generalize addC a2 b2 (addC a1 b1 (addC a0 b0 0))=x3 at *
      generalize addS a1 b1 (addC a0 b0 0)=y1 at *
      generalize addC a1 b1 (addC a0 b0 0)=x2 at *
      generalize addS a0 b0 0=y0 at *
      generalize addC a0 b0 0=x1 at *
      constructor
      · omega
      · constructor<;>intro h<;>omega
theorem nW_add {a b:Wide} (ha:a.length=4) (hb:b.length=4):nW (addW a b)=(nW a+nW b)%W256:=(nW_add2 ha hb).1
set_option maxRecDepth 20000
theorem zdZ {r:Nat} (h:r≤64):2^r*2^(64-r)=18446744073709551616:=by
  rw [←Nat.pow_add,show r+(64-r)=64 by omega]
theorem shl_n {x:UInt64} {r:Nat} (h:r<64):(shl64 x r).toNat=x.toNat*2^r%18446744073709551616:=by
  unfold shl64;rw [UInt64.toNat_ofNat',Nat.min_eq_left (by omega)]
theorem shr_n {x:UInt64} {r:Nat} (h:r<64):(shr64 x r).toNat=x.toNat/2^r:=by
  unfold shr64
  have hx:x.toNat<18446744073709551616:=x.toNat_lt
  rw [Nat.min_eq_left (by omega),UInt64.toNat_ofNat_of_lt' (by show _<18446744073709551616;have:=Nat.div_le_self x.toNat (2^r);omega)]
def upU (x y:UInt64) (r:Nat):UInt64:=shl64 x r|||shr64 (shr64 y 1) (63-r)
def downU (x y:UInt64) (r:Nat):UInt64:=shr64 x r|||shl64 (shl64 y 1) (63-r)
theorem or_sum {a b i:Nat} (h:b<2^i):(a*2^i)|||b=a*2^i+b:=by
  rw [←Nat.shiftLeft_eq,Nat.shiftLeft_add_eq_or_of_lt h]
theorem upU_n {x y:UInt64} {r:Nat} (h:r<64):(upU x y r).toNat=x.toNat%2^(64-r)*2^r+y.toNat/2^(64-r):=by
  have hy:y.toNat<18446744073709551616:=y.toNat_lt
  unfold upU
  rw [UInt64.toNat_or,shl_n h,shr_n (by omega),shr_n (by omega),Nat.div_div_eq_div_mul,←Nat.pow_add,show 1+(63-r)=64-r by omega]
  have e:x.toNat*2^r%18446744073709551616=x.toNat%2^(64-r)*2^r:=by
    rw [←zdZ (r:=r) (by omega),Nat.mul_comm (2^r) (2^(64-r)),Nat.mul_mod_mul_right]
  rw [e,or_sum]
  rw [Nat.div_lt_iff_lt_mul (Nat.two_pow_pos _),zdZ (by omega)];exact hy
theorem downU_n {x y:UInt64} {r:Nat} (h:r<64):(downU x y r).toNat=x.toNat/2^r+y.toNat%2^r*2^(64-r):=by
  have hx:x.toNat<18446744073709551616:=x.toNat_lt
  unfold downU
  rw [UInt64.toNat_or,shr_n h,shl_n (by omega),shl_n (by omega)]
  have e:y.toNat*2^1%18446744073709551616*2^(63-r)%18446744073709551616=y.toNat%2^r*2^(64-r):=by
    rw [Nat.mod_mul_mod,Nat.mul_assoc,←Nat.pow_add,show 1+(63-r)=64-r by omega,←zdZ (r:=r) (by omega),Nat.mul_mod_mul_right]
  rw [e,Nat.or_comm,or_sum,Nat.add_comm]
  rw [Nat.div_lt_iff_lt_mul (Nat.two_pow_pos _),Nat.mul_comm,zdZ (by omega)];exact hx
theorem up_small {a0 a1 a2 a3:UInt64} {r:Nat} (h:r<64):nW [upU a0 0 r,upU a1 a0 r,upU a2 a1 r,upU a3 a2 r]=nW [a0,a1,a2,a3]*2^r%W256:=by
  have hs:=zdZ (r:=r) (by omega)
  unfold nW
  simp only [List.getD_cons_zero,List.getD_cons_succ]
  rw [upU_n h,upU_n h,upU_n h,upU_n h]
  have hz:(0:UInt64).toNat=0:=rfl
  rw [hz,Nat.zero_div]
  obtain ⟨p,hp⟩:∃p,p=2^r:=⟨_,rfl⟩
  obtain ⟨s,hs'⟩:∃s,s=2^(64-r):=⟨_,rfl⟩
  rw [←hp,←hs'] at hs ⊢
  have key:∀x:UInt64,∃t c:Nat,x.toNat*p=t+18446744073709551616*c∧x.toNat%s*p=t∧x.toNat/s=c∧c<18446744073709551616:=fun x=>by
    have hx:x.toNat<18446744073709551616:=x.toNat_lt
    refine ⟨_,_,?_,rfl,rfl,?_⟩
    · have e:=Nat.mod_add_div x.toNat s
      conv=>lhs;rw [←e]
      rw [Nat.add_mul,←hs,Nat.mul_comm s (x.toNat/s),Nat.mul_assoc,Nat.mul_comm s p,Nat.mul_comm (x.toNat/s)]
    · exact Nat.lt_of_le_of_lt (Nat.div_le_self _ _) hx
  obtain ⟨t0,c0,e0,f0,g0,l0⟩:=key a0
  obtain ⟨t1,c1,e1,f1,g1,l1⟩:=key a1
  obtain ⟨t2,c2,e2,f2,g2,l2⟩:=key a2
  obtain ⟨t3,c3,e3,f3,g3,l3⟩:=key a3
  have b3:t3<18446744073709551616:=by
    rw [←f3,←hs,Nat.mul_comm p s]
    exact Nat.mul_lt_mul_of_pos_right (Nat.mod_lt _ (by rw [hs'];exact Nat.two_pow_pos _)) (by rw [hp];exact Nat.two_pow_pos _)
  have b:∀{x:UInt64} {t:Nat},x.toNat%s*p=t→t<18446744073709551616:=fun {x t} f=>by
    rw [←f,←hs,Nat.mul_comm p s]
    exact Nat.mul_lt_mul_of_pos_right (Nat.mod_lt _ (by rw [hs'];exact Nat.two_pow_pos _)) (by rw [hp];exact Nat.two_pow_pos _)
  have b0:=b f0
  have b1:=b f1
  have b2:=b f2
  have hd:∀{x:UInt64} {c:Nat},x.toNat/s=c→c<p:=fun {x c} f=>by
    rw [←f,Nat.div_lt_iff_lt_mul (by rw [hs'];exact Nat.two_pow_pos _),hs];exact x.toNat_lt
  have hm:∀{x:UInt64} {t:Nat},x.toNat%s*p=t→t+p≤18446744073709551616:=fun {x t} f=>by
    rw [←f,←hs,Nat.mul_comm p s]
    have h1:x.toNat%s+1≤s:=Nat.mod_lt _ (by rw [hs'];exact Nat.two_pow_pos _)
    have h2:=Nat.mul_le_mul_right p h1
    rw [Nat.add_mul,Nat.one_mul] at h2;exact h2
  have d0:=hd g0
  have d1:=hd g1
  have d2:=hd g2
  have m1:=hm f1
  have m2:=hm f2
  have m3:=hm f3
  rw [f0,f1,f2,f3,g0,g1,g2]
  have e:(a0.toNat+18446744073709551616*a1.toNat+340282366920938463463374607431768211456*a2.toNat+6277101735386680763835789423207666416102355444464034512896*a3.toNat)*p=a0.toNat*p+18446744073709551616*(a1.toNat*p)+340282366920938463463374607431768211456*(a2.toNat*p)+6277101735386680763835789423207666416102355444464034512896*(a3.toNat*p):=by
    rw [Nat.add_mul,Nat.add_mul,Nat.add_mul,Nat.mul_assoc,Nat.mul_assoc,Nat.mul_assoc]
  rw [e,e0,e1,e2,e3]
  unfold W256
  omega
theorem down_small {a0 a1 a2 a3:UInt64} {r:Nat} (h:r<64):nW [downU a0 a1 r,downU a1 a2 r,downU a2 a3 r,downU a3 0 r]=nW [a0,a1,a2,a3]/2^r:=by
  have hs:=zdZ (r:=r) (by omega)
  unfold nW
  simp only [List.getD_cons_zero,List.getD_cons_succ]
  rw [downU_n h,downU_n h,downU_n h,downU_n h]
  have hz:(0:UInt64).toNat=0:=rfl
  rw [hz,Nat.zero_mod,Nat.zero_mul]
  have hpos:=Nat.two_pow_pos r
  obtain ⟨p,hp⟩:∃p,p=2^r:=⟨_,rfl⟩
  obtain ⟨s,hs'⟩:∃s,s=2^(64-r):=⟨_,rfl⟩
  rw [←hp,←hs'] at hs ⊢
  rw [←hp] at hpos
  have key:∀x:UInt64,∃c d:Nat,x.toNat=p*c+d∧x.toNat/p=c∧x.toNat%p=d∧d<p:=fun x=>⟨_,_,(Nat.div_add_mod _ _).symm,rfl,rfl,Nat.mod_lt _ hpos⟩
  obtain ⟨c0,d0,e0,f0,g0,l0⟩:=key a0
  obtain ⟨c1,d1,e1,f1,g1,l1⟩:=key a1
  obtain ⟨c2,d2,e2,f2,g2,l2⟩:=key a2
  obtain ⟨c3,d3,e3,f3,g3,l3⟩:=key a3
  rw [f0,f1,f2,f3,g1,g2,g3]
  symm
  have e:a0.toNat+18446744073709551616*a1.toNat+340282366920938463463374607431768211456*a2.toNat+6277101735386680763835789423207666416102355444464034512896*a3.toNat=d0+p*(c0+d1*s+18446744073709551616*(c1+d2*s)+340282366920938463463374607431768211456*(c2+d3*s)+6277101735386680763835789423207666416102355444464034512896*(c3+0)):=by
    rw [e0,e1,e2,e3]
    simp only [Nat.mul_add,Nat.mul_left_comm p,hs]
    omega
  rw [e,Nat.add_mul_div_left _ _ hpos,Nat.div_eq_of_lt l0,Nat.zero_add]
theorem wide4 {a:Wide} (h:a.length=4):∃a0 a1 a2 a3,a=[a0,a1,a2,a3]:=by
  match a,h with
  | [a0,a1,a2,a3],_=>exact ⟨a0,a1,a2,a3,rfl⟩
theorem upW_len {a:Wide} {n:Int} (h:a.length=4):(upW a n).length=4:=by
  unfold upW;split
  · exact h
  · split
    · rfl
    · simp
theorem zcZ {a:Wide} {n:Int} (h:a.length=4):(downW a n).length=4:=by
  unfold downW;split
  · exact h
  · split
    · rfl
    · simp
theorem nW_up {a:Wide} {n:Nat} (h:a.length=4) (hn:n<256):nW (upW a n)=nW a*2^n%W256:=by
  obtain ⟨a0,a1,a2,a3,rfl⟩:=wide4 h
  obtain ⟨q,r,rfl,hr⟩:∃q r,n=64*q+r∧r<64:=⟨n/64,n%64,by omega,by omega⟩
  have h1:((64*q+r:Nat):Int)/64=q:=by omega
  have h2:(((64*q+r:Nat):Int)%64).toNat=r:=by omega
  have hz:=UInt64.toNat_lt a0
  have h3:q<4:=by omega
  have h4:(63-((64*q+r:Nat):Int)%64).toNat=63-r:=by omega
  have e:∀b:Wide,b.length=4→(∀i:Nat,i<4→atW [a0,a1,a2,a3] ((i:Int)-q)=b.getD i 0∧atW [a0,a1,a2,a3] ((i:Int)-q-1)=if i=0 then 0 else b.getD (i-1) 0)→nW b=nW [a0,a1,a2,a3]*18446744073709551616^q%W256→nW (upW [a0,a1,a2,a3] ((64*q+r:Nat):Int))=nW [a0,a1,a2,a3]*2^(64*q+r)%W256:=fun b hb hat hnb=>by
    obtain ⟨b0,b1,b2,b3,rfl⟩:=wide4 hb
    unfold upW
    rw [if_neg (by omega),if_neg (by omega)]
    have hF:(List.range 4).map (upF [a0,a1,a2,a3] ((64*q+r:Nat):Int))=[upU b0 0 r,upU b1 b0 r,upU b2 b1 r,upU b3 b2 r]:=by
      have hu:∀i,upF [a0,a1,a2,a3] ((64*q+r:Nat):Int) i=upU (atW [a0,a1,a2,a3] ((i:Int)-q)) (atW [a0,a1,a2,a3] ((i:Int)-q-1)) r:=fun i=>by unfold upF upU;rw [h1,h2,h4]
      show [upF _ _ 0,upF _ _ 1,upF _ _ 2,upF _ _ 3]=_
      rw [hu,hu,hu,hu,(hat 0 (by decide)).1,(hat 0 (by decide)).2,(hat 1 (by decide)).1,(hat 1 (by decide)).2,(hat 2 (by decide)).1,(hat 2 (by decide)).2,(hat 3 (by decide)).1,(hat 3 (by decide)).2]
      rfl
    rw [hF,up_small hr,hnb,Nat.mod_mul_mod,Nat.pow_add,Nat.pow_mul,Nat.mul_assoc]
  have hb0:a0.toNat<18446744073709551616:=a0.toNat_lt
  have hb1:a1.toNat<18446744073709551616:=a1.toNat_lt
  have hb2:a2.toNat<18446744073709551616:=a2.toNat_lt
  have hb3:a3.toNat<18446744073709551616:=a3.toNat_lt
  have hq:q=0∨q=1∨q=2∨q=3:=by omega
  rcases hq with rfl|rfl|rfl|rfl
  · refine e [a0,a1,a2,a3] rfl (fun i hi=>?_) ?_
    · match i,hi with
      | 0,_=>exact ⟨rfl,rfl⟩
      | 1,_=>exact ⟨rfl,rfl⟩
      | 2,_=>exact ⟨rfl,rfl⟩
      | 3,_=>exact ⟨rfl,rfl⟩
    · rw [Nat.pow_zero,Nat.mul_one,Nat.mod_eq_of_lt (nW_lt h)]
  · refine e [0,a0,a1,a2] rfl (fun i hi=>?_) ?_
    · match i,hi with
      | 0,_=>exact ⟨rfl,rfl⟩
      | 1,_=>exact ⟨rfl,rfl⟩
      | 2,_=>exact ⟨rfl,rfl⟩
      | 3,_=>exact ⟨rfl,rfl⟩
    · unfold nW W256;simp only [List.getD_cons_zero,List.getD_cons_succ];have:(0:UInt64).toNat=0:=rfl;omega
  · refine e [0,0,a0,a1] rfl (fun i hi=>?_) ?_
    · match i,hi with
      | 0,_=>exact ⟨rfl,rfl⟩
      | 1,_=>exact ⟨rfl,rfl⟩
      | 2,_=>exact ⟨rfl,rfl⟩
      | 3,_=>exact ⟨rfl,rfl⟩
    · unfold nW W256;simp only [List.getD_cons_zero,List.getD_cons_succ];have:(0:UInt64).toNat=0:=rfl;omega
  · refine e [0,0,0,a0] rfl (fun i hi=>?_) ?_
    · match i,hi with
      | 0,_=>exact ⟨rfl,rfl⟩
      | 1,_=>exact ⟨rfl,rfl⟩
      | 2,_=>exact ⟨rfl,rfl⟩
      | 3,_=>exact ⟨rfl,rfl⟩
    · unfold nW W256;simp only [List.getD_cons_zero,List.getD_cons_succ];have:(0:UInt64).toNat=0:=rfl;omega
theorem nW_down {a:Wide} {n:Nat} (h:a.length=4) (hn:n<256):nW (downW a n)=nW a/2^n:=by
  obtain ⟨a0,a1,a2,a3,rfl⟩:=wide4 h
  obtain ⟨q,r,rfl,hr⟩:∃q r,n=64*q+r∧r<64:=⟨n/64,n%64,by omega,by omega⟩
  have h1:((64*q+r:Nat):Int)/64=q:=by omega
  have h2:(((64*q+r:Nat):Int)%64).toNat=r:=by omega
  have h3:q<4:=by omega
  have h4:(63-((64*q+r:Nat):Int)%64).toNat=63-r:=by omega
  have e:∀b:Wide,b.length=4→(∀i:Nat,i<4→atW [a0,a1,a2,a3] ((i:Int)+q)=b.getD i 0∧atW [a0,a1,a2,a3] ((i:Int)+q+1)=if i=3 then 0 else b.getD (i+1) 0)→nW b=nW [a0,a1,a2,a3]/18446744073709551616^q→nW (downW [a0,a1,a2,a3] ((64*q+r:Nat):Int))=nW [a0,a1,a2,a3]/2^(64*q+r):=fun b hb hat hnb=>by
    obtain ⟨b0,b1,b2,b3,rfl⟩:=wide4 hb
    unfold downW
    rw [if_neg (by omega),if_neg (by omega)]
    have hF:(List.range 4).map (downF [a0,a1,a2,a3] ((64*q+r:Nat):Int))=[downU b0 b1 r,downU b1 b2 r,downU b2 b3 r,downU b3 0 r]:=by
      have hu:∀i,downF [a0,a1,a2,a3] ((64*q+r:Nat):Int) i=downU (atW [a0,a1,a2,a3] ((i:Int)+q)) (atW [a0,a1,a2,a3] ((i:Int)+q+1)) r:=fun i=>by unfold downF downU;rw [h1,h2,h4]
      show [downF _ _ 0,downF _ _ 1,downF _ _ 2,downF _ _ 3]=_
      rw [hu,hu,hu,hu,(hat 0 (by decide)).1,(hat 0 (by decide)).2,(hat 1 (by decide)).1,(hat 1 (by decide)).2,(hat 2 (by decide)).1,(hat 2 (by decide)).2,(hat 3 (by decide)).1,(hat 3 (by decide)).2]
      rfl
    rw [hF,down_small hr,hnb,Nat.div_div_eq_div_mul,Nat.pow_add,Nat.pow_mul]
  have hb0:a0.toNat<18446744073709551616:=a0.toNat_lt
  have hb1:a1.toNat<18446744073709551616:=a1.toNat_lt
  have hb2:a2.toNat<18446744073709551616:=a2.toNat_lt
  have hb3:a3.toNat<18446744073709551616:=a3.toNat_lt
  have hq:q=0∨q=1∨q=2∨q=3:=by omega
  rcases hq with rfl|rfl|rfl|rfl
  · refine e [a0,a1,a2,a3] rfl (fun i hi=>?_) (by rw [Nat.pow_zero,Nat.div_one])
    match i,hi with
      | 0,_=>exact ⟨rfl,rfl⟩
      | 1,_=>exact ⟨rfl,rfl⟩
      | 2,_=>exact ⟨rfl,rfl⟩
      | 3,_=>exact ⟨rfl,rfl⟩
  · refine e [a1,a2,a3,0] rfl (fun i hi=>?_) ?_
    · match i,hi with
      | 0,_=>exact ⟨rfl,rfl⟩
      | 1,_=>exact ⟨rfl,rfl⟩
      | 2,_=>exact ⟨rfl,rfl⟩
      | 3,_=>exact ⟨rfl,rfl⟩
    · unfold nW;simp only [List.getD_cons_zero,List.getD_cons_succ];have:(0:UInt64).toNat=0:=rfl;omega
  · refine e [a2,a3,0,0] rfl (fun i hi=>?_) ?_
    · match i,hi with
      | 0,_=>exact ⟨rfl,rfl⟩
      | 1,_=>exact ⟨rfl,rfl⟩
      | 2,_=>exact ⟨rfl,rfl⟩
      | 3,_=>exact ⟨rfl,rfl⟩
    · unfold nW;simp only [List.getD_cons_zero,List.getD_cons_succ];have:(0:UInt64).toNat=0:=rfl;omega
  · refine e [a3,0,0,0] rfl (fun i hi=>?_) ?_
    · match i,hi with
      | 0,_=>exact ⟨rfl,rfl⟩
      | 1,_=>exact ⟨rfl,rfl⟩
      | 2,_=>exact ⟨rfl,rfl⟩
      | 3,_=>exact ⟨rfl,rfl⟩
    · unfold nW;simp only [List.getD_cons_zero,List.getD_cons_succ];have:(0:UInt64).toNat=0:=rfl;omega
theorem cmpW_n {a b:Wide} (ha:a.length=4) (hb:b.length=4):cmpW a b=if nW a<nW b then -1 else if nW b<nW a then 1 else 0:=by
  obtain ⟨a0,a1,a2,a3,rfl⟩:=wide4 ha
  obtain ⟨b0,b1,b2,b3,rfl⟩:=wide4 hb
  have h0:a0.toNat<18446744073709551616:=a0.toNat_lt
  have h1:a1.toNat<18446744073709551616:=a1.toNat_lt
  have h2:a2.toNat<18446744073709551616:=a2.toNat_lt
  have h3:a3.toNat<18446744073709551616:=a3.toNat_lt
  have k0:b0.toNat<18446744073709551616:=b0.toNat_lt
  have k1:b1.toNat<18446744073709551616:=b1.toNat_lt
  have k2:b2.toNat<18446744073709551616:=b2.toNat_lt
  have k3:b3.toNat<18446744073709551616:=b3.toNat_lt
  show orL [cmpU a3 b3,cmpU a2 b2,cmpU a1 b1,cmpU a0 b0]=if a0.toNat+18446744073709551616*a1.toNat+340282366920938463463374607431768211456*a2.toNat+6277101735386680763835789423207666416102355444464034512896*a3.toNat<b0.toNat+18446744073709551616*b1.toNat+340282366920938463463374607431768211456*b2.toNat+6277101735386680763835789423207666416102355444464034512896*b3.toNat then -1 else if b0.toNat+18446744073709551616*b1.toNat+340282366920938463463374607431768211456*b2.toNat+6277101735386680763835789423207666416102355444464034512896*b3.toNat<a0.toNat+18446744073709551616*a1.toNat+340282366920938463463374607431768211456*a2.toNat+6277101735386680763835789423207666416102355444464034512896*a3.toNat then 1 else 0
  have c:∀x y:UInt64,cmpU x y=if x.toNat<y.toNat then -1 else if y.toNat<x.toNat then 1 else 0:=fun x y=>by unfold cmpU;simp only [UInt64.lt_iff_toNat_lt]
  rw [c,c,c,c]
  by_cases d3:a3.toNat=b3.toNat
  · by_cases d2:a2.toNat=b2.toNat
    · by_cases d1:a1.toNat=b1.toNat
      · rw [d3,d2,d1,if_neg (Nat.lt_irrefl _),if_neg (Nat.lt_irrefl _),if_neg (Nat.lt_irrefl _),if_neg (Nat.lt_irrefl _),if_neg (Nat.lt_irrefl _),if_neg (Nat.lt_irrefl _)]
        by_cases l:a0.toNat<b0.toNat
        · rw [if_pos l];show (-1:Int)=_;rw [if_pos (by omega)]
        · rw [if_neg l]
          by_cases l2:b0.toNat<a0.toNat
          · rw [if_pos l2];show (1:Int)=_;rw [if_neg (by omega),if_pos (by omega)]
          · rw [if_neg l2];show (0:Int)=_;rw [if_neg (by omega),if_neg (by omega)]
      · rw [d3,d2,if_neg (Nat.lt_irrefl _),if_neg (Nat.lt_irrefl _),if_neg (Nat.lt_irrefl _),if_neg (Nat.lt_irrefl _)]
        by_cases l:a1.toNat<b1.toNat
        · rw [if_pos l];show (-1:Int)=_;rw [if_pos (by omega)]
        · rw [if_neg l,if_pos (show b1.toNat<a1.toNat by omega)];show (1:Int)=_;rw [if_neg (by omega),if_pos (by omega)]
    · rw [d3,if_neg (Nat.lt_irrefl _),if_neg (Nat.lt_irrefl _)]
      by_cases l:a2.toNat<b2.toNat
      · rw [if_pos l];show (-1:Int)=_;rw [if_pos (by omega)]
      · rw [if_neg l,if_pos (show b2.toNat<a2.toNat by omega)];show (1:Int)=_;rw [if_neg (by omega),if_pos (by omega)]
  · by_cases l:a3.toNat<b3.toNat
    · rw [if_pos l];show (-1:Int)=_;rw [if_pos (by omega)]
    · rw [if_neg l,if_pos (show b3.toNat<a3.toNat by omega)];show (1:Int)=_;rw [if_neg (by omega),if_pos (by omega)]
set_option maxRecDepth 20000
theorem subS_n (a b:UInt64) {c:UInt64} (h:c.toNat≤1):(subS a b c).toNat=(a.toNat+18446744073709551616-b.toNat-c.toNat)%18446744073709551616:=by unfold subS;rw [UInt64.toNat_ofNat']
theorem subC_n (a b c:UInt64):(subC a b c).toNat=if a.toNat<b.toNat+c.toNat then 1 else 0:=by unfold subC;split<;>rfl
theorem carry_sub (a0 a1 a2 a3 b0 b1 b2 b3:UInt64):carryN subS subC [a0,a1,a2,a3] [b0,b1,b2,b3] 4=([subS a0 b0 0,subS a1 b1 (subC a0 b0 0),subS a2 b2 (subC a1 b1 (subC a0 b0 0)),subS a3 b3 (subC a2 b2 (subC a1 b1 (subC a0 b0 0)))],subC a3 b3 (subC a2 b2 (subC a1 b1 (subC a0 b0 0)))):=rfl
theorem subW_len {a b:Wide} (ha:a.length=4) (hb:b.length=4):(subW a b).length=4:=by
  obtain ⟨a0,a1,a2,a3,rfl⟩:=wide4 ha
  obtain ⟨b0,b1,b2,b3,rfl⟩:=wide4 hb
  unfold subW;rw [carry_sub];rfl
theorem nW_sub {a b:Wide} (ha:a.length=4) (hb:b.length=4):nW (subW a b)=(nW a+W256-nW b)%W256∧(subOk a b=true↔nW b≤nW a):=by
  obtain ⟨a0,a1,a2,a3,rfl⟩:=wide4 ha
  obtain ⟨b0,b1,b2,b3,rfl⟩:=wide4 hb
  have h0:a0.toNat<18446744073709551616:=a0.toNat_lt
  have h1:a1.toNat<18446744073709551616:=a1.toNat_lt
  have h2:a2.toNat<18446744073709551616:=a2.toNat_lt
  have h3:a3.toNat<18446744073709551616:=a3.toNat_lt
  have k0:b0.toNat<18446744073709551616:=b0.toNat_lt
  have k1:b1.toNat<18446744073709551616:=b1.toNat_lt
  have k2:b2.toNat<18446744073709551616:=b2.toNat_lt
  have k3:b3.toNat<18446744073709551616:=b3.toNat_lt
  have z0:(0:UInt64).toNat=0:=rfl
  have c1:=subC_n a0 b0 0
  have c2:=subC_n a1 b1 (subC a0 b0 0)
  have c3:=subC_n a2 b2 (subC a1 b1 (subC a0 b0 0))
  have c4:=subC_n a3 b3 (subC a2 b2 (subC a1 b1 (subC a0 b0 0)))
  have s0:=subS_n a0 b0 (show (0:UInt64).toNat≤1 by decide)
  have s1:=subS_n a1 b1 (subC_le a0 b0 0)
  have s2:=subS_n a2 b2 (subC_le a1 b1 (subC a0 b0 0))
  have s3:=subS_n a3 b3 (subC_le a2 b2 (subC a1 b1 (subC a0 b0 0)))
  unfold subW subOk
  rw [carry_sub]
  unfold nW W256
  simp only [List.getD_cons_zero,List.getD_cons_succ,decide_eq_true_eq]
  rw [z0] at c1 s0
  generalize subC a3 b3 (subC a2 b2 (subC a1 b1 (subC a0 b0 0)))=x4 at *
  generalize subS a3 b3 (subC a2 b2 (subC a1 b1 (subC a0 b0 0)))=y3 at *
  generalize subS a2 b2 (subC a1 b1 (subC a0 b0 0))=y2 at *
  generalize subC a2 b2 (subC a1 b1 (subC a0 b0 0))=x3 at *
  generalize subS a1 b1 (subC a0 b0 0)=y1 at *
  generalize subC a1 b1 (subC a0 b0 0)=x2 at *
  generalize subS a0 b0 0=y0 at *
  generalize subC a0 b0 0=x1 at *
  have e0:y0.toNat+b0.toNat=a0.toNat+18446744073709551616*x1.toNat:=by split at c1<;>omega
  have e1:y1.toNat+b1.toNat+x1.toNat=a1.toNat+18446744073709551616*x2.toNat:=by split at c1<;>split at c2<;>omega
  have e2:y2.toNat+b2.toNat+x2.toNat=a2.toNat+18446744073709551616*x3.toNat:=by split at c2<;>split at c3<;>omega
  have e3:y3.toNat+b3.toNat+x3.toNat=a3.toNat+18446744073709551616*x4.toNat:=by split at c3<;>split at c4<;>omega
  have l0:y0.toNat<18446744073709551616:=y0.toNat_lt
  have l1:y1.toNat<18446744073709551616:=y1.toNat_lt
  have l2:y2.toNat<18446744073709551616:=y2.toNat_lt
  have l3:y3.toNat<18446744073709551616:=y3.toNat_lt
  have l4:x4.toNat≤1:=by split at c4<;>omega
  clear c1 c2 c3 c4 s0 s1 s2 s3
  constructor
  · omega
  · constructor<;>intro h<;>omega
theorem limb_n {a:Wide} {q:Nat} (h:a.length=4) (hq:q<4):(a.getD q 0).toNat=nW a/18446744073709551616^q%18446744073709551616:=by
  obtain ⟨a0,a1,a2,a3,rfl⟩:=wide4 h
  have h0:a0.toNat<18446744073709551616:=a0.toNat_lt
  have h1:a1.toNat<18446744073709551616:=a1.toNat_lt
  have h2:a2.toNat<18446744073709551616:=a2.toNat_lt
  have h3:a3.toNat<18446744073709551616:=a3.toNat_lt
  unfold nW
  simp only [List.getD_cons_zero,List.getD_cons_succ]
  match q,hq with
  | 0,_=>simp only [List.getD_cons_zero];omega
  | 1,_=>simp only [List.getD_cons_zero,List.getD_cons_succ];omega
  | 2,_=>simp only [List.getD_cons_zero,List.getD_cons_succ];omega
  | 3,_=>simp only [List.getD_cons_zero,List.getD_cons_succ];omega
theorem set_n {a:Wide} {q:Nat} {v:UInt64} (h:a.length=4) (hq:q<4):nW (a.set q v)+(a.getD q 0).toNat*18446744073709551616^q=nW a+v.toNat*18446744073709551616^q:=by
  obtain ⟨a0,a1,a2,a3,rfl⟩:=wide4 h
  unfold nW
  match q,hq with
  | 0,_=>simp only [List.set_cons_zero,List.getD_cons_zero,List.getD_cons_succ];omega
  | 1,_=>simp only [List.set_cons_zero,List.set_cons_succ,List.getD_cons_zero,List.getD_cons_succ];omega
  | 2,_=>simp only [List.set_cons_zero,List.set_cons_succ,List.getD_cons_zero,List.getD_cons_succ];omega
  | 3,_=>simp only [List.set_cons_zero,List.set_cons_succ,List.getD_cons_zero,List.getD_cons_succ];omega
theorem orBit_n {a:Wide} {n K:Nat} (h:a.length=4) (hn:n<256) (hd:nW a=K*2^(n+1)):nW (orBit a n)=nW a+2^n:=by
  obtain ⟨q,r,rfl,hr⟩:∃q r,n=64*q+r∧r<64:=⟨n/64,n%64,by omega,by omega⟩
  have hq:q<4:=by omega
  have e1:(64*q+r)/64=q:=by omega
  have e2:(64*q+r)%64=r:=by omega
  unfold orBit
  rw [e1,e2]
  have hs:=set_n (v:=a.getD q default|||shl64 1 r) h hq
  have hl:=limb_n h hq
  have ep:2^(64*q+r+1)=18446744073709551616^q*2^(r+1):=by rw [Nat.add_assoc,Nat.pow_add,Nat.pow_mul]
  have epn:2^(64*q+r)=18446744073709551616^q*2^r:=by rw [Nat.pow_add,Nat.pow_mul]
  have hb:0<18446744073709551616^q:=Nat.pow_pos (by decide)
  have hl2:(a.getD q 0).toNat=K%2^(63-r)*2^(r+1):=by
    rw [hl,hd,ep,Nat.mul_left_comm,Nat.mul_div_cancel_left _ hb,←zdZ (r:=r+1) (by omega),show 64-(r+1)=63-r by omega,Nat.mul_comm (2^(r+1)) (2^(63-r)),Nat.mul_mod_mul_right]
  have hv:(a.getD q default|||shl64 1 r).toNat=(a.getD q 0).toNat+2^r:=by
    have h1:(shl64 1 r).toNat=2^r:=by
      rw [shl_n hr]
      show 1*2^r%_=_
      rw [Nat.one_mul,Nat.mod_eq_of_lt]
      exact Nat.pow_lt_pow_right (by decide) hr
    rw [UInt64.toNat_or,h1]
    show (a.getD q 0).toNat|||2^r=_
    rw [hl2,or_sum (Nat.pow_lt_pow_right (by decide) (by omega))]
  rw [hv,Nat.add_mul,Nat.mul_comm (2^r),←epn] at hs
  omega
theorem bitLen_n (n:Nat):n<2^bitLen n∧(0<n→2^(bitLen n-1)≤n):=by
  unfold bitLen
  split
  · rename_i h;subst h;exact ⟨by decide,fun h=>absurd h (by decide)⟩
  · rename_i h
    exact ⟨Nat.lt_log2_self,fun _=>by rw [Nat.add_sub_cancel];exact Nat.log2_self_le h⟩
theorem longW_n {a:Wide} (h:a.length=4):nW a<2^longW a∧(0<nW a→1≤longW a∧2^(longW a-1)≤nW a):=by
  obtain ⟨a0,a1,a2,a3,rfl⟩:=wide4 h
  have h0:a0.toNat<18446744073709551616:=a0.toNat_lt
  have h1:a1.toNat<18446744073709551616:=a1.toNat_lt
  have h2:a2.toNat<18446744073709551616:=a2.toNat_lt
  have h3:a3.toNat<18446744073709551616:=a3.toNat_lt
  have key:∀(x k R:Nat) ,0<x→R<18446744073709551616^k→R+18446744073709551616^k*x<2^(k*64+bitLen x)∧1≤k*64+bitLen x∧2^(k*64+bitLen x-1)≤R+18446744073709551616^k*x:=fun x k R hx hR=>by
    obtain ⟨b1,b2⟩:=bitLen_n x
    have b2:=b2 hx
    have b3:1≤bitLen x:=bitLen_pos hx
    have e:2^(k*64+bitLen x)=18446744073709551616^k*2^bitLen x:=by rw [Nat.mul_comm k 64,Nat.pow_add,Nat.pow_mul]
    have e':2^(k*64+bitLen x-1)=18446744073709551616^k*2^(bitLen x-1):=by rw [Nat.add_sub_assoc b3,Nat.mul_comm k 64,Nat.pow_add,Nat.pow_mul]
    refine ⟨?_,by omega,?_⟩
    · rw [e]
      have:=Nat.mul_le_mul_left (18446744073709551616^k) (show x+1≤2^bitLen x from b1)
      rw [Nat.mul_add,Nat.mul_one] at this;omega
    · rw [e']
      have:=Nat.mul_le_mul_left (18446744073709551616^k) b2
      omega
  unfold longW
  simp only [longN,List.getD_cons_succ,List.getD_cons_zero]
  unfold nW
  simp only [List.getD_cons_succ,List.getD_cons_zero]
  by_cases c3:0<a3.toNat
  · rw [if_pos c3]
    obtain ⟨x,y,z⟩:=key a3.toNat 3 (a0.toNat+18446744073709551616*a1.toNat+340282366920938463463374607431768211456*a2.toNat) c3 (by omega)
    exact ⟨x,fun _=>⟨y,z⟩⟩
  rw [if_neg c3]
  have z3:a3.toNat=0:=by omega
  rw [z3]
  by_cases c2:0<a2.toNat
  · rw [if_pos c2]
    obtain ⟨x,y,z⟩:=key a2.toNat 2 (a0.toNat+18446744073709551616*a1.toNat) c2 (by omega)
    exact ⟨x,fun _=>⟨y,z⟩⟩
  rw [if_neg c2]
  have z2:a2.toNat=0:=by omega
  rw [z2]
  by_cases c1:0<a1.toNat
  · rw [if_pos c1]
    obtain ⟨x,y,z⟩:=key a1.toNat 1 a0.toNat c1 (by omega)
    rw [Nat.pow_one] at x z
    exact ⟨x,fun _=>⟨y,z⟩⟩
  rw [if_neg c1]
  have z1:a1.toNat=0:=by omega
  rw [z1]
  by_cases c0:0<a0.toNat
  · rw [if_pos c0]
    obtain ⟨x,y,z⟩:=key a0.toNat 0 0 c0 (by decide)
    exact ⟨by simpa using x,fun _=>⟨y,by simpa using z⟩⟩
  rw [if_neg c0]
  have z0:a0.toNat=0:=by omega
  rw [z0]
  exact ⟨by decide,fun h=>absurd h (by decide)⟩
theorem divN_n {b : Wide} (hb : b.length = 4) {A : Nat} : ∀ (n : Nat) (x : Wide × Wide), x.1.length = 4 → x.2.length = 4 → nW b * 2 ^ n ≤ 2 * W256 → n ≤ 256 → A = nW x.2 * nW b + nW x.1 → nW x.1 < nW b * 2 ^ n → (∃ K, nW x.2 = K * 2 ^ n) → (∀ k, k < n → nW b * 2 ^ k < W256) →
    (divN b n x).1.length=4∧(divN b n x).2.length=4∧A=nW (divN b n x).2*nW b+nW (divN b n x).1∧nW (divN b n x).1<nW b
  | 0,x,h1,h2,_,_,h3,h4,_,_=>⟨h1,h2,h3,by rw [Nat.pow_zero,Nat.mul_one] at h4;exact h4⟩
  | n+1,x,h1,h2,h5,h6,h3,h4,⟨K,hK⟩,h8=>by
    have hup:=nW_up (a:=b) (n:=n) hb (by omega)
    have hlt:=h8 n (by omega)
    rw [Nat.mod_eq_of_lt hlt] at hup
    have hul:=upW_len (n:=(n:Int)) hb
    obtain ⟨s1,s2⟩:=nW_sub h1 hul
    have hx1:=nW_lt h1
    have ep:2^(n+1)=2*2^n:=by rw [Nat.pow_succ,Nat.mul_comm]
    have eb:nW b*2^(n+1)=2*(nW b*2^n):=by rw [ep,Nat.mul_left_comm]
    rw [divN]
    unfold divStep
    by_cases c:subOk x.1 (upW b n)=true
    · rw [if_pos c]
      have hle:=s2.1 c
      rw [hup] at hle s1
      have e1:nW (subW x.1 (upW b n))=nW x.1-nW b*2^n:=by rw [s1,show nW x.1+W256-nW b*2^n=(nW x.1-nW b*2^n)+W256 by omega,Nat.add_mod_right,Nat.mod_eq_of_lt (by omega)]
      have e2:=orBit_n h2 (show n<256 by omega) hK
      refine divN_n hb n (subW x.1 (upW b n),orBit x.2 n) (show (subW x.1 (upW b n)).length=4 from subW_len h1 hul) (by show (orBit x.2 n).length=4;unfold orBit;rw [List.length_set];exact h2) (by omega) (by omega) ?_ ?_ ⟨2*K+1,?_⟩ (fun k hk=>h8 k (by omega))
      · show A=nW (orBit x.2 n)*nW b+nW (subW x.1 (upW b n))
        rw [e1,e2,Nat.add_mul,Nat.mul_comm (2^n)];omega
      · show nW (subW x.1 (upW b n))<_
        rw [e1];omega
      · show nW (orBit x.2 n)=_
        rw [e2,hK,ep,Nat.add_mul,Nat.one_mul,Nat.mul_comm 2 K,Nat.mul_assoc]
    · rw [if_neg c]
      have hgt:nW x.1<nW b*2^n:=by
        rw [←hup];exact Nat.lt_of_not_le fun hh=>c (s2.2 hh)
      exact divN_n hb n x h1 h2 (by omega) (by omega) h3 hgt ⟨K*2,by rw [hK,ep,Nat.mul_assoc]⟩ (fun k hk=>h8 k (by omega))
theorem nW_zero:nW zWide=0:=rfl
theorem nW_pos {b:Wide} (hb:b.length=4) (h:b≠zWide):0<nW b:=by
  refine Nat.pos_of_ne_zero fun e=>h (nW_inj hb rfl (by rw [e];rfl))
theorem nW_div {a b:Wide} (ha:a.length=4) (hb:b.length=4) (h:b≠zWide):(divW a b).length=4∧(remW a b).length=4∧nW (divW a b)=nW a/nW b∧nW (remW a b)=nW a%nW b:=by
  have hp:=nW_pos hb h
  obtain ⟨la,_⟩:=longW_n ha
  obtain ⟨lb,lb2⟩:=longW_n hb
  obtain ⟨lb3,lb4⟩:=lb2 hp
  have wa:=longW_le a
  have pw:2^256=W256:=by decide
  have hn:longW a+1-longW b≤256:=by omega
  have hover:∀k,k<longW a+1-longW b→nW b*2^k<W256:=fun k hk=>by
    have h1:nW b*2^k<2^longW b*2^k:=Nat.mul_lt_mul_of_pos_right lb (Nat.two_pow_pos k)
    rw [←Nat.pow_add] at h1
    have h2:2^(longW b+k)≤2^256:=Nat.pow_le_pow_right (by decide) (by omega)
    rw [pw] at h2;omega
  have hstart:nW a<nW b*2^(longW a+1-longW b):=by
    have h1:2^(longW b-1)*2^(longW a+1-longW b)≤nW b*2^(longW a+1-longW b):=Nat.mul_le_mul_right _ lb4
    rw [←Nat.pow_add] at h1
    have h2:2^longW a≤2^(longW b-1+(longW a+1-longW b)):=Nat.pow_le_pow_right (by decide) (by omega)
    omega
  obtain ⟨N,hN⟩:∃N,N=longW a+1-longW b:=⟨_,rfl⟩
  unfold divW remW divP
  rw [if_neg h]
  rw [←hN] at hn hover hstart ⊢
  show (divN b N (a,zWide)).2.length=4∧(divN b N (a,zWide)).1.length=4∧nW (divN b N (a,zWide)).2=_∧nW (divN b N (a,zWide)).1=_
  have hbound:nW b*2^N≤2*W256:=by
    cases N with
    | zero=>rw [Nat.pow_zero,Nat.mul_one];have:=nW_lt hb;omega
    | succ n=>have:=hover n (by omega);rw [Nat.pow_succ,←Nat.mul_assoc];omega
  obtain ⟨g1,g2,g3,g4⟩:=divN_n hb (A:=nW a) N (a,zWide) ha rfl hbound hn (by show nW a=nW zWide*nW b+nW a;rw [nW_zero,Nat.zero_mul,Nat.zero_add]) hstart ⟨0,by rw [Nat.zero_mul];rfl⟩ hover
  refine ⟨g2,g1,?_,?_⟩
  · conv=>rhs;rw [g3]
    rw [Nat.add_comm,Nat.add_mul_div_right _ _ hp,Nat.div_eq_of_lt g4,Nat.zero_add]
  · conv=>rhs;rw [g3]
    rw [Nat.add_comm,Nat.add_mul_mod_self_right,Nat.mod_eq_of_lt g4]
end Go.Proofs.YtjldddonpfopaaaGreat
