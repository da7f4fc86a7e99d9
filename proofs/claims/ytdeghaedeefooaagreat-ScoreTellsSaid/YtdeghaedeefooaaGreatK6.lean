/- Parts of the proof: the layer that reads Go values as data, and what the functions of the program tell. -/
import Derived.Test.YtdeghaedeefooaaGreatK5
set_option linter.unusedVariables false
set_option linter.unusedSimpArgs false
set_option maxRecDepth 20000
namespace Go.Proofs.YtdeghaedeefooaaGreat
open Go.Ab Go.RowKit
theorem rmleaf_ok (id:Ab.Id) (w:Wide):Tells P 144 [.val idT id,.val wideT w] (.val totalT (leafT id w)):=by
 refine zc Tryz.func144 rfl rfl rfl (fun ext w hext=>?_)
 refine CQR ?_;refine zj rfl rfl rfl rfl rfl ?_;refine zj rfl rfl rfl rfl rfl ?_;refine zf zcu rfl rfl rfl rfl ?_;refine CNQR ?_;refine A0 (oLs rfl rfl rfl zx) ?_;refine A0 (oLs rfl rfl rfl zk) ?_
 refine A0 (zab rfl zcu bd_112 (.cons zcG zb3 zx rfl (.cons zcF zb2 zk rfl (.cons zbW zbw ty_3 rfl .nil))) rfl) ?_;refine za rfl rfl rfl rfl rfl (Lens.self _) zas rfl ?_;refine CN ?_
 exact zt rfl rfl rfl rfl zas (rfl)
theorem rtotalText_ok (t:Total) (hh:t.h.length=32):Tells P 190 [.val totalT t] (.fresh 5 u8T (totalText t)):=by
 refine zc Tryz.func190 rfl rfl rfl (fun ext w hext=>?_)
 refine CQR ?_;refine zj rfl rfl rfl rfl rfl ?_;refine A0 aL ?_;refine CNQR ?_;refine A0 (oFp zcF) ?_;refine A0 (oLb zb2 zk) ?_;refine A0 (oCl (rbytesW_ok _) rfl fn_129 ⟨(ze rfl),trivial⟩) ?_
 refine zf zbJ rfl rfl rfl rfl ?_;refine za rfl rfl rfl rfl rfl (Lens.self _) zx rfl ?_;refine CNQ ?_;refine zbF (d:=1) rfl rfl (Lens.self _) ?_;refine zbF (d:=3) rfl rfl (Lens.self _) ?_
 have hbl:=zcW t.w
 have hn:=zT (u64OfI (IntL.toI i64T t.n)) 4
 refine CR ?_;refine A0 (oFr zcG zb3) ?_;refine A0 (zaB rfl rfl zbI rfl rfl) ?_;refine zex rfl rfl rfl rfl rfl rfl zN (by simp [hh,hbl,hn]) ?_;refine A0 aO ?_;refine CNQR ?_;refine A0 mO ?_
 refine A0 (zaB rfl rfl zbI rfl rfl) ?_;refine zu rfl rfl rfl rfl rfl rfl rfl zN (by simp [hh,hbl,hn]) ?_;refine A0 aO ?_;refine CNQR ?_;refine A0 mO ?_;refine A0 (oFr zbW zbw) ?_
 refine A0 (zg rfl rfl ty_3) ?_;refine A0 (zcx rfl (ui_50) (us_3) rfl) ?_;refine A0 (oCl (zw (rbin_ok _ 4 (by decide))) rfl fn_130 ⟨(ze rfl),(ze rfl),trivial⟩) ?_
 refine zu rfl rfl rfl rfl rfl rfl rfl zN (by simp [hh,hbl,hn]) ?_;refine A0 aO ?_;refine CN ?_
 exact zb rfl rfl (zi rfl rfl (by unfold totalText;simp))
theorem rjoin_ok (a b:Total):Tells P 143 [.val totalT a,.val totalT b] (.val totalT (joinT a b)):=by
 refine zc Tryz.func143 rfl rfl rfl (fun ext w hext=>?_)
 refine zh (d:=0) rfl fact_total (fun ha=>?_)
 refine zh (d:=1) rfl fact_total (fun hb=>?_)
 refine CQR ?_;refine zj rfl rfl rfl rfl rfl ?_;refine zj rfl rfl rfl rfl rfl ?_;refine zf zcu rfl rfl rfl rfl ?_;refine CNQR ?_;refine A0 (oFp zcF) ?_;refine A0 (oLb zb2 zk) ?_;refine A0 (oFp zcF) ?_
 refine A0 (oLb zb2 zk) ?_;refine A0 (oCl (zcq _ _) rfl fn_185 ⟨(ze rfl),(ze rfl),trivial⟩) ?_;refine A0 mX ?_;refine A0 (by first|exact z6 rfl rfl|exact zY rfl rfl) ?_
 refine A0 (by first|exact z8 rfl rfl|exact z7 rfl rfl) ?_;refine zf zan rfl rfl rfl rfl ?_;refine za rfl rfl rfl rfl rfl (Lens.self _) zk rfl ?_;refine A0 aV ?_;refine CNQ ?_
 refine zB [some 1,some 1,some 1,some 1,some 1,some 1,some 1,some 1,some 1,some 1,some 1,some 1,some 1,some 1,none] mixed (by decide +kernel) ?_
 refine X0 (g_lend (T:=sl u8T) (S:=bsl u8T) (zr (T:=u8T) (xs:=[_]) rfl zaA zN ⟨rfl,rfl,trivial⟩ rfl rfl)) ?_;refine X0 (oLs rfl rfl rfl zas) ?_
 refine X0 (g_lend (T:=sl u8T) (S:=bsl u8T) (zcb (zw (rtotalText_ok a ha.1)) rfl fn_190 ⟨(ze rfl),trivial⟩ rfl)) ?_;refine X0 (oLs rfl rfl rfl zas) ?_
 refine X0 (g_lend (T:=sl u8T) (S:=bsl u8T) (zcb (zw (rtotalText_ok b hb.1)) rfl fn_190 ⟨(ze rfl),trivial⟩ rfl)) ?_
 refine X0 (zr (T:=(bsl u8T)) (xs:=[_,_,_]) rfl zdF zdk ⟨rfl,rfl,rfl,rfl,rfl,rfl,trivial⟩ rfl rfl) ?_
 refine X0 (oCl (rof_ok [[3],totalText a,totalText b] (by simp [zdo ha.1,zdo hb.1])) rfl fn_81 ⟨(ze rfl),trivial⟩) ?_;refine X0 (oLs rfl rfl rfl zk) ?_;refine X0 (oFp zbW) ?_
 refine X0 (oLb zbw ty_3) ?_;refine X0 (oFp zbW) ?_;refine X0 (oLb zbw ty_3) ?_;refine X0 zs ?_
 refine X0 (zab rfl zcu bd_112 (.cons zcG zb3 zx rfl (.cons zcF zb2 zk rfl (.cons zbW zbw ty_3 rfl .nil))) rfl) ?_
 refine XK.e (x:=.idk) (fun fr' hfr kk H=>by exact za rfl rfl rfl ((hfr 4 (by decide +kernel)).trans rfl) rfl (Lens.self _) zas ((hfr 28 (by decide +kernel)).trans rfl) (zG H)) ?_;refine XK.nil' ?_
 exact zt rfl rfl rfl rfl zas (by unfold joinT;simp)
theorem rallNil_ok:Tells P 142 [.val (bsl totalT) []] (.val totalT (mmrRoot [])):=by
 refine zc Tryz.func142 rfl rfl rfl (fun ext w hext=>?_)
 refine zh (d:=0) rfl zn (fun hsl0=>?_)
 refine CQR ?_;refine zf zcu rfl rfl rfl rfl ?_;refine CNQQR ?_;refine A0 mV ?_;refine A0 (zA rfl rfl zd5) ?_;refine A0 zbb ?_;refine CN ?_;refine Ct ?_;refine CQR ?_
 refine A0 (zr (T:=u8T) (xs:=[_]) rfl zaA zN ⟨rfl,rfl,trivial⟩ rfl rfl) ?_;refine A0 (oCl (rsumB_ok [4] (by decide)) rfl fn_131 ⟨(ze rfl),trivial⟩) ?_
 refine A0 (zab rfl zcu bd_112 (.cons zcG zb3 zx rfl .nil) rfl) ?_;refine za rfl rfl rfl rfl rfl (Lens.self _) zas rfl ?_;refine CN ?_
 exact zt rfl rfl rfl rfl zas (mmrRoot_nil.symm)
theorem rmmrRoot_ok (p:List Total) (hp:p.length≤1000000):Tells P 86 [.val (bsl totalT) p] (.val totalT (mmrRoot p)):=by
 refine zc Tryz.func86 rfl rfl rfl (fun ext w hext=>?_)
 refine zh (d:=0) rfl zn (fun hsl0=>?_)
 refine CQR ?_;refine zf zcu rfl rfl rfl rfl ?_;refine CNQQR ?_;refine A0 mV ?_;refine A0 (zA rfl rfl zd5) ?_;refine A0 zbb ?_;refine CN ?_
 refine Cf (p:=p.length=0) (fun ht7=>?_) (fun ht7=>?_)
 ·
  obtain rfl:p=[]:=List.length_eq_zero_iff.1 ht7
  refine CQR ?_;refine A0 (oCl (rallNil_ok) rfl fn_142 ⟨(by first|exact zI rfl|exact zW rfl|exact zQ rfl rfl|exact zU rfl|exact zJ rfl|exact zak rfl rfl|exact zV rfl),trivial⟩) ?_
  refine za rfl rfl rfl rfl rfl (Lens.self _) zas rfl ?_;refine CN ?_
  exact zt rfl rfl rfl rfl zas (rfl)
 ·
  obtain ⟨n,hn⟩:∃n,p.length=n+1:=⟨p.length-1,by omega⟩
  obtain ⟨x0,hx0⟩:∃x,p[n]?=some x:=⟨_,List.getElem?_eq_getElem (by omega)⟩
  have hroot:=mmrRoot_eq hn hx0
  refine CSQR ?_;refine A0 mV ?_;refine A0 mV ?_;refine A0 (zA rfl rfl zd5) ?_;refine A0 zap ?_;refine A0 (zD (i:=n) rfl rfl rfl (by omega) zdp (by assumption)) ?_;refine A0 (zg rfl rfl zas) ?_
  refine zf zcu rfl rfl rfl rfl ?_;refine za rfl rfl rfl rfl rfl (Lens.self _) zas rfl ?_;refine CNQQR ?_;refine A0 mV ?_;refine A0 (zA rfl rfl zd5) ?_;refine A0 zap ?_;refine A0 aV ?_;refine CNB ?_
  refine zl (d:=4) (y:=(n:Int)-1) rfl (by rw [hn];simp;omega) ?_
  refine Lp (ι:=Nat×Total) 2 (fun (i:Nat×Total)=>match i with|(k,y)=>((((Fr.none).set 0 (.val (bsl totalT) p)).set 2 (.ptr 0 0)).set 3 (.ptr 1 0)).set 4 (.val i64T ((k:Int)-1))) (fun (i:Nat×Total)=>match i with|(k,y)=>((Hp.none).set 0 (.box 112 totalT zTotal)).set 1 (.box 112 totalT y)) (fun (i:Nat×Total)=>match i with|(k,y)=>k≤n∧mmrRoot p=rootFrom (p.take k).reverse y) (fun (i:Nat×Total)=>match i with|(k,y)=>k) ((n,x0)) (⟨Nat.le_refl _,hroot⟩) ?_
  intro ⟨k,y⟩ hinv
  dsimp only at hinv
  refine CQQR ?_;refine A0 mV ?_;refine A0 zbf ?_;refine CN ?_
  refine Cf (p:=0<k) (fun ht19=>?_) (fun ht19=>?_)
  ·
   obtain ⟨x,hx⟩:∃x,p[k-1]?=some x:=⟨_,List.getElem?_eq_getElem (by omega)⟩
   refine CS ?_;refine CQ ?_;refine CB ?_;refine zB [some 1,some 1,some 1,some 1,some 1,some 1,none] mixed (by decide +kernel) ?_;refine X0 mV ?_;refine X0 mV ?_
   refine X0 (zD (i:=k-1) rfl rfl rfl (by omega) zdp (by assumption)) ?_;refine X0 (zg rfl rfl zas) ?_;refine X0 (oLs rfl rfl rfl zas) ?_
   refine X0 (oCl (rjoin_ok _ _) rfl fn_143 ⟨(by first|exact zI rfl|exact zW rfl|exact zQ rfl rfl|exact zU rfl|exact zJ rfl|exact zak rfl rfl|exact zV rfl),(ze rfl),trivial⟩) ?_
   refine XK.e (x:=.idk) (fun fr' hfr kk H=>by exact za rfl rfl rfl ((hfr 3 (by decide +kernel)).trans rfl) rfl (Lens.self _) zas ((hfr 27 (by decide +kernel)).trans rfl) (zG H)) ?_;refine XK.nil' ?_;refine CI ?_
   refine CR ?_;refine A0 mV ?_;refine A0 zap ?_;refine A0 aV ?_;refine CN ?_;refine zl (d:=4) (y:=((k-1:Nat):Int)-1) rfl (by omega) ?_
   exact Nx ((k-1,joinT x y)) (⟨by omega,by rw [hinv.2,show k=k-1+1 by omega,rootFrom_step hx];rfl⟩) (by show k-1<k;omega)
  ·
   obtain rfl:k=0:=(by omega)
   refine CE ?_;refine CQR ?_;refine A0 (oLs rfl rfl rfl zas) ?_;refine za rfl rfl rfl rfl rfl (Lens.self _) zas rfl ?_;refine CN ?_
   exact zt rfl rfl rfl rfl zas (by rw [hinv.2];rfl)
end Go.Proofs.YtdeghaedeefooaaGreat
set_option maxRecDepth 20000
namespace Go.Proofs.YtdeghaedeefooaaGreat
open Go.Ab Go.RowKit
theorem rmmrAppend_ok (p:List Total) (leaf:Total) (hp:p.length≤1000000):Tells P 87 [.val (bsl totalT) p,.val totalT leaf] (.val (sl totalT) (mmrAppend p leaf)):=by
 refine zc Tryz.func87 rfl rfl rfl (fun ext w hext=>?_)
 refine zh (d:=0) rfl zn (fun hsl0=>?_)
 refine CQR ?_;refine zj rfl rfl rfl rfl rfl ?_;refine A0 aL ?_;refine CNQR ?_;refine A0 mV ?_;refine zex rfl rfl rfl rfl rfl rfl zd1 (by first|omega|(simp;omega)) ?_;refine A0 aO ?_;refine CNQR ?_;refine A0 mO ?_
 refine A0 (oLs rfl rfl rfl zas) ?_;refine A0 (zr (T:=totalT) (xs:=[_]) rfl zdp zd1 ⟨rfl,rfl,trivial⟩ rfl rfl) ?_;refine zu rfl rfl rfl rfl rfl rfl rfl zd1 (by first|omega|(simp;omega)) ?_;refine A0 aO ?_
 refine CNQ ?_;refine CB ?_;refine aw_pub (d:=5) rfl rfl ?_;refine zl (d:=5) (y:=p.reverse.reverse++[leaf]) rfl (by simp) ?_
 refine Lp (ι:=List Total×Total) 1 (fun (i:List Total×Total)=>match i with|(r,x)=>((Fr.none).set 3 (.ptr 0 0)).set 5 (.val (sl totalT) (r.reverse++[x]))) (fun (i:List Total×Total)=>match i with|(r,x)=>(Hp.none).set 0 (.box 112 totalT leaf)) (fun (i:List Total×Total)=>match i with|(r,x)=>r.length≤1000000∧pushR r x=pushR p.reverse leaf) (fun (i:List Total×Total)=>match i with|(r,x)=>r.length) ((p.reverse,leaf)) (⟨by simp;omega,rfl⟩) ?_
 intro ⟨r,x⟩ hinv
 dsimp only at hinv
 have hlen:(r.reverse++[x]).length=r.length+1:=by simp
 refine CQ ?_;refine CQ ?_;refine CD mixed ?_;refine G0 mV ?_;refine G0 (zA rfl rfl zd5) ?_;refine G0 zbf ?_;refine G0 mV ?_
 refine zag (d:=17) (p:=¬r=[]) rfl (by rw [decide_eq_decide];show (2:Int)≤(((r.reverse++[x]).length:Nat):Int)↔_;rw [←List.length_eq_zero_iff];omega) (fun g17=>?_) (fun g17=>?_)
 ·
  obtain ⟨y,s,hr⟩:∃y s,r=y::s:=by cases r with|nil=>exact absurd rfl g17|cons y s=>exact ⟨y,s,rfl⟩
  have hrl:r.length=s.length+1:=by rw [hr];rfl
  have hx1:(r.reverse++[x])[s.length]?=some y:=by rw [hr];simp
  have hx2:(r.reverse++[x])[s.length+1]?=some x:=by rw [List.getElem?_append_right (by simp [hrl])];simp [hrl]
  refine G1 mV ?_;refine G1 mV ?_;refine G1 (zA rfl rfl zd5) ?_;refine G1 zap ?_;refine G1 (zD (i:=s.length+1) rfl rfl rfl (by omega) zdp (by assumption)) ?_;refine G1 (oFr zbW zbw) ?_
  refine G1 (zg rfl rfl ty_3) ?_;refine G1 mV ?_;refine G1 mV ?_;refine G1 (zA rfl rfl zd5) ?_;refine G1 zap ?_;refine G1 (zD (i:=s.length) rfl rfl rfl (by omega) zdp (by assumption)) ?_
  refine G1 (oFr zbW zbw) ?_;refine G1 (zg rfl rfl ty_3) ?_;refine G1 zbb ?_;refine G0 oK ?_;refine GK.nil ?_
  refine zo (p:=x.n=y.n) rfl (by simp [IntL.toI]) (fun ht33=>?_) (fun ht33=>?_)
  ·
   refine CS ?_;refine CB ?_;refine CQR ?_;refine A0 mV ?_;refine A0 (zA rfl rfl zd5) ?_;refine A0 aV ?_;refine CNQ ?_
   refine zB [some 1000001,some 1000001,some 1000001,some 1000001,some 1000001,some 1000001,some 1000001,some 1000001,some 1000001,some 1000001,some 1000001,none,none] mixed (by decide +kernel) ?_
   refine XK.ga (fun _=>g_mv (.inl rfl) rfl) rfl rfl rfl ?_;refine XK.ga (fun _=>g_mv (.inl rfl) rfl) rfl rfl rfl ?_
   refine XK.ga (fun _=>by first|exact g_sub rfl rfl rfl (zaa (by first|omega|(simp;omega)))|exact g_sub rfl rfl rfl rfl) rfl rfl rfl ?_
   refine XK.ga (fun _=>zD (i:=s.length) rfl rfl rfl (by omega) zdp (by assumption)) rfl rfl rfl ?_;refine XK.ga (fun _=>zg rfl rfl zas) rfl rfl rfl ?_;refine XK.ga (fun _=>g_mv (.inl rfl) rfl) rfl rfl rfl ?_
   refine XK.ga (fun _=>g_mv (.inl rfl) rfl) rfl rfl rfl ?_;refine XK.ga (fun _=>by first|exact g_sub rfl rfl rfl (zaa (by first|omega|(simp;omega)))|exact g_sub rfl rfl rfl rfl) rfl rfl rfl ?_
   refine XK.ga (fun _=>zD (i:=s.length+1) rfl rfl rfl (by omega) zdp (by assumption)) rfl rfl rfl ?_;refine XK.ga (fun _=>zg rfl rfl zas) rfl rfl rfl ?_
   refine XK.ga (fun _=>zcb (rjoin_ok y x) rfl fn_143 ⟨(by first|exact zI rfl|exact zW rfl|exact zQ rfl rfl|exact zU rfl|exact zJ rfl|exact zak rfl rfl|exact zV rfl),(by first|exact zI rfl|exact zW rfl|exact zQ rfl rfl|exact zU rfl|exact zJ rfl|exact zak rfl rfl|exact zV rfl),trivial⟩ rfl) rfl rfl rfl ?_
   refine XK.e (fun fr' hfr kk H=>by exact zf zcu rfl rfl rfl rfl (zG H)) ?_
   refine XK.e (x:=.idk) (fun fr' hfr kk H=>by exact za rfl rfl rfl ((hfr 7 (by decide +kernel)).trans rfl) rfl (Lens.self _) zas ((hfr 46 (by decide +kernel)).trans rfl) (zG H)) ?_;refine XK.nil' ?_
   refine zB [some 1,some 1,some 1,some 1,none,some 2,some 2,none,some 1] mixed (by decide +kernel) ?_;refine X0 mV ?_;refine X0 mV ?_;refine X0 zap ?_
   refine X0 (by first|exact zd7 rfl rfl rfl (by first|rfl|omega) zdp|exact g_sl_h rfl rfl rfl zdp (by first|assumption|omega|(simp;omega))) ?_
   refine XK.e (fun fr' hfr kk H=>by exact zex rfl rfl rfl rfl rfl ((hfr 50 (by decide +kernel)).trans rfl) zd1 (by first|omega|(simp;omega)) (zG H)) ?_
   refine XK.gb (t:=7) rfl rfl (fun _ he=>zp rfl rfl he (Lens.self _) zas) rfl ⟨hpB rfl rfl,hpB rfl rfl,trivial⟩ rfl rfl rfl ?_
   refine XK.g2 (zr (T:=totalT) (xs:=[_]) rfl zdp zd1 ⟨rfl,rfl,trivial⟩ rfl rfl) (zr (T:=totalT) (xs:=[_]) rfl zdp zd1 ⟨rfl,rfl,trivial⟩ rfl rfl) rfl rfl rfl ?_
   refine XK.e (fun fr' hfr kk H=>by exact zu rfl rfl rfl rfl ((hfr 51 (by decide +kernel)).trans rfl) rfl ((hfr 53 (by decide +kernel)).trans rfl) zd1 (by first|omega|(simp;omega)) (zG H)) ?_;refine X0 aO ?_
   refine XK.nil' ?_;refine CI ?_;refine aw_pub (d:=5) rfl rfl ?_;refine zl (d:=5) (y:=s.reverse++[joinT y x]) rfl (by simp [hr,List.take_append]<;>exact List.take_of_length_le (by simp)) ?_
   exact Nx ((s,joinT y x)) (⟨by omega,by rw [←hinv.2,hr,pushR,if_pos ht33.symm]⟩) (by show s.length<r.length;omega)
  ·
   refine CE ?_;refine CQR ?_;refine A0 mV ?_;refine A0 aV ?_;refine CN ?_
   exact zb rfl rfl (zd rfl (by unfold mmrAppend;rw [←hinv.2,hr,pushR,if_neg (fun h=>ht33 h.symm)];simp))
 ·
  refine G2 ?_;refine G2 ?_;refine G2 ?_;refine G2 ?_;refine G2 ?_;refine G2 ?_;refine G2 ?_;refine G2 ?_;refine G2 ?_;refine G2 ?_;refine G2 ?_;refine G2 ?_;refine G2 ?_;refine G2 ?_;refine G2 ?_;refine G0 oK ?_
  refine GK.nil ?_;refine Cg ?_;refine CE ?_;refine CQR ?_;refine A0 mV ?_;refine A0 aV ?_;refine CN ?_
  exact zb rfl rfl (zd rfl (by unfold mmrAppend;rw [←hinv.2,Classical.not_not.1 g17];rfl))
end Go.Proofs.YtdeghaedeefooaaGreat
set_option maxRecDepth 20000
namespace Go.Proofs.YtdeghaedeefooaaGreat
open Go.Ab Go.RowKit
theorem rsubW_ok (a b:Wide):Tells P 256 [.val wideT a,.val wideT b] (.tup2 (.val wideT (subW a b)) (.val boolT (subOk a b))):=by
 refine zc Tryz.func256 rfl rfl rfl (fun ext w hext=>?_)
 refine zh (d:=0) rfl zaC (fun ha=>?_)
 refine zh (d:=1) rfl zaC (fun hb=>?_)
 refine CQR ?_;refine zj rfl rfl rfl rfl rfl ?_;refine zj rfl rfl rfl rfl rfl ?_;refine zf zan rfl rfl rfl rfl ?_;refine A0 aV ?_;refine CNQR ?_;refine zf zan rfl rfl rfl rfl ?_;refine CNQQR ?_;refine A0 aV ?_
 refine CNB ?_
 refine Lp (ι:=Nat) 4 (fun (k:Nat)=>(((((Fr.none).set 2 (.ptr 0 0)).set 3 (.ptr 1 0)).set 4 (.ptr 2 0)).set 6 (.ptr 3 0)).set 7 (.val i64T (k:Int))) (fun (k:Nat)=>((((Hp.none).set 0 (.box 52 wideT a)).set 1 (.box 52 wideT b)).set 2 (.box 52 wideT zWide)).set 3 (.box 52 wideT (setN (compF b) zWide k))) (fun (k:Nat)=>k≤4) (fun (k:Nat)=>4-k) (0) (Nat.zero_le _) ?_
 intro k hinv
 refine CQQR ?_;refine A0 mV ?_;refine A0 zC ?_;refine CN ?_
 refine Cf (p:=k<4) (fun ht13=>?_) (fun ht13=>?_)
 ·
  refine CS ?_;refine CQ ?_;refine CB ?_;refine CR ?_;refine A0 mV ?_;refine A0 mV ?_;refine A0 (zq (i:=k) rfl rfl rfl (by first|omega|rfl) zal (by omega)) ?_
  refine A0 (zp rfl rfl rfl (Lens.elem (i:=k) (by omega) u64T) zaE) ?_;refine A0 (g_sub64 rfl rfl rfl) ?_;refine A0 (zq (i:=k) rfl rfl rfl (by first|omega|rfl) zal (by omega)) ?_
  refine za rfl rfl rfl rfl rfl (Lens.elem (i:=k) (by omega) u64T) zaE rfl ?_;refine CNIR ?_;refine A0 mV ?_;refine A0 zs ?_;refine A0 aV ?_;refine CN ?_
  refine zz (n:=3) (y:=setN (compF b) zWide (k+1)) rfl (by rw [←zdH];unfold compF maxU;rfl) ?_
  exact Nx (k+1) (by omega) (by omega)
 ·
  obtain rfl:k=4:=(by omega)
  obtain ⟨c,hc⟩:∃c,c=compW b:=⟨_,rfl⟩
  obtain ⟨o,ho⟩:∃o,o=ofW (UInt64.ofNat (Int.toNat 1)):=⟨_,rfl⟩
  have hof:=rofW_ok (UInt64.ofNat (Int.toNat 1))
  rw [←ho] at hof
  obtain ⟨x1,hx1⟩:∃x,x=addW a c:=⟨_,rfl⟩
  have h1:=zcq a c
  rw [←hx1] at h1
  obtain ⟨x2,hx2⟩:∃x,x=addW x1 o:=⟨_,rfl⟩
  have h2:=zcq x1 o
  rw [←hx2] at h2
  refine CE ?_;refine CQ ?_;refine zz (n:=3) (y:=c) rfl ((setN_all rfl).trans hc.symm) ?_;refine CR ?_;refine A0 (oLs rfl rfl rfl zk) ?_;refine A0 (oLs rfl rfl rfl zk) ?_
  refine A0 (oCl (h1) rfl fn_185 ⟨(ze rfl),(ze rfl),trivial⟩) ?_;refine A0 mX ?_;refine A0 (by first|exact z6 rfl rfl|exact zY rfl rfl) ?_;refine A0 (by first|exact z8 rfl rfl|exact z7 rfl rfl) ?_
  refine zf zan rfl rfl rfl rfl ?_;refine za rfl rfl rfl rfl rfl (Lens.self _) zk rfl ?_;refine A0 aV ?_;refine CNQ ?_
  refine zB [some 1000001,some 1000001,some 1000001,some 1000001,some 1000001,some 1000001,none,none,some 1] mixed (by decide +kernel) ?_
  refine XK.gf (t:=8) rfl rfl (fun _ he=>zp rfl rfl he (Lens.self _) zk) ⟨hpB rfl rfl,trivial⟩ rfl rfl rfl ?_;refine XK.ga (fun _=>zcb (hof) rfl fn_138 ⟨(ze rfl),trivial⟩ rfl) rfl rfl rfl ?_
  refine XK.ga (fun _=>zcb (h2) rfl fn_185 ⟨(ze rfl),(ze rfl),trivial⟩ rfl) rfl rfl rfl ?_
  refine XK.ga (fun _=>by first|exact g_mv (.inl rfl) rfl|exact g_mp (.inl rfl) rfl|exact g_mo (.inl rfl) rfl|exact g_ml (.inl rfl) rfl|exact g_mc (.inl rfl) rfl|exact g_mr (.inl rfl) rfl|exact g_mf1 (.inl rfl) rfl|exact g_mf2 (.inl rfl) rfl|exact g_mw (.inl rfl) rfl|exact g_me (.inl rfl) rfl|exact g_ms (.inl rfl) rfl|exact zet (.inl rfl) rfl|exact zes (.inl rfl) rfl|exact g_mi (.inl rfl) rfl) rfl rfl rfl ?_
  refine XK.ga (fun _=>by first|exact z6 rfl rfl|exact zY rfl rfl) rfl rfl rfl ?_;refine XK.ga (fun _=>by first|exact z8 rfl rfl|exact z7 rfl rfl) rfl rfl rfl ?_
  refine XK.e (fun fr' hfr kk H=>by exact zf zan rfl rfl rfl rfl (zG H)) ?_
  refine XK.e (x:=.idk) (fun fr' hfr kk H=>by exact za rfl rfl rfl ((hfr 10 (by decide +kernel)).trans rfl) rfl (Lens.self _) zk ((hfr 32 (by decide +kernel)).trans rfl) (zG H)) ?_;refine X0 aV ?_
  refine XK.nilp ⟨⟨hpB rfl rfl,hpB rfl rfl,trivial⟩,trivial⟩ ?_;refine CQ ?_;refine zB [some 1,some 1,some 1,some 1,some 1000001,none,some 1] mixed (by decide +kernel) ?_;refine X0 (oLs rfl rfl rfl zk) ?_
  refine X0 (oLs rfl rfl rfl zk) ?_;refine X0 (oLs rfl rfl rfl zk) ?_;refine X0 (oCl (rcmpW_ok _ _) rfl fn_146 ⟨(ze rfl),(ze rfl),trivial⟩) ?_;refine XK.ga (fun _=>g_geq rfl rfl rfl rfl) rfl rfl rfl ?_
  refine XK.e (x:=.idk) (fun fr' hfr kk H=>by exact za rfl rfl rfl ((hfr 4 (by decide +kernel)).trans rfl) rfl (Lens.self _) zk ((hfr 34 (by decide +kernel)).trans rfl) (zG H)) ?_;refine X0 aV ?_;refine XK.nil' ?_
  exact zH rfl rfl (zE rfl rfl zk (by rw [hx2,hx1,hc,ho];exact rsub_eq ha hb)) (zah (zd rfl (by rw [←rsub_ok ha hb,decide_eq_decide];rfl)))
end Go.Proofs.YtdeghaedeefooaaGreat
set_option maxRecDepth 20000
namespace Go.Proofs.YtdeghaedeefooaaGreat
open Go.Ab Go.RowKit
theorem tgtE_quo (bits:UInt32):IntL.toI u32T (bits/16777216)=tgtE bits:=by
  show (((bits/16777216).toNat:Nat):Int)=(((shr32 bits 24).toNat:Nat):Int)
  have hx:bits.toNat<4294967296:=bits.toNat_lt
  unfold shr32
  rw [UInt32.toNat_div,UInt32.toNat_ofNat_of_lt' (by show _<4294967296;have:=Nat.div_le_self bits.toNat (2^min 24 32);omega)]
  rfl
theorem tgtM_rem (bits:UInt32):u64OfI (IntL.toI u32T (bits%16777216))=tgtM bits:=by
  unfold tgtM
  congr 2
  apply UInt32.toNat_inj.1
  rw [UInt32.toNat_mod,UInt32.toNat_and]
  show bits.toNat%16777216=bits.toNat&&&(2^24-1)
  rw [Nat.and_two_pow_sub_one_eq_mod]
theorem rtarget_ok (bits:UInt32):Tells P 83 [.val u32T bits] (.tup2 (.val wideT (tgtW bits)) (.val boolT (tgtOk bits))):=by
 have he0:0≤tgtE bits:=Int.natCast_nonneg _
 have heL:tgtE bits<4294967296:=by have:(shr32 bits 24).toNat<4294967296:=(shr32 bits 24).toNat_lt;show ((shr32 bits 24).toNat:Int)<4294967296;omega
 refine zc Tryz.func83 rfl rfl rfl (fun ext w hext=>?_)
 refine CQR ?_;refine zf zan rfl rfl rfl rfl ?_;refine A0 aV ?_;refine CNQR ?_;refine A0 mV ?_;refine A0 (g_quo32 rfl rfl rfl (by decide)) ?_
 refine A0 (g_cvi rfl (ui_3) (us_53) rfl (zaa (by have e:IntL.toI u32T (bits/UInt32.ofNat (Int.toNat 16777216))=tgtE bits:=tgtE_quo bits;rw [e];omega))) ?_;refine zl (d:=8) (y:=tgtE bits) rfl (tgtE_quo bits) ?_
 refine A0 aV ?_;refine CNQR ?_;refine A0 mV ?_;refine A0 (g_rem32 rfl rfl rfl (by decide)) ?_;refine A0 (zcx rfl (ui_50) (us_53) rfl) ?_;refine zl (d:=11) (y:=tgtM bits) rfl (tgtM_rem bits) ?_;refine A0 aV ?_
 refine CNQQR ?_;refine A0 mV ?_;refine A0 zC ?_;refine A0 mV ?_
 refine Sp (d:=14) (p:=tgtE bits<3) (fun g14=>?_) (fun g14=>?_)
 ·
  refine A2 ?_;refine A2 ?_;refine A0 oK ?_;refine A0 mV ?_;refine A2 ?_;refine A2 ?_;refine A0 oK ?_;refine A0 mV ?_;refine A2 ?_;refine A2 ?_;refine A0 oK ?_;refine CN ?_;refine Ct ?_;refine CQR ?_
  refine A0 (zaI rfl zal zan rfl) ?_;refine za rfl rfl rfl rfl rfl (Lens.self _) zk rfl ?_;refine A0 aV ?_;refine CN ?_
  exact zH rfl rfl (zE rfl rfl zk (by unfold tgtW;rw [if_neg (by unfold tgtOk;rw [decide_eq_true_eq];omega)])) (zah (zd rfl (by unfold tgtOk;symm;apply decide_eq_false;omega)))
 ·
  refine A1 mV ?_;refine A1 zaP ?_;refine A0 oK ?_;refine A0 mV ?_
  refine Sp (d:=18) (p:=32<tgtE bits) (fun g18=>?_) (fun g18=>?_)
  ·
   refine A2 ?_;refine A2 ?_;refine A0 oK ?_;refine A0 mV ?_;refine A2 ?_;refine A2 ?_;refine A0 oK ?_;refine CN ?_;refine Ct ?_;refine CQR ?_;refine A0 (zaI rfl zal zan rfl) ?_
   refine za rfl rfl rfl rfl rfl (Lens.self _) zk rfl ?_;refine A0 aV ?_;refine CN ?_
   exact zH rfl rfl (zE rfl rfl zk (by unfold tgtW;rw [if_neg (by unfold tgtOk;rw [decide_eq_true_eq];omega)])) (zah (zd rfl (by unfold tgtOk;symm;apply decide_eq_false;omega)))
  ·
   refine A1 mV ?_;refine A1 zC ?_;refine A0 oK ?_;refine A0 mV ?_
   refine zaw (d:=22) (p:=(tgtM bits).toNat<32768) rfl (by rw [decide_eq_decide];show ((tgtM bits).toNat:Int)<(32768:Int)↔_;omega) (fun g22=>?_) (fun g22=>?_)
   ·
    refine A2 ?_;refine A2 ?_;refine A0 oK ?_;refine CN ?_;refine Ct ?_;refine CQR ?_;refine A0 (zaI rfl zal zan rfl) ?_;refine za rfl rfl rfl rfl rfl (Lens.self _) zk rfl ?_;refine A0 aV ?_;refine CN ?_
    exact zH rfl rfl (zE rfl rfl zk (by unfold tgtW;rw [if_neg (by unfold tgtOk;rw [decide_eq_true_eq];omega)])) (zah (zd rfl (by unfold tgtOk;symm;apply decide_eq_false;omega)))
   ·
    refine A1 mV ?_;refine A1 zaP ?_;refine A0 oK ?_;refine CN ?_
    refine zo (p:=8388608≤(tgtM bits).toNat) rfl (by rw [decide_eq_decide];show (8388607:Int)<((tgtM bits).toNat:Int)↔_;omega) (fun ht25=>?_) (fun ht25=>?_)
    ·
     refine CQR ?_;refine A0 (zaI rfl zal zan rfl) ?_;refine za rfl rfl rfl rfl rfl (Lens.self _) zk rfl ?_;refine A0 aV ?_;refine CN ?_
     exact zH rfl rfl (zE rfl rfl zk (by unfold tgtW;rw [if_neg (by unfold tgtOk;rw [decide_eq_true_eq];omega)])) (zah (zd rfl (by unfold tgtOk;symm;apply decide_eq_false;omega)))
    ·
     refine CSQR ?_;refine A0 mV ?_;refine A0 (oCl (rofW_ok (tgtM bits)) rfl fn_138 ⟨(ze rfl),trivial⟩) ?_;refine A0 mV ?_;refine A0 (g_sub rfl rfl rfl (show _=(tgtE bits-3:Int) from (zaa (by omega)).trans (by omega))) ?_
     refine A0 (g_mul rfl rfl rfl (show _=(8*(tgtE bits-3):Int) from (zaa (by omega)).trans (by omega))) ?_;refine A0 (oCl (rupW_ok (ofW (tgtM bits)) (8*(tgtE bits-3))) rfl fn_137 ⟨(ze rfl),(ze rfl),trivial⟩) ?_
     refine za rfl rfl rfl rfl rfl (Lens.self _) zk rfl ?_;refine A0 aV ?_;refine CN ?_
     exact zH rfl rfl (zE rfl rfl zk (by unfold tgtW;rw [if_pos (by unfold tgtOk;rw [decide_eq_true_eq];omega)])) (zah (zd rfl (by unfold tgtOk;symm;apply decide_eq_true;omega)))
end Go.Proofs.YtdeghaedeefooaaGreat
set_option maxRecDepth 20000
namespace Go.Proofs.YtdeghaedeefooaaGreat
open Go.Ab Go.RowKit
def incW (w:Wide):Wide:=w.set 0 (w.getD 0 default+1)
theorem incW_len {w:Wide} (h:w.length=4):(incW w).length=4:=by unfold incW;rw [List.length_set];exact h
theorem incW_n {w:Wide} (h:w.length=4) (he:nW w%2=0):nW (incW w)=nW w+1:=by
  obtain ⟨a0,a1,a2,a3,rfl⟩:=wide4 h
  have h0:a0.toNat<18446744073709551616:=a0.toNat_lt
  unfold nW at he
  simp only [List.getD_cons_zero,List.getD_cons_succ] at he
  show nW [a0+1,a1,a2,a3]=_
  unfold nW
  simp only [List.getD_cons_zero,List.getD_cons_succ]
  have e:(a0+1).toNat=a0.toNat+1:=by
    rw [UInt64.toNat_add];show (a0.toNat+1)%18446744073709551616=_
    omega
  rw [e];omega
theorem hiBit_n {w:Wide} (h:w.length=4):9223372036854775808≤(w.getD 3 default).toNat↔57896044618658097711785492504343953926634992332820282019728792003956564819968≤nW w:=by
  obtain ⟨a0,a1,a2,a3,rfl⟩:=wide4 h
  have h0:a0.toNat<18446744073709551616:=a0.toNat_lt
  have h1:a1.toNat<18446744073709551616:=a1.toNat_lt
  have h2:a2.toNat<18446744073709551616:=a2.toNat_lt
  have h3:a3.toNat<18446744073709551616:=a3.toNat_lt
  unfold nW
  simp only [List.getD_cons_zero,List.getD_cons_succ]
  omega
def dvX (s:Wide×Wide×Wide):Wide:=if 9223372036854775808≤(s.1.getD 3 default).toNat then incW (addW s.2.2 s.2.2) else addW s.2.2 s.2.2
def dvC (b:Wide) (s:Wide×Wide×Wide):Prop:=addOk s.2.2 s.2.2=false∨0≤cmpW (dvX s) b
instance (b:Wide) (s:Wide×Wide×Wide):Decidable (dvC b s):=inferInstanceAs (Decidable (_∨_))
def dvStep (b:Wide) (s:Wide×Wide×Wide):Wide×Wide×Wide:=if dvC b s then (addW s.1 s.1,incW (addW s.2.1 s.2.1),subW (dvX s) b) else (addW s.1 s.1,addW s.2.1 s.2.1,dvX s)
def dvI (a b:Wide):Nat→Wide×Wide×Wide
  | 0=>(a,zWide,zWide)
  | i+1=>dvStep b (dvI a b i)
structure DvInv (A B P:Nat) (M:Nat) (s:Wide×Wide×Wide):Prop where
  l1:s.1.length=4
  l2:s.2.1.length=4
  l3:s.2.2.length=4
  n1:nW s.1=M
  n2:nW s.2.1=P/B
  n3:nW s.2.2=P%B
theorem dv_step {A B P M bit:Nat} {b:Wide} {s:Wide×Wide×Wide} (hb:b.length=4) (hB:nW b=B) (hp:0<B) (hM:M<W256) (hbit:bit=if 57896044618658097711785492504343953926634992332820282019728792003956564819968≤M then 1 else 0) (hP:2*P+bit<W256) (h:DvInv A B P M s):DvInv A B (2*P+bit) (2*M%W256) (dvStep b s):=by
  obtain ⟨l1,l2,l3,n1,n2,n3⟩:=h
  have hBlt:B<W256:=by rw [←hB];exact nW_lt hb
  have hr:P%B<B:=Nat.mod_lt _ hp
  have hq:B*(P/B)+P%B=P:=Nat.div_add_mod P B
  have hqle:P/B≤P:=Nat.div_le_self P B
  obtain ⟨x1,x2⟩:=nW_add2 l3 l3
  rw [n3] at x1 x2
  have hX:(dvX s).length=4∧nW (dvX s)=(2*(P%B)+bit)%W256:=by
    have ev:nW (addW s.2.2 s.2.2)%2=0:=by rw [x1];unfold W256;omega
    unfold dvX
    by_cases c:9223372036854775808≤(s.1.getD 3 default).toNat
    · rw [if_pos c]
      have c':=(hiBit_n l1).1 c
      rw [n1] at c'
      rw [if_pos c'] at hbit
      refine ⟨incW_len (zaO l3 l3),?_⟩
      rw [incW_n (zaO l3 l3) ev,x1,hbit]
      unfold W256;omega
    · rw [if_neg c]
      have c':¬_:=fun h=>c ((hiBit_n l1).2 h)
      rw [n1] at c'
      rw [if_neg c'] at hbit
      refine ⟨zaO l3 l3,?_⟩
      rw [x1,hbit]
      congr 1;omega
  obtain ⟨xl,xn⟩:=hX
  have o1:=nW_add l2 l2
  rw [n2] at o1
  have o1':nW (addW s.2.1 s.2.1)=2*(P/B):=by
    rw [o1,show P/B+P/B=2*(P/B) by omega,Nat.mod_eq_of_lt (by omega)]
  have a1:nW (addW s.1 s.1)=2*M%W256:=by rw [nW_add l1 l1,n1];congr 1;omega
  have hbit1:bit≤1:=by rw [hbit];split<;>omega
  have hdiv:∀q r,B*q+r=2*P+bit→r<B→(2*P+bit)/B=q∧(2*P+bit)%B=r:=fun q r e hlt=>by
    rw [←e]
    refine ⟨?_,?_⟩
    · rw [Nat.add_comm,Nat.add_mul_div_left _ _ hp,Nat.div_eq_of_lt hlt,Nat.zero_add]
    · rw [Nat.add_comm,Nat.add_mul_mod_self_left,Nat.mod_eq_of_lt hlt]
  have hcase:dvC b s↔B≤2*(P%B)+bit:=by
    unfold dvC
    rw [cmpW_n xl hb,hB,xn]
    have hx2:addOk s.2.2 s.2.2=false↔W256≤P%B+P%B:=by
      cases e:addOk s.2.2 s.2.2 with
      | true=>have:=x2.1 e;simp;omega
      | false =>
        refine ⟨fun _=>?_,fun _=>rfl⟩
        rcases Nat.lt_or_ge (P%B+P%B) W256 with h|h
        · have:=x2.2 h;rw [e] at this;cases this
        · exact h
    rw [hx2]
    have hlt2:2*(P%B)+bit<2*B:=by omega
    constructor
    · rintro (h|h)
      · omega
      · by_cases c1:2*(P%B)+bit<W256
        · rw [Nat.mod_eq_of_lt c1] at h
          split at h
          · omega
          · omega
        · omega
    · intro h
      by_cases c1:2*(P%B)+bit<W256
      · right
        rw [Nat.mod_eq_of_lt c1]
        split
        · omega
        · split<;>omega
      · left
        unfold W256 at *;omega
  unfold dvStep
  have hmul:B*(2*(P/B))=2*(B*(P/B)):=by rw [Nat.mul_left_comm]
  by_cases c:dvC b s
  · rw [if_pos c]
    have c':=hcase.1 c
    have hm1:B*(2*(P/B)+1)=2*(B*(P/B))+B:=by rw [Nat.mul_add,hmul,Nat.mul_one]
    obtain ⟨e1,e2⟩:=hdiv (2*(P/B)+1) (2*(P%B)+bit-B) (by omega) (by omega)
    refine ⟨zaO l1 l1,incW_len (zaO l2 l2),subW_len xl hb,a1,?_,?_⟩
    · show nW (incW (addW s.2.1 s.2.1))=_
      rw [incW_n (zaO l2 l2) (by rw [o1'];omega),o1',e1]
    · show nW (subW (dvX s) b)=_
      rw [(nW_sub xl hb).1,xn,hB,e2]
      by_cases c1:2*(P%B)+bit<W256
      · rw [Nat.mod_eq_of_lt c1]
        rw [show 2*(P%B)+bit+W256-B=(2*(P%B)+bit-B)+W256 by omega,Nat.add_mod_right,Nat.mod_eq_of_lt (by omega)]
      · have h2:2*(P%B)+bit<2*W256:=by omega
        rw [show (2*(P%B)+bit)%W256=2*(P%B)+bit-W256 by rw [Nat.mod_eq_sub_mod (by omega),Nat.mod_eq_of_lt (by omega)]]
        rw [show 2*(P%B)+bit-W256+W256-B=2*(P%B)+bit-B by omega,Nat.mod_eq_of_lt (by omega)]
  · rw [if_neg c]
    have c':¬B≤2*(P%B)+bit:=fun h=>c (hcase.2 h)
    obtain ⟨e1,e2⟩:=hdiv (2*(P/B)) (2*(P%B)+bit) (by omega) (by omega)
    refine ⟨zaO l1 l1,zaO l2 l2,xl,a1,?_,?_⟩
    · show nW (addW s.2.1 s.2.1)=_
      rw [o1',e1]
    · show nW (dvX s)=_
      rw [xn,e2,Nat.mod_eq_of_lt (by omega)]
theorem dv_bit {A k i:Nat} (_hA:A<2^256) (hk:k+1+i=256):A/2^k=2*(A/2^(k+1))+(if 2^255≤A*2^i%2^256 then 1 else 0):=by
  have e1:A/2^(k+1)=A/2^k/2:=by rw [Nat.pow_succ,Nat.div_div_eq_div_mul]
  have e2:A*2^i%2^256=A%2^(k+1)*2^i:=by
    rw [←hk,Nat.pow_add,Nat.mul_mod_mul_right]
  have e3:A%2^(k+1)=A/2^k%2*2^k+A%2^k:=by
    rw [Nat.pow_succ,Nat.mod_mul,Nat.add_comm,Nat.mul_comm (2^k)]
  have e4:(2:Nat)^255=2^k*2^i:=by rw [←Nat.pow_add];congr 1;omega
  have hlt:A%2^k<2^k:=Nat.mod_lt _ (Nat.two_pow_pos k)
  rw [e1,e2,e4]
  have hiff:2^k*2^i≤A%2^(k+1)*2^i↔A/2^k%2=1:=by
    rw [Nat.mul_le_mul_right_iff (Nat.two_pow_pos i),e3]
    rcases Nat.mod_two_eq_zero_or_one (A/2^k) with h|h
    · rw [h];constructor
      · intro h';omega
      · intro h';omega
    · rw [h];constructor
      · intro _;rfl
      · intro _;omega
  by_cases c:A/2^k%2=1
  · rw [if_pos (hiff.2 c)];omega
  · rw [if_neg (fun h=>c (hiff.1 h))];omega
theorem dv_inv {a b:Wide} (ha:a.length=4) (hb:b.length=4) (h:b≠zWide):∀i,i≤256→DvInv (nW a) (nW b) (nW a/2^(256-i)) (nW a*2^i%2^256) (dvI a b i):=by
  have hA:nW a<2^256:=nW_lt ha
  have hp:=nW_pos hb h
  intro i
  induction i with
  | zero =>
    intro _
    have e:nW a/2^(256-0)=0:=Nat.div_eq_of_lt hA
    rw [e,Nat.pow_zero,Nat.mul_one,Nat.mod_eq_of_lt hA]
    exact ⟨ha,rfl,rfl,rfl,by show nW zWide=_;rw [nW_zero,Nat.zero_div],by show nW zWide=_;rw [nW_zero,Nat.zero_mod]⟩
  | succ i ih =>
    intro hi
    have h1:=ih (by omega)
    have e:=dv_bit (k:=255-i) (i:=i) hA (by omega)
    rw [show 255-i+1=256-i by omega] at e
    have hlt:nW a/2^(255-i)<W256:=Nat.lt_of_le_of_lt (Nat.div_le_self _ _) hA
    have hM:nW a*2^i%2^256<W256:=Nat.mod_lt _ (by decide)
    have e2:nW a*2^(i+1)%2^256=2*(nW a*2^i%2^256)%W256:=by
      rw [Nat.pow_succ,←Nat.mul_assoc,Nat.mul_comm _ 2]
      show _=2*(nW a*2^i%2^256)%2^256
      rw [Nat.mul_mod_mod]
    rw [show 256-(i+1)=255-i by omega,e2,e]
    rw [e] at hlt
    exact dv_step hb rfl hp hM rfl hlt h1
theorem dv_all {a b:Wide} (ha:a.length=4) (hb:b.length=4) (h:b≠zWide):(dvI a b 256).2.1=divW a b∧(dvI a b 256).2.2=remW a b:=by
  obtain ⟨_,l2,l3,_,n2,n3⟩:=dv_inv ha hb h 256 (Nat.le_refl _)
  obtain ⟨d1,d2,d3,d4⟩:=nW_div ha hb h
  rw [Nat.sub_self,Nat.pow_zero,Nat.div_one] at n2 n3
  exact ⟨nW_inj l2 d1 (n2.trans d3.symm),nW_inj l3 d2 (n3.trans d4.symm)⟩
theorem dvX_len {x y z:Wide} (h:z.length=4):(dvX (x,y,z)).length=4:=by
  unfold dvX
  split
  · exact incW_len (zaO h h)
  · exact zaO h h
theorem zcr {a b x y z X : Wide} {k : Nat} (h : k ≤ 256 ∧ dvI a b k = (x, y, z) ∧ x.length = 4 ∧ y.length = 4 ∧ z.length = 4) (hb : b.length = 4) (hXl : X.length = 4) (hk : k + 1 ≤ 256) (hX : X = dvX (x, y, z)) (hc : addOk z z = false ∨ 0 ≤ cmpW X b) :
    k+1≤256∧dvI a b (k+1)=(addW x x,incW (addW y y),subW X b)∧(addW x x).length=4∧(incW (addW y y)).length=4∧(subW X b).length=4:=by
  refine ⟨hk,?_,zaO h.2.2.1 h.2.2.1,incW_len (zaO h.2.2.2.1 h.2.2.2.1),subW_len hXl hb⟩
  rw [dvI,h.2.1]
  unfold dvStep
  rw [if_pos (by unfold dvC;rw [←hX];exact hc),←hX]
theorem dv_nextB {a b x y z X : Wide} {k : Nat} (h : k ≤ 256 ∧ dvI a b k = (x, y, z) ∧ x.length = 4 ∧ y.length = 4 ∧ z.length = 4) (hXl : X.length = 4) (hk : k + 1 ≤ 256) (hX : X = dvX (x, y, z)) (h1 : ¬ addOk z z = false) (h2 : ¬ 0 ≤ cmpW X b) :
    k+1≤256∧dvI a b (k+1)=(addW x x,addW y y,X)∧(addW x x).length=4∧(addW y y).length=4∧X.length=4:=by
  refine ⟨hk,?_,zaO h.2.2.1 h.2.2.1,zaO h.2.2.2.1 h.2.2.2.1,hXl⟩
  rw [dvI,h.2.1]
  unfold dvStep
  rw [if_neg (by unfold dvC;rw [←hX];exact fun h=>h.elim h1 h2),←hX]
def allW:Wide:=[maxU,maxU,maxU,maxU]
theorem allW_n:nW allW=W256-1:=by
  show nW [maxU,maxU,maxU,maxU]=_
  unfold nW;simp only [List.getD_cons_zero,List.getD_cons_succ,maxU_n];rfl
theorem notW_n {t:Wide} (ht:t.length=4):nW [~~~ t.getD 0 default,~~~ t.getD 1 default,~~~ t.getD 2 default,~~~ t.getD 3 default]=W256-1-nW t:=by
  obtain ⟨a0,a1,a2,a3,rfl⟩:=wide4 ht
  have e:∀x:UInt64,(~~~ x).toNat=18446744073709551615-x.toNat:=fun x=>by rw [UInt64.toNat_not];rfl
  have h0:a0.toNat<18446744073709551616:=a0.toNat_lt
  have h1:a1.toNat<18446744073709551616:=a1.toNat_lt
  have h2:a2.toNat<18446744073709551616:=a2.toNat_lt
  have h3:a3.toNat<18446744073709551616:=a3.toNat_lt
  unfold nW W256
  simp only [List.getD_cons_zero,List.getD_cons_succ,e]
  omega
theorem succ_div_mod {a n:Nat} (hn:0<n):(a+1)/n=a/n+if a%n+1=n then 1 else 0:=by
  have h:=Nat.div_add_mod a n
  have hlt:=Nat.mod_lt a hn
  by_cases c:a%n+1=n
  · rw [if_pos c]
    have e:a+1=n*(a/n+1):=by rw [Nat.mul_add,Nat.mul_one];omega
    rw [e,Nat.mul_div_cancel_left _ hn]
  · rw [if_neg c]
    have e:a+1=(a%n+1)+n*(a/n):=by omega
    rw [e,Nat.add_mul_div_left _ _ hn,Nat.div_eq_of_lt (by omega),Nat.zero_add];rfl
theorem rwork_eq {t : Wide} (ht : t.length = 4) (h : addOk t (ofW 1) = true) :
    (addW (remW allW (addW t (ofW 1))) (ofW 1)=addW t (ofW 1)→addW (divW allW (addW t (ofW 1))) (ofW 1)=workW t)∧(addW (remW allW (addW t (ofW 1))) (ofW 1)≠addW t (ofW 1)→divW allW (addW t (ofW 1))=workW t):=by
  have h1:nW (ofW 1)=1:=rfl
  have l1:(ofW 1).length=4:=rfl
  obtain ⟨n1,n2⟩:=nW_add2 ht l1
  have hlt:=n2.1 h
  rw [h1] at n1 hlt
  rw [Nat.mod_eq_of_lt hlt] at n1
  have nl:=zaO ht l1
  obtain ⟨nx,hnx⟩:∃nx,nx=addW t (ofW 1):=⟨_,rfl⟩
  have hw:workW t=addW (divW [~~~ t.getD 0 default,~~~ t.getD 1 default,~~~ t.getD 2 default,~~~ t.getD 3 default] nx) (ofW 1):=by unfold workW;rw [if_pos h,hnx]
  rw [←hnx] at n1 nl ⊢
  have hz:nx≠zWide:=fun e=>by rw [e,nW_zero] at n1;omega
  have hp:0<nW nx:=by omega
  obtain ⟨d1,d2,d3,d4⟩:=nW_div (a:=allW) rfl nl hz
  obtain ⟨e1,e2,e3,_⟩:=nW_div (a:=[~~~ t.getD 0 default,~~~ t.getD 1 default,~~~ t.getD 2 default,~~~ t.getD 3 default]) rfl nl hz
  rw [notW_n ht] at e3
  have hk:W256-1-nW t=W256-nW nx:=by omega
  rw [hk] at e3
  have hdiv:(W256-nW nx)/nW nx+1=W256/nW nx:=by
    rw [←Nat.div_eq_sub_div hp (by omega)]
  have hsd:=succ_div_mod (a:=W256-1) hp
  rw [show W256-1+1=W256 from rfl] at hsd
  rw [allW_n] at d3 d4
  have hrl:(W256-1)%nW nx<nW nx:=Nat.mod_lt _ hp
  have hcond:addW (remW allW nx) (ofW 1)=nx↔(W256-1)%nW nx+1=nW nx:=by
    have hr:=nW_add d2 l1
    rw [d4,h1,Nat.mod_eq_of_lt (by omega)] at hr
    constructor
    · intro e;rw [←hr,e]
    · intro e;exact nW_inj (zaO d2 l1) nl (hr.trans e)
  have hwl:(workW t).length=4:=by rw [hw];exact zaO e1 l1
  have hwn:nW (workW t)=W256/nW nx%W256:=by rw [hw,nW_add e1 l1,e3,h1,hdiv]
  constructor
  · intro c
    rw [if_pos (hcond.1 c)] at hsd
    refine nW_inj (zaO d1 l1) hwl ?_
    rw [nW_add d1 l1,d3,h1,hwn,hsd]
  · intro c
    rw [if_neg (fun e=>c (hcond.2 e)),Nat.add_zero] at hsd
    refine nW_inj d1 hwl ?_
    rw [d3,hwn,hsd,Nat.mod_eq_of_lt]
    exact Nat.lt_of_le_of_lt (Nat.div_le_self _ _) (by decide)
theorem rdivW_ok (a b:Wide):Tells P 223 [.val wideT a,.val wideT b] (.tup3 (.val wideT (divW a b)) (.val wideT (remW a b)) (.val boolT (divOk b))):=by
 refine zc Tryz.func223 rfl rfl rfl (fun ext w hext=>?_)
 refine zh (d:=0) rfl zaC (fun ha=>?_)
 refine zh (d:=1) rfl zaC (fun hb=>?_)
 refine CQR ?_;refine zj rfl rfl rfl rfl rfl ?_;refine zj rfl rfl rfl rfl rfl ?_;refine zf zan rfl rfl rfl rfl ?_;refine zf zan rfl rfl rfl rfl ?_;refine A0 aV ?_;refine CNQQR ?_
 refine A0 (oLs rfl rfl rfl zk) ?_;refine A0 (zaI rfl zal zan rfl) ?_;refine A0 (zdM rfl rfl rfl (eqt_52)) ?_;refine CN ?_
 refine zo (p:=b=zWide) rfl (by simp) (fun ht14=>?_) (fun ht14=>?_)
 ·
  refine CQR ?_;refine A0 (zaI rfl zal zan rfl) ?_;refine A0 (zaI rfl zal zan rfl) ?_;refine za rfl rfl rfl rfl rfl (Lens.self _) zk rfl ?_;refine za rfl rfl rfl rfl rfl (Lens.self _) zk rfl ?_
  refine A0 aV ?_;refine CN ?_
  exact aw_retr3 rfl rfl (zE rfl rfl zk (by unfold divW divP;rw [if_pos ht14])) (zE rfl rfl zk (by unfold remW divP;rw [if_pos ht14])) (zah (zd rfl (by unfold divOk;symm;exact decide_eq_false (fun h=>h ht14))))
 ·
  refine CSQR ?_;refine zf zan rfl rfl rfl rfl ?_;refine CNQR ?_;refine zf zan rfl rfl rfl rfl ?_;refine CNQQR ?_;refine A0 aV ?_;refine CNB ?_
  refine Lp (ι:=Nat×Wide×Wide×Wide) 6 (fun (i:Nat×Wide×Wide×Wide)=>match i with|(k,x,y,z)=>((((((((Fr.none).set 2 (.ptr 0 0)).set 3 (.ptr 1 0)).set 4 (.ptr 2 0)).set 5 (.ptr 3 0)).set 6 (.val boolT false)).set 7 (.ptr 4 0)).set 8 (.ptr 5 0)).set 9 (.val i64T (k:Int))) (fun (i:Nat×Wide×Wide×Wide)=>match i with|(k,x,y,z)=>((((((Hp.none).set 0 (.box 52 wideT x)).set 1 (.box 52 wideT b)).set 2 (.box 52 wideT zWide)).set 3 (.box 52 wideT zWide)).set 4 (.box 52 wideT y)).set 5 (.box 52 wideT z)) (fun (i:Nat×Wide×Wide×Wide)=>match i with|(k,x,y,z)=>k≤256∧dvI a b k=(x,y,z)∧x.length=4∧y.length=4∧z.length=4) (fun (i:Nat×Wide×Wide×Wide)=>match i with|(k,x,y,z)=>256-k) ((0,a,zWide,zWide)) (⟨Nat.zero_le _,rfl,ha,rfl,rfl⟩) ?_
  intro ⟨k,x,y,z⟩ hinv
  dsimp only at hinv
  refine CQQR ?_;refine A0 mV ?_;refine A0 zC ?_;refine CN ?_
  refine Cf (p:=k<256) (fun ht18=>?_) (fun ht18=>?_)
  ·
   obtain ⟨X,hX⟩:∃X,X=dvX (x,y,z):=⟨_,rfl⟩
   have hXl:X.length=4:=by rw [hX];exact dvX_len hinv.2.2.2.2
   refine CSQBQR ?_;refine A0 (oLs rfl rfl rfl zk) ?_;refine A0 (oLs rfl rfl rfl zk) ?_;refine A0 (oCl (zcq z z) rfl fn_185 ⟨(ze rfl),(ze rfl),trivial⟩) ?_;refine A0 mX ?_
   refine A0 (by first|exact z6 rfl rfl|exact zY rfl rfl) ?_;refine A0 (by first|exact z8 rfl rfl|exact z7 rfl rfl) ?_;refine zf zan rfl rfl rfl rfl ?_
   refine za rfl rfl rfl rfl rfl (Lens.self _) zk rfl ?_;refine A0 aV ?_;refine CNQQR ?_;refine A0 (zq (i:=3) rfl rfl rfl (by first|omega|rfl) zal (by omega)) ?_
   refine A0 (zp rfl rfl rfl (Lens.elem (i:=3) (by omega) u64T) zaE) ?_;refine A0 zbf ?_;refine CN ?_
   refine zo (p:=9223372036854775808≤(x.getD 3 default).toNat) rfl (by rw [decide_eq_decide];show (9223372036854775808:Int)≤((x.getD 3 default).toNat:Int)↔_;omega) (fun ht29=>?_) (fun ht29=>?_)
   ·
    refine CR ?_;refine A0 (zq (i:=0) rfl rfl rfl (by first|omega|rfl) zal (by omega)) ?_;refine A0 (zp rfl rfl rfl (Lens.elem (i:=0) (by omega) u64T) zaE) ?_;refine A0 (zcD rfl rfl rfl) ?_
    refine A0 (zq (i:=0) rfl rfl rfl (by first|omega|rfl) zal (by omega)) ?_;refine za rfl rfl rfl rfl rfl (Lens.elem (i:=0) (by omega) u64T) zaE rfl ?_;refine CNQ ?_
    refine zz (n:=6) (y:=X) rfl (by rw [hX];unfold dvX;first|(rw [if_pos ht29];rfl)|(rw [if_neg ht29])) ?_;refine CR ?_;refine A0 (oLs rfl rfl rfl zk) ?_;refine A0 (oLs rfl rfl rfl zk) ?_
    refine A0 (oCl (zcq x x) rfl fn_185 ⟨(ze rfl),(ze rfl),trivial⟩) ?_;refine A0 mX ?_;refine A0 (by first|exact z6 rfl rfl|exact zY rfl rfl) ?_;refine A0 (by first|exact z8 rfl rfl|exact z7 rfl rfl) ?_
    refine za rfl rfl rfl rfl rfl (Lens.self _) zk rfl ?_;refine CNQR ?_;refine A0 (oLs rfl rfl rfl zk) ?_;refine A0 (oLs rfl rfl rfl zk) ?_;refine A0 (oCl (zcq y y) rfl fn_185 ⟨(ze rfl),(ze rfl),trivial⟩) ?_
    refine A0 mX ?_;refine A0 (by first|exact z6 rfl rfl|exact zY rfl rfl) ?_;refine A0 (by first|exact z8 rfl rfl|exact z7 rfl rfl) ?_;refine za rfl rfl rfl rfl rfl (Lens.self _) zk rfl ?_;refine CNQR ?_
    refine A0 (oLs rfl rfl rfl zk) ?_;refine za rfl rfl rfl rfl rfl (Lens.self _) zk rfl ?_;refine CNQR ?_;refine A0 mV ?_;refine A0 oN ?_;refine A0 mV ?_
    refine zaw (d:=49) (p:=addOk z z=false) rfl (by cases addOk z z<;>rfl) (fun g49=>?_) (fun g49=>?_)
    ·
     refine A2 ?_;refine A2 ?_;refine A2 ?_;refine A2 ?_;refine A0 oK ?_;refine CN ?_;refine Ct ?_;refine CQR ?_;refine A0 (oLs rfl rfl rfl zk) ?_;refine A0 (oLs rfl rfl rfl zk) ?_
     refine A0 (oCl (rsubW_ok X b) rfl fn_256 ⟨(ze rfl),(ze rfl),trivial⟩) ?_;refine A0 mX ?_;refine A0 (by first|exact z6 rfl rfl|exact zY rfl rfl) ?_;refine A0 (by first|exact z8 rfl rfl|exact z7 rfl rfl) ?_
     refine za rfl rfl rfl rfl rfl (Lens.self _) zk rfl ?_;refine CNR ?_;refine A0 (zq (i:=0) rfl rfl rfl (by first|omega|rfl) zal (by omega)) ?_
     refine A0 (zp rfl rfl rfl (Lens.elem (i:=0) (by omega) u64T) zaE) ?_;refine A0 (zcD rfl rfl rfl) ?_;refine A0 (zq (i:=0) rfl rfl rfl (by first|omega|rfl) zal (by omega)) ?_
     refine za rfl rfl rfl rfl rfl (Lens.elem (i:=0) (by omega) u64T) zaE rfl ?_;refine CNIR ?_;refine A0 mV ?_;refine A0 zs ?_;refine A0 aV ?_;refine CN ?_;refine zz (n:=4) (y:=incW (addW y y)) rfl rfl ?_
     exact Nx ((k+1,addW x x,incW (addW y y),subW X b)) (by first|exact zcr hinv hb hXl (by omega) hX (.inl g49)|exact zcr hinv hb hXl (by omega) hX (.inr ht54)|exact dv_nextB hinv hXl (by omega) hX g49 ht54) (by show 256-(k+1)<256-k;omega)
    ·
     refine A1 (oLs rfl rfl rfl zk) ?_;refine A1 (oLs rfl rfl rfl zk) ?_;refine A1 (oCl (rcmpW_ok _ _) rfl fn_146 ⟨(ze rfl),(ze rfl),trivial⟩) ?_;refine A1 zbf ?_;refine A0 oK ?_;refine CN ?_
     refine Cf (p:=0≤cmpW X b) (fun ht54=>?_) (fun ht54=>?_)
     ·
      refine CQR ?_;refine A0 (oLs rfl rfl rfl zk) ?_;refine A0 (oLs rfl rfl rfl zk) ?_;refine A0 (oCl (rsubW_ok X b) rfl fn_256 ⟨(ze rfl),(ze rfl),trivial⟩) ?_;refine A0 mX ?_
      refine A0 (by first|exact z6 rfl rfl|exact zY rfl rfl) ?_;refine A0 (by first|exact z8 rfl rfl|exact z7 rfl rfl) ?_;refine za rfl rfl rfl rfl rfl (Lens.self _) zk rfl ?_;refine CNR ?_
      refine A0 (zq (i:=0) rfl rfl rfl (by first|omega|rfl) zal (by omega)) ?_;refine A0 (zp rfl rfl rfl (Lens.elem (i:=0) (by omega) u64T) zaE) ?_;refine A0 (zcD rfl rfl rfl) ?_
      refine A0 (zq (i:=0) rfl rfl rfl (by first|omega|rfl) zal (by omega)) ?_;refine za rfl rfl rfl rfl rfl (Lens.elem (i:=0) (by omega) u64T) zaE rfl ?_;refine CNIR ?_;refine A0 mV ?_;refine A0 zs ?_
      refine A0 aV ?_;refine CN ?_;refine zz (n:=4) (y:=incW (addW y y)) rfl rfl ?_
      exact Nx ((k+1,addW x x,incW (addW y y),subW X b)) (by first|exact zcr hinv hb hXl (by omega) hX (.inl g49)|exact zcr hinv hb hXl (by omega) hX (.inr ht54)|exact dv_nextB hinv hXl (by omega) hX g49 ht54) (by show 256-(k+1)<256-k;omega)
     ·
      refine CSIR ?_;refine A0 mV ?_;refine A0 zs ?_;refine A0 aV ?_;refine CN ?_
      exact Nx ((k+1,addW x x,addW y y,X)) (by first|exact zcr hinv hb hXl (by omega) hX (.inl g49)|exact zcr hinv hb hXl (by omega) hX (.inr ht54)|exact dv_nextB hinv hXl (by omega) hX g49 ht54) (by show 256-(k+1)<256-k;omega)
   ·
    refine CS ?_;refine CQ ?_;refine zz (n:=6) (y:=X) rfl (by rw [hX];unfold dvX;first|(rw [if_pos ht29];rfl)|(rw [if_neg ht29])) ?_;refine CR ?_;refine A0 (oLs rfl rfl rfl zk) ?_;refine A0 (oLs rfl rfl rfl zk) ?_
    refine A0 (oCl (zcq x x) rfl fn_185 ⟨(ze rfl),(ze rfl),trivial⟩) ?_;refine A0 mX ?_;refine A0 (by first|exact z6 rfl rfl|exact zY rfl rfl) ?_;refine A0 (by first|exact z8 rfl rfl|exact z7 rfl rfl) ?_
    refine za rfl rfl rfl rfl rfl (Lens.self _) zk rfl ?_;refine CNQR ?_;refine A0 (oLs rfl rfl rfl zk) ?_;refine A0 (oLs rfl rfl rfl zk) ?_;refine A0 (oCl (zcq y y) rfl fn_185 ⟨(ze rfl),(ze rfl),trivial⟩) ?_
    refine A0 mX ?_;refine A0 (by first|exact z6 rfl rfl|exact zY rfl rfl) ?_;refine A0 (by first|exact z8 rfl rfl|exact z7 rfl rfl) ?_;refine za rfl rfl rfl rfl rfl (Lens.self _) zk rfl ?_;refine CNQR ?_
    refine A0 (oLs rfl rfl rfl zk) ?_;refine za rfl rfl rfl rfl rfl (Lens.self _) zk rfl ?_;refine CNQR ?_;refine A0 mV ?_;refine A0 oN ?_;refine A0 mV ?_
    refine zaw (d:=49) (p:=addOk z z=false) rfl (by cases addOk z z<;>rfl) (fun g49=>?_) (fun g49=>?_)
    ·
     refine A2 ?_;refine A2 ?_;refine A2 ?_;refine A2 ?_;refine A0 oK ?_;refine CN ?_;refine Ct ?_;refine CQR ?_;refine A0 (oLs rfl rfl rfl zk) ?_;refine A0 (oLs rfl rfl rfl zk) ?_
     refine A0 (oCl (rsubW_ok X b) rfl fn_256 ⟨(ze rfl),(ze rfl),trivial⟩) ?_;refine A0 mX ?_;refine A0 (by first|exact z6 rfl rfl|exact zY rfl rfl) ?_;refine A0 (by first|exact z8 rfl rfl|exact z7 rfl rfl) ?_
     refine za rfl rfl rfl rfl rfl (Lens.self _) zk rfl ?_;refine CNR ?_;refine A0 (zq (i:=0) rfl rfl rfl (by first|omega|rfl) zal (by omega)) ?_
     refine A0 (zp rfl rfl rfl (Lens.elem (i:=0) (by omega) u64T) zaE) ?_;refine A0 (zcD rfl rfl rfl) ?_;refine A0 (zq (i:=0) rfl rfl rfl (by first|omega|rfl) zal (by omega)) ?_
     refine za rfl rfl rfl rfl rfl (Lens.elem (i:=0) (by omega) u64T) zaE rfl ?_;refine CNIR ?_;refine A0 mV ?_;refine A0 zs ?_;refine A0 aV ?_;refine CN ?_;refine zz (n:=4) (y:=incW (addW y y)) rfl rfl ?_
     exact Nx ((k+1,addW x x,incW (addW y y),subW X b)) (by first|exact zcr hinv hb hXl (by omega) hX (.inl g49)|exact zcr hinv hb hXl (by omega) hX (.inr ht54)|exact dv_nextB hinv hXl (by omega) hX g49 ht54) (by show 256-(k+1)<256-k;omega)
    ·
     refine A1 (oLs rfl rfl rfl zk) ?_;refine A1 (oLs rfl rfl rfl zk) ?_;refine A1 (oCl (rcmpW_ok _ _) rfl fn_146 ⟨(ze rfl),(ze rfl),trivial⟩) ?_;refine A1 zbf ?_;refine A0 oK ?_;refine CN ?_
     refine Cf (p:=0≤cmpW X b) (fun ht54=>?_) (fun ht54=>?_)
     ·
      refine CQR ?_;refine A0 (oLs rfl rfl rfl zk) ?_;refine A0 (oLs rfl rfl rfl zk) ?_;refine A0 (oCl (rsubW_ok X b) rfl fn_256 ⟨(ze rfl),(ze rfl),trivial⟩) ?_;refine A0 mX ?_
      refine A0 (by first|exact z6 rfl rfl|exact zY rfl rfl) ?_;refine A0 (by first|exact z8 rfl rfl|exact z7 rfl rfl) ?_;refine za rfl rfl rfl rfl rfl (Lens.self _) zk rfl ?_;refine CNR ?_
      refine A0 (zq (i:=0) rfl rfl rfl (by first|omega|rfl) zal (by omega)) ?_;refine A0 (zp rfl rfl rfl (Lens.elem (i:=0) (by omega) u64T) zaE) ?_;refine A0 (zcD rfl rfl rfl) ?_
      refine A0 (zq (i:=0) rfl rfl rfl (by first|omega|rfl) zal (by omega)) ?_;refine za rfl rfl rfl rfl rfl (Lens.elem (i:=0) (by omega) u64T) zaE rfl ?_;refine CNIR ?_;refine A0 mV ?_;refine A0 zs ?_
      refine A0 aV ?_;refine CN ?_;refine zz (n:=4) (y:=incW (addW y y)) rfl rfl ?_
      exact Nx ((k+1,addW x x,incW (addW y y),subW X b)) (by first|exact zcr hinv hb hXl (by omega) hX (.inl g49)|exact zcr hinv hb hXl (by omega) hX (.inr ht54)|exact dv_nextB hinv hXl (by omega) hX g49 ht54) (by show 256-(k+1)<256-k;omega)
     ·
      refine CSIR ?_;refine A0 mV ?_;refine A0 zs ?_;refine A0 aV ?_;refine CN ?_
      exact Nx ((k+1,addW x x,addW y y,X)) (by first|exact zcr hinv hb hXl (by omega) hX (.inl g49)|exact zcr hinv hb hXl (by omega) hX (.inr ht54)|exact dv_nextB hinv hXl (by omega) hX g49 ht54) (by show 256-(k+1)<256-k;omega)
  ·
   refine CE ?_;refine CQ ?_;refine zB [some 1,some 1000001,none,none,some 1] mixed (by decide +kernel) ?_;refine X0 (oLs rfl rfl rfl zk) ?_
   refine XK.gf (t:=8) rfl rfl (fun _ he=>zp rfl rfl he (Lens.self _) zk) ⟨hpB rfl rfl,trivial⟩ rfl rfl rfl ?_
   refine XK.e (x:=.idk) (fun fr' hfr kk H=>by exact za rfl rfl rfl ((hfr 4 (by decide +kernel)).trans rfl) rfl (Lens.self _) zk ((hfr 65 (by decide +kernel)).trans rfl) (zG H)) ?_
   refine XK.e (x:=.idk) (fun fr' hfr kk H=>by exact za rfl rfl rfl ((hfr 5 (by decide +kernel)).trans rfl) rfl (Lens.self _) zk ((hfr 66 (by decide +kernel)).trans rfl) (zG H)) ?_;refine X0 aV ?_
   refine XK.nilp ⟨⟨hpB rfl rfl,hpB rfl rfl,trivial⟩,trivial⟩ ?_
   exact aw_retr3 rfl rfl (zE rfl rfl zk (by rw [←(dv_all ha hb ht14).1,show 256=k by omega,hinv.2.1])) (zE rfl rfl zk (by rw [←(dv_all ha hb ht14).2,show 256=k by omega,hinv.2.1])) (zah (zd rfl (by unfold divOk;symm;exact decide_eq_true ht14)))
theorem rworkW_ok (t:Wide):Tells P 191 [.val wideT t] (.val wideT (workW t)):=by
 refine zc Tryz.func191 rfl rfl rfl (fun ext w hext=>?_)
 refine zh (d:=0) rfl zaC (fun ha=>?_)
 refine CQR ?_;refine zj rfl rfl rfl rfl rfl ?_;refine zf zan rfl rfl rfl rfl ?_;refine CNQR ?_;refine A0 (zd9 (T:=u64T) (xs:=[_,_,_,_]) rfl zal zan ⟨rfl,rfl,rfl,rfl,rfl,rfl,rfl,rfl,trivial⟩ rfl) ?_
 refine zf zan rfl rfl rfl rfl ?_;refine za rfl rfl rfl rfl rfl (Lens.self _) zk rfl ?_;refine CNQ ?_
 refine zB [some 1000001,some 1000001,some 1000001,some 1000001,some 1000001,some 1000001,none,none,some 1] mixed (by decide +kernel) ?_
 refine XK.gf (t:=1) rfl rfl (fun _ he=>zp rfl rfl he (Lens.self _) zk) ⟨hpB rfl rfl,trivial⟩ rfl rfl rfl ?_;refine XK.ga (fun _=>zcb (rofW_ok 1) rfl fn_138 ⟨(ze rfl),trivial⟩ rfl) rfl rfl rfl ?_
 refine XK.ga (fun _=>zcb (zcq t (ofW 1)) rfl fn_185 ⟨(ze rfl),(ze rfl),trivial⟩ rfl) rfl rfl rfl ?_
 refine XK.ga (fun _=>by first|exact g_mv (.inl rfl) rfl|exact g_mp (.inl rfl) rfl|exact g_mo (.inl rfl) rfl|exact g_ml (.inl rfl) rfl|exact g_mc (.inl rfl) rfl|exact g_mr (.inl rfl) rfl|exact g_mf1 (.inl rfl) rfl|exact g_mf2 (.inl rfl) rfl|exact g_mw (.inl rfl) rfl|exact g_me (.inl rfl) rfl|exact g_ms (.inl rfl) rfl|exact zet (.inl rfl) rfl|exact zes (.inl rfl) rfl|exact g_mi (.inl rfl) rfl) rfl rfl rfl ?_
 refine XK.ga (fun _=>by first|exact z6 rfl rfl|exact zY rfl rfl) rfl rfl rfl ?_;refine XK.ga (fun _=>by first|exact z8 rfl rfl|exact z7 rfl rfl) rfl rfl rfl ?_
 refine XK.e (fun fr' hfr kk H=>by exact zf zan rfl rfl rfl rfl (zG H)) ?_
 refine XK.e (x:=.idk) (fun fr' hfr kk H=>by exact za rfl rfl rfl ((hfr 4 (by decide +kernel)).trans rfl) rfl (Lens.self _) zk ((hfr 16 (by decide +kernel)).trans rfl) (zG H)) ?_;refine X0 aV ?_
 refine XK.nilp ⟨⟨hpB rfl rfl,hpB rfl rfl,trivial⟩,trivial⟩ ?_;refine CQQR ?_;refine A0 mV ?_;refine A0 oN ?_;refine CN ?_
 refine zo (p:=¬addOk t (ofW 1)=true) rfl (by cases addOk t (ofW 1)<;>rfl) (fun ht19=>?_) (fun ht19=>?_)
 ·
  refine CQR ?_;refine A0 (oCl (rofW_ok 1) rfl fn_138 ⟨(ze rfl),trivial⟩) ?_;refine za rfl rfl rfl rfl rfl (Lens.self _) zk rfl ?_;refine CN ?_
  exact zt rfl rfl rfl rfl zk (by unfold workW;rw [if_neg ht19])
 ·
  refine CSQR ?_;refine A0 (oLs rfl rfl rfl zk) ?_;refine A0 (oLs rfl rfl rfl zk) ?_;refine A0 (oCl (rdivW_ok allW (addW t (ofW 1))) rfl fn_223 ⟨(ze rfl),(ze rfl),trivial⟩) ?_;refine A0 mX ?_
  refine A0 (by first|exact z6 rfl rfl|exact zY rfl rfl) ?_;refine A0 (by first|exact z8 rfl rfl|exact z7 rfl rfl) ?_;refine A0 e32 ?_;refine zf zan rfl rfl rfl rfl ?_;refine zf zan rfl rfl rfl rfl ?_
  refine za rfl rfl rfl rfl rfl (Lens.self _) zk rfl ?_;refine za rfl rfl rfl rfl rfl (Lens.self _) zk rfl ?_;refine A0 aV ?_;refine CNQ ?_
  refine zB [some 1000001,some 1000001,some 1000001,some 1000001,some 1000001,some 1000001,none,none,some 1] mixed (by decide +kernel) ?_
  refine XK.gf (t:=7) rfl rfl (fun _ he=>zp rfl rfl he (Lens.self _) zk) ⟨hpB rfl rfl,trivial⟩ rfl rfl rfl ?_;refine XK.ga (fun _=>zcb (rofW_ok 1) rfl fn_138 ⟨(ze rfl),trivial⟩ rfl) rfl rfl rfl ?_
  refine XK.ga (fun _=>zcb (zcq (remW allW (addW t (ofW 1))) (ofW 1)) rfl fn_185 ⟨(ze rfl),(ze rfl),trivial⟩ rfl) rfl rfl rfl ?_
  refine XK.ga (fun _=>by first|exact g_mv (.inl rfl) rfl|exact g_mp (.inl rfl) rfl|exact g_mo (.inl rfl) rfl|exact g_ml (.inl rfl) rfl|exact g_mc (.inl rfl) rfl|exact g_mr (.inl rfl) rfl|exact g_mf1 (.inl rfl) rfl|exact g_mf2 (.inl rfl) rfl|exact g_mw (.inl rfl) rfl|exact g_me (.inl rfl) rfl|exact g_ms (.inl rfl) rfl|exact zet (.inl rfl) rfl|exact zes (.inl rfl) rfl|exact g_mi (.inl rfl) rfl) rfl rfl rfl ?_
  refine XK.ga (fun _=>by first|exact z6 rfl rfl|exact zY rfl rfl) rfl rfl rfl ?_;refine XK.ga (fun _=>by first|exact z8 rfl rfl|exact z7 rfl rfl) rfl rfl rfl ?_
  refine XK.e (fun fr' hfr kk H=>by exact zf zan rfl rfl rfl rfl (zG H)) ?_
  refine XK.e (x:=.idk) (fun fr' hfr kk H=>by exact za rfl rfl rfl ((hfr 9 (by decide +kernel)).trans rfl) rfl (Lens.self _) zk ((hfr 32 (by decide +kernel)).trans rfl) (zG H)) ?_;refine X0 aV ?_
  refine XK.nilp ⟨⟨hpB rfl rfl,hpB rfl rfl,trivial⟩,trivial⟩ ?_;refine CQQR ?_;refine A0 (oLs rfl rfl rfl zk) ?_;refine A0 (oLs rfl rfl rfl zk) ?_;refine A0 (zdM rfl rfl rfl (eqt_52)) ?_;refine CN ?_
  refine zo (p:=addW (remW allW (addW t (ofW 1))) (ofW 1)=addW t (ofW 1)) rfl (by simp) (fun ht36=>?_) (fun ht36=>?_)
  ·
   refine zB [some 1,some 1,some 1,some 1,some 1,some 1000001,none] mixed (by decide +kernel) ?_;refine X0 (oLs rfl rfl rfl zk) ?_;refine X0 (oCl (rofW_ok 1) rfl fn_138 ⟨(ze rfl),trivial⟩) ?_
   refine X0 (oCl (zcq (divW allW (addW t (ofW 1))) (ofW 1)) rfl fn_185 ⟨(ze rfl),(ze rfl),trivial⟩) ?_;refine X0 mX ?_;refine X0 (by first|exact z6 rfl rfl|exact zY rfl rfl) ?_
   refine XK.ga (fun _=>by first|exact z8 rfl rfl|exact z7 rfl rfl) rfl rfl rfl ?_
   refine XK.e (x:=.idk) (fun fr' hfr kk H=>by exact za rfl rfl rfl ((hfr 6 (by decide +kernel)).trans rfl) rfl (Lens.self _) zk ((hfr 41 (by decide +kernel)).trans rfl) (zG H)) ?_;refine XK.nil' ?_;refine CQR ?_
   refine A0 (oLs rfl rfl rfl zk) ?_;refine za rfl rfl rfl rfl rfl (Lens.self _) zk rfl ?_;refine CN ?_
   exact zt rfl rfl rfl rfl zk ((rwork_eq ha (Classical.not_not.1 ht19)).1 ht36)
  ·
   refine CSQR ?_;refine A0 (oLs rfl rfl rfl zk) ?_;refine za rfl rfl rfl rfl rfl (Lens.self _) zk rfl ?_;refine CN ?_
   exact zt rfl rfl rfl rfl zk ((rwork_eq ha (Classical.not_not.1 ht19)).2 ht36)
theorem rheadWork_ok (h:Head):Tells P 145 [.val headT h] (.val wideT (headWork h)):=by
 refine zc Tryz.func145 rfl rfl rfl (fun ext w hext=>?_)
 refine CQR ?_;refine zj rfl rfl rfl rfl rfl ?_;refine zf zan rfl rfl rfl rfl ?_;refine CNQR ?_;refine A0 (oFp zby) ?_;refine A0 (oLb zam zae) ?_
 refine A0 (oCl (rtarget_ok h.bits) rfl fn_83 ⟨(ze rfl),trivial⟩) ?_;refine A0 mX ?_;refine A0 (by first|exact z6 rfl rfl|exact zY rfl rfl) ?_;refine A0 (by first|exact z8 rfl rfl|exact z7 rfl rfl) ?_
 refine zf zan rfl rfl rfl rfl ?_;refine za rfl rfl rfl rfl rfl (Lens.self _) zk rfl ?_;refine A0 aV ?_;refine CNQQR ?_;refine A0 mV ?_;refine A0 oN ?_;refine CN ?_
 refine zo (p:=¬tgtOk h.bits=true) rfl (by cases tgtOk h.bits<;>rfl) (fun ht12=>?_) (fun ht12=>?_)
 ·
  refine CQR ?_;refine A0 (zaI rfl zal zan rfl) ?_;refine za rfl rfl rfl rfl rfl (Lens.self _) zk rfl ?_;refine CN ?_
  exact zt rfl rfl rfl rfl zk (by unfold headWork;rw [if_neg ht12]<;>rfl)
 ·
  refine CSQR ?_;refine A0 (oLs rfl rfl rfl zk) ?_;refine A0 (oCl (rworkW_ok (tgtW h.bits)) rfl fn_191 ⟨(ze rfl),trivial⟩) ?_;refine za rfl rfl rfl rfl rfl (Lens.self _) zk rfl ?_;refine CN ?_
  exact zt rfl rfl rfl rfl zk (by unfold headWork;rw [if_pos (Classical.not_not.1 ht12)])
end Go.Proofs.YtdeghaedeefooaaGreat
set_option maxRecDepth 20000
namespace Go.Proofs.YtdeghaedeefooaaGreat
open Go.Ab Go.RowKit
theorem rputHead_ok (h:Head):Tells P 80 [.val headT h] (.tup2 (.fresh 5 u8T (headBytes h)) (.val boolT (hOk h))):=by
 refine zc Tryz.func80 rfl rfl rfl (fun ext w hext=>?_)
 refine zh (d:=0) rfl fact_head (fun hf=>?_)
 obtain ⟨hf1,hf2,hf3,hf4,hf5⟩:=hf
 have hbl:=zcW h.work
 have hn1:=zT (u64OfI (IntL.toI i64T h.height)) 4
 have hn2:=zT (u64OfI (IntL.toI u32T h.bits)) 4
 have hn3:=zT h.nonce 8
 refine CQR ?_;refine zj rfl rfl rfl rfl rfl ?_;refine A0 aL ?_;refine A0 aV ?_;refine CNQQR ?_;refine A0 (oFp za0) ?_;refine A0 (oLb zM ty_3) ?_;refine A0 zC ?_;refine A0 mV ?_
 refine Sp (d:=9) (p:=h.height<0) (fun g9=>?_) (fun g9=>?_)
 ·
  refine A2 ?_;refine A2 ?_;refine A2 ?_;refine A0 oK ?_;refine CN ?_;refine Ct ?_;refine CQR ?_;refine A0 aL ?_;refine A0 aV ?_;refine CN ?_
  exact zad rfl rfl (by have hE:hOk h=false:=decide_eq_false (by omega);unfold headBytes;rw [hE,if_neg (by decide)];exact zL rfl) (zd rfl (decide_eq_false (by omega)).symm)
 ·
  refine A1 (oFp za0) ?_;refine A1 (oLb zM ty_3) ?_;refine A1 zaP ?_;refine A0 oK ?_;refine CN ?_
  refine Cf (p:=1048576<h.height) (fun ht13=>?_) (fun ht13=>?_)
  ·
   have hE:hOk h=false:=decide_eq_false (by omega)
   refine CQR ?_;refine A0 aL ?_;refine A0 aV ?_;refine CN ?_
   exact zad rfl rfl (by have hE:hOk h=false:=decide_eq_false (by omega);unfold headBytes;rw [hE,if_neg (by decide)];exact zL rfl) (zd rfl (decide_eq_false (by omega)).symm)
  ·
   refine CSQR ?_;refine A0 (oFp fd_55_5) ?_;refine A0 (oLb zeU zk) ?_;refine A0 (oCl (rbytesW_ok _) rfl fn_129 ⟨(ze rfl),trivial⟩) ?_;refine zf zbJ rfl rfl rfl rfl ?_
   refine za rfl rfl rfl rfl rfl (Lens.self _) zx rfl ?_;refine CNQ ?_;refine zbF (d:=1) rfl rfl (Lens.self _) ?_;refine zbF (d:=4) rfl rfl (Lens.self _) ?_;refine CR ?_;refine A0 (oFr za0 zM) ?_
   refine A0 (zg rfl rfl ty_3) ?_;refine A0 (zcx rfl (ui_50) (us_3) rfl) ?_;refine zaN (rbin_ok (u64OfI (IntL.toI i64T h.height)) 4 (by decide)) rfl fn_130 ⟨(ze rfl),(ze rfl),trivial⟩ rfl rfl rfl ?_;refine A0 aO ?_
   refine CNQR ?_;refine A0 mO ?_;refine A0 (oFr zdQ zbz) ?_;refine A0 (zaB rfl rfl zbI rfl rfl) ?_;refine zu rfl rfl rfl rfl rfl rfl rfl zN (by simp [hf1,hf2,hf3,hf4,hbl,hn1,hn2,hn3]) ?_
   refine A0 aO ?_;refine CNQR ?_;refine A0 mO ?_;refine A0 (oFr zdP za8) ?_;refine A0 (zaB rfl rfl zbI rfl rfl) ?_
   refine zu rfl rfl rfl rfl rfl rfl rfl zN (by simp [hf1,hf2,hf3,hf4,hbl,hn1,hn2,hn3]) ?_;refine A0 aO ?_;refine CNQR ?_;refine A0 mO ?_;refine A0 (oFr fd_55_3 zdC) ?_
   refine A0 (zaB rfl rfl zbI rfl rfl) ?_;refine zu rfl rfl rfl rfl rfl rfl rfl zN (by simp [hf1,hf2,hf3,hf4,hbl,hn1,hn2,hn3]) ?_;refine A0 aO ?_;refine CNQR ?_;refine A0 mO ?_
   refine A0 (oFr fd_55_4 zcZ) ?_;refine A0 (zaB rfl rfl zbI rfl rfl) ?_;refine zu rfl rfl rfl rfl rfl rfl rfl zN (by simp [hf1,hf2,hf3,hf4,hbl,hn1,hn2,hn3]) ?_;refine A0 aO ?_;refine CNQR ?_
   refine A0 mO ?_;refine A0 (zaB rfl rfl zbI rfl rfl) ?_;refine zu rfl rfl rfl rfl rfl rfl rfl zN (by simp [hf1,hf2,hf3,hf4,hbl,hn1,hn2,hn3]) ?_;refine A0 aO ?_;refine CNQR ?_;refine A0 mO ?_
   refine A0 (oFr zby zam) ?_;refine A0 (zg rfl rfl zae) ?_;refine A0 (zcx rfl (ui_50) (us_53) rfl) ?_
   refine zaN (rbin_ok (u64OfI (IntL.toI u32T h.bits)) 4 (by decide)) rfl fn_130 ⟨(ze rfl),(ze rfl),trivial⟩ rfl rfl rfl ?_;refine aw_pub (d:=44) rfl rfl ?_
   refine zu rfl rfl rfl rfl rfl rfl rfl zN (by simp [hf1,hf2,hf3,hf4,hbl,hn1,hn2,hn3]) ?_;refine A0 aO ?_;refine CNQR ?_;refine A0 mO ?_;refine A0 (oFr fd_55_7 zb4) ?_;refine A0 (zg rfl rfl zaE) ?_
   refine zaN (rbin_ok h.nonce 8 (by decide)) rfl fn_130 ⟨(by first|exact zI rfl|exact zW rfl|exact zQ rfl rfl|exact zU rfl|exact zJ rfl|exact zak rfl rfl|exact zV rfl),(ze rfl),trivial⟩ rfl rfl rfl ?_
   refine aw_pub (d:=49) rfl rfl ?_;refine zu rfl rfl rfl rfl rfl rfl rfl zN (by simp [hf1,hf2,hf3,hf4,hbl,hn1,hn2,hn3]) ?_;refine A0 aO ?_;refine A0 aV ?_;refine CN ?_
   exact zad rfl rfl (zi rfl rfl (by have hE:hOk h=true:=decide_eq_true (by omega);unfold headBytes;rw [if_pos hE];unfold putHead;simp)) (zd rfl (decide_eq_true (by omega)).symm)
theorem rheadId_ok (h:Head):Tells P 55 [.val headT h] (.val idT (headId h)):=by
 refine zc Tryz.func55 rfl rfl rfl (fun ext w hext=>?_)
 refine zh (d:=0) rfl fact_head (fun hh=>?_)
 obtain ⟨hh1,hh2,hh3,hh4,hh5⟩:=hh
 refine CQR ?_;refine zj rfl rfl rfl rfl rfl ?_;refine zf zbJ rfl rfl rfl rfl ?_;refine CNQR ?_;refine A0 (oLs rfl rfl rfl zai) ?_;refine A0 (oCl (zcS (rputHead_ok h)) rfl fn_80 ⟨(ze rfl),trivial⟩) ?_
 refine A0 mX ?_;refine A0 (by first|exact z6 rfl rfl|exact zY rfl rfl) ?_;refine A0 (by first|exact z8 rfl rfl|exact z7 rfl rfl) ?_;refine A0 aV ?_;refine A0 aV ?_;refine CNQQR ?_;refine A0 mV ?_;refine A0 oN ?_
 refine CN ?_
 refine zo (p:=¬hOk h=true) rfl (by cases hOk h<;>rfl) (fun ht11=>?_) (fun ht11=>?_)
 ·
  refine CQR ?_;refine A0 (zaI rfl zbI zbJ rfl) ?_;refine za rfl rfl rfl rfl rfl (Lens.self _) zx rfl ?_;refine CN ?_
  exact zt rfl rfl rfl rfl zx (by unfold headId;rw [if_neg ht11]<;>rfl)
 ·
  refine CSQR ?_;refine A0 (zr (T:=u8T) (xs:=[_]) rfl zaA zN ⟨rfl,rfl,trivial⟩ rfl rfl) ?_;refine aw_lend (S:=bsl u8T) (d:=13) rfl ?_;refine A0 mV ?_;refine aw_lend (S:=bsl u8T) (d:=14) rfl ?_
  refine A0 (zr (T:=(bsl u8T)) (xs:=[_,_]) rfl zdF zdk ⟨rfl,rfl,rfl,rfl,trivial⟩ rfl rfl) ?_
  refine A0 (oCl (rof_ok [[5],headBytes h] (by unfold headBytes;split<;>simp [putHead,hh1,hh2,hh3,hh4,zcW,zT])) rfl fn_81 ⟨(ze rfl),trivial⟩) ?_;refine za rfl rfl rfl rfl rfl (Lens.self _) zx rfl ?_
  refine CN ?_
  exact zt rfl rfl rfl rfl zx (by unfold headId headBytes;rw [if_pos (Classical.not_not.1 ht11),if_pos (Classical.not_not.1 ht11)];simp)
end Go.Proofs.YtdeghaedeefooaaGreat
set_option maxRecDepth 20000
namespace Go.Proofs.YtdeghaedeefooaaGreat
open Go.Ab Go.RowKit
theorem mul_or {x:UInt64} {y:UInt8}:256*x+u64OfI (IntL.toI u8T y)=shl64 x 8|||u64OfI (IntL.toI u8T y):=by
  have hx:x.toNat<18446744073709551616:=x.toNat_lt
  have hy:y.toNat<256:=y.toNat_lt
  have e:(u64OfI (IntL.toI u8T y)).toNat=y.toNat:=by
    unfold u64OfI
    show (UInt64.ofNat (((y.toNat:Nat):Int)%18446744073709551616).toNat).toNat=y.toNat
    rw [UInt64.toNat_ofNat_of_lt' (by show _<18446744073709551616;omega)];omega
  apply UInt64.toNat_inj.1
  rw [UInt64.toNat_or,shl_n (by decide),e,UInt64.toNat_add,UInt64.toNat_mul,e,show (256:UInt64).toNat=256 from rfl]
  have e2:x.toNat*2^8%18446744073709551616=x.toNat%72057594037927936*2^8:=by omega
  rw [e2,or_sum (by omega)]
  omega
theorem rof32W_ok (b:Ab.Id):Tells P 147 [.val idT b] (.val wideT (of32W b)):=by
 refine zc Tryz.func147 rfl rfl rfl (fun ext w hext=>?_)
 refine zh (d:=0) rfl zeK (fun hb=>?_)
 refine CQR ?_;refine zj rfl rfl rfl rfl rfl ?_;refine zf zan rfl rfl rfl rfl ?_;refine CNQR ?_;refine zf zan rfl rfl rfl rfl ?_;refine CNQQR ?_;refine A0 aV ?_;refine CNB ?_
 refine Lp (ι:=Nat) 3 (fun (k:Nat)=>((((Fr.none).set 1 (.ptr 0 0)).set 2 (.ptr 1 0)).set 3 (.ptr 2 0)).set 4 (.val i64T (k:Int))) (fun (k:Nat)=>(((Hp.none).set 0 (.box 49 idT b)).set 1 (.box 52 wideT zWide)).set 2 (.box 52 wideT (of32N b k))) (fun (k:Nat)=>k≤32) (fun (k:Nat)=>32-k) (0) (Nat.zero_le _) ?_
 intro k hinv
 refine CQQR ?_;refine A0 mV ?_;refine A0 zC ?_;refine CN ?_
 refine Cf (p:=k<32) (fun ht7=>?_) (fun ht7=>?_)
 ·
  refine CSQBQR ?_;refine A0 mV ?_;refine A0 (g_quo rfl rfl rfl (by first|omega|assumption) (by first|decide|omega) rfl) ?_;refine A0 zap ?_;refine A0 aV ?_;refine CN ?_
  refine zB [some 1,some 1,some 1,some 1,some 1,some 1,some 1,some 1,some 1,some 1,some 1,none] mixed (by decide +kernel) ?_;refine X0 mV ?_;refine X0 mV ?_
  refine X0 (zq (i:=3-k/8) rfl rfl rfl (by first|omega|rfl) zal (by omega)) ?_;refine X0 (zp rfl rfl rfl (Lens.elem (i:=3-k/8) (by omega) u64T) zaE) ?_;refine X0 (g_mul64 rfl rfl rfl) ?_;refine X0 mV ?_
  refine X0 (zq (i:=k) rfl rfl rfl (by first|omega|rfl) zbI (by omega)) ?_;refine X0 (zp rfl rfl rfl (Lens.elem (i:=k) (by omega) u8T) ty_5) ?_;refine X0 (zcx rfl (ui_50) (us_5) rfl) ?_
  refine X0 (zcD rfl rfl rfl) ?_;refine X0 (zq (i:=3-k/8) rfl rfl rfl (by first|omega|rfl) zal (by omega)) ?_
  refine XK.e (x:=.idk) (fun fr' hfr kk H=>by exact za rfl rfl rfl ((hfr 23 (by decide +kernel)).trans rfl) rfl (Lens.elem (i:=3-k/8) (by omega) u64T) zaE ((hfr 22 (by decide +kernel)).trans rfl) (zG H)) ?_
  refine XK.nil' ?_;refine CI ?_;refine CR ?_;refine A0 mV ?_;refine A0 zs ?_;refine A0 aV ?_;refine CN ?_;refine zz (n:=2) (y:=of32N b (k+1)) rfl (by unfold of32N;rw [zbM];unfold of32S;rw [←mul_or];rfl) ?_
  exact Nx (k+1) (by omega) (by omega)
 ·
  obtain rfl:k=32:=(by omega)
  refine CE ?_;refine CQR ?_;refine A0 (oLs rfl rfl rfl zk) ?_;refine za rfl rfl rfl rfl rfl (Lens.self _) zk rfl ?_;refine CN ?_
  exact zt rfl rfl rfl rfl zk (rfl)
end Go.Proofs.YtdeghaedeefooaaGreat
set_option maxRecDepth 20000
namespace Go.Proofs.YtdeghaedeefooaaGreat
open Go.Ab Go.RowKit
theorem search_spec {f:Int→Bool} (hm:∀i j:Nat,i≤j→f (i:Int)=true→f (j:Int)=true):∀(n lo hi:Nat),hi-lo=n→lo≤hi→(∀j:Nat,j<searchN f lo hi→lo≤j→f (j:Int)=false)∧(searchN f lo hi<hi→f ((searchN f lo hi:Nat):Int)=true)∧lo≤searchN f lo hi∧searchN f lo hi≤hi:=by
  intro n
  induction n using Nat.strongRecOn with
  | ind n ih =>
    intro lo hi hn hle
    by_cases h:lo<hi
    · by_cases c:f (((lo+hi)/2:Nat):Int)=true
      · rw [search_yes h c]
        obtain ⟨h1,h2,h3,h4⟩:=ih ((lo+hi)/2-lo) (by omega) lo ((lo+hi)/2) rfl (by omega)
        refine ⟨h1,fun _=>?_,h3,by omega⟩
        by_cases d:searchN f lo ((lo+hi)/2)<(lo+hi)/2
        · exact h2 d
        · rw [show searchN f lo ((lo+hi)/2)=(lo+hi)/2 by omega];exact c
      · rw [search_no h c]
        obtain ⟨h1,h2,h3,h4⟩:=ih (hi-((lo+hi)/2+1)) (by omega) ((lo+hi)/2+1) hi rfl (by omega)
        refine ⟨fun j hj hlo=>?_,h2,by omega,h4⟩
        by_cases d:(lo+hi)/2+1≤j
        · exact h1 j hj d
        · cases e:f (j:Int) with
          | false=>rfl
          | true=>exact absurd (hm j _ (by omega) e) c
    · have e:searchN f lo hi=lo:=by rw [searchN,dif_neg h]
      rw [e]
      exact ⟨fun j hj hlo=>by omega,fun hh=>absurd hh h,Nat.le_refl _,hle⟩
def lastLv (x t:Wide):Nat→Int
  | 0=>-1
  | k+1=>if cmpW x (downW t k)≤0 then k else lastLv x t k
theorem levelF_mono {x t:Wide} (hx:x.length=4) (ht:t.length=4) (i j:Nat) (hij:i≤j) (h:levelF x t (i:Int)=true):levelF x t (j:Int)=true:=by
  unfold levelF at *
  rw [decide_eq_true_eq] at *
  by_cases hj:j<256
  · rw [cmpW_n hx (zcI ht),nW_down ht (by omega)] at h
    rw [cmpW_n hx (zcI ht),nW_down ht hj]
    have hd:nW t/2^j≤nW t/2^i:=Nat.div_le_div_left (Nat.pow_le_pow_right (by decide) hij) (Nat.two_pow_pos i)
    have h1:nW t/2^i<nW x:=by
      by_cases c:nW x<nW t/2^i
      · rw [if_pos c] at h;exact absurd h (by decide)
      · rw [if_neg c] at h
        by_cases d:nW t/2^i<nW x
        · exact d
        · rw [if_neg d] at h;exact absurd h (by decide)
    rw [if_neg (by omega),if_pos (by omega)];decide
  · have hz:downW t (j:Int)=zWide:=by unfold downW;rw [if_neg (by omega),if_pos (by omega)]
    rw [hz,cmpW_n hx rfl]
    rw [cmpW_n hx (zcI ht)] at h
    have hz0:nW zWide=0:=rfl
    rw [hz0]
    have h1:nW (downW t (i:Int))<nW x:=by
      by_cases c:nW x<nW (downW t (i:Int))
      · rw [if_pos c] at h;exact absurd h (by decide)
      · rw [if_neg c] at h
        by_cases d:nW (downW t (i:Int))<nW x
        · exact d
        · rw [if_neg d] at h;exact absurd h (by decide)
    rw [if_neg (by omega),if_pos (by omega)];decide
theorem lastLv_s {x t:Wide} {s:Nat} (h1:∀j:Nat,j<s→levelF x t (j:Int)=false) (h2:∀j:Nat,s≤j→j<32→levelF x t (j:Int)=true):∀k,k≤32→lastLv x t k=(min k s:Nat)-1
  | 0,_=>by rw [lastLv];omega
  | k+1,hk=>by
    rw [lastLv,lastLv_s h1 h2 k (by omega)]
    by_cases c:k<s
    · have:=h1 k c
      unfold levelF at this
      rw [decide_eq_false_iff_not] at this
      rw [if_pos (by omega)];omega
    · have:=h2 k (by omega) (by omega)
      unfold levelF at this
      rw [decide_eq_true_eq] at this
      rw [if_neg (by omega)];omega
theorem lastLv_all {id:Ab.Id} {t:Wide} (hx:(of32W id).length=4) (ht:t.length=4):lastLv (of32W id) t 32=levelW id t:=by
  obtain ⟨h1,h2,_,h4⟩:=search_spec (f:=levelF (of32W id) t) (fun i j=>levelF_mono hx ht i j) 32 0 32 rfl (by omega)
  rw [lastLv_s (s:=searchN (levelF (of32W id) t) 0 32) (fun j hj=>h1 j hj (by omega)) (fun j hj hj2=>levelF_mono hx ht _ j hj (h2 (by omega))) 32 (Nat.le_refl _)]
  unfold levelW;omega
theorem of32_len {b:Ab.Id}:(of32W b).length=4:=by
  have h:∀k,(of32N b k).length=4:=fun k=>by
    induction k with
    | zero=>rfl
    | succ k ih=>unfold of32N;rw [zbM];unfold of32S;rw [List.length_set];exact ih
  exact h 32
theorem rlevelW_ok (id:Ab.Id) (t:Wide):Tells P 90 [.val idT id,.val wideT t] (.val i64T (levelW id t)):=by
 refine zc Tryz.func90 rfl rfl rfl (fun ext w hext=>?_)
 refine zh (d:=1) rfl zaC (fun ht=>?_)
 refine CQR ?_;refine zj rfl rfl rfl rfl rfl ?_;refine zj rfl rfl rfl rfl rfl ?_;refine A0 aV ?_;refine CNQR ?_;refine A0 aV ?_;refine CNQQR ?_;refine A0 aV ?_;refine CNB ?_
 refine Lp (ι:=Nat) 2 (fun (k:Nat)=>((((Fr.none).set 2 (.ptr 0 0)).set 3 (.ptr 1 0)).set 5 (.val i64T (lastLv (of32W id) t k))).set 6 (.val i64T (k:Int))) (fun (k:Nat)=>((Hp.none).set 0 (.box 49 idT id)).set 1 (.box 52 wideT t)) (fun (k:Nat)=>k≤32) (fun (k:Nat)=>32-k) (0) (Nat.zero_le _) ?_
 intro k hinv
 refine CQQR ?_;refine A0 mV ?_;refine A0 o_leq ?_;refine CN ?_
 refine Cf (p:=k≤31) (fun ht8=>?_) (fun ht8=>?_)
 ·
  refine CS ?_;refine CQ ?_;refine CB ?_;refine CQ ?_;refine CD mixed ?_;refine G0 (oLs rfl rfl rfl zx) ?_;refine G0 (oCl (rof32W_ok id) rfl fn_147 ⟨(ze rfl),trivial⟩) ?_;refine G0 (oLs rfl rfl rfl zk) ?_;refine G0 mV ?_
  refine G0 (oCl (rdownW_ok t k) rfl fn_148 ⟨(ze rfl),(ze rfl),trivial⟩) ?_;refine G0 (oCl (rcmpW_ok (of32W id) (downW t k)) rfl fn_146 ⟨(ze rfl),(ze rfl),trivial⟩) ?_;refine G0 o_leq ?_;refine GK.nil ?_
  refine Cf (p:=cmpW (of32W id) (downW t k)≤0) (fun ht17=>?_) (fun ht17=>?_)
  ·
   refine CR ?_;refine A0 mV ?_;refine A0 aV ?_;refine CNIR ?_;refine A0 mV ?_;refine A0 zs ?_;refine A0 aV ?_;refine CN ?_;refine zl (d:=5) (y:=lastLv (of32W id) t (k+1)) rfl (by rw [lastLv,if_pos ht17]) ?_
   exact Nx (k+1) (by omega) (by omega)
  ·
   refine CSIR ?_;refine A0 mV ?_;refine A0 zs ?_;refine A0 aV ?_;refine CN ?_;refine zl (d:=5) (y:=lastLv (of32W id) t (k+1)) rfl (by rw [lastLv,if_neg ht17]) ?_
   exact Nx (k+1) (by omega) (by omega)
 ·
  obtain rfl:k=32:=(by omega)
  refine CE ?_;refine CQR ?_;refine A0 mV ?_;refine A0 aV ?_;refine CN ?_
  exact zb rfl rfl (zd rfl (lastLv_all of32_len ht))
end Go.Proofs.YtdeghaedeefooaaGreat
set_option maxRecDepth 20000
namespace Go.Proofs.YtdeghaedeefooaaGreat
open Go.Ab Go.RowKit
theorem rheadLevel_ok (h:Head):Tells P 61 [.val headT h] (.val i64T (headLevel h)):=by
 refine zc Tryz.func61 rfl rfl rfl (fun ext w hext=>?_)
 refine CQR ?_;refine zj rfl rfl rfl rfl rfl ?_;refine A0 aV ?_;refine CNQR ?_;refine A0 (oLs rfl rfl rfl zai) ?_;refine A0 (oCl (zcS (rputHead_ok h)) rfl fn_80 ⟨(ze rfl),trivial⟩) ?_;refine A0 mX ?_
 refine A0 (by first|exact z6 rfl rfl|exact zY rfl rfl) ?_;refine A0 (by first|exact z8 rfl rfl|exact z7 rfl rfl) ?_;refine A0 aV ?_;refine A0 aV ?_;refine CNQR ?_;refine A0 (oFp zby) ?_
 refine A0 (oLb zam zae) ?_;refine A0 (oCl (rtarget_ok h.bits) rfl fn_83 ⟨(ze rfl),trivial⟩) ?_;refine A0 mX ?_;refine A0 (by first|exact z6 rfl rfl|exact zY rfl rfl) ?_
 refine A0 (by first|exact z8 rfl rfl|exact z7 rfl rfl) ?_;refine zf zan rfl rfl rfl rfl ?_;refine za rfl rfl rfl rfl rfl (Lens.self _) zk rfl ?_;refine A0 aV ?_;refine CNQQR ?_;refine A0 mV ?_
 refine A0 oN ?_;refine A0 mV ?_
 refine zaw (d:=20) (p:=¬hOk h=true) rfl (by cases hOk h<;>rfl) (fun g20=>?_) (fun g20=>?_)
 ·
  refine A2 ?_;refine A2 ?_;refine A0 oK ?_;refine CN ?_;refine Ct ?_;refine CQR ?_;refine A0 aV ?_;refine CN ?_
  exact zb rfl rfl (zd rfl (by unfold headLevel;rw [if_neg (fun hc=>g20 hc.2)]))
 ·
  refine A1 mV ?_;refine A1 oN ?_;refine A0 oK ?_;refine CN ?_
  refine zo (p:=¬tgtOk h.bits=true) rfl (by cases tgtOk h.bits<;>rfl) (fun ht23=>?_) (fun ht23=>?_)
  ·
   refine CQR ?_;refine A0 aV ?_;refine CN ?_
   exact zb rfl rfl (zd rfl (by unfold headLevel;rw [if_neg (fun hc=>ht23 hc.1)]))
  ·
   refine CSQQR ?_;refine A0 (oFp za0) ?_;refine A0 (oLb zM ty_3) ?_;refine A0 zbb ?_;refine CN ?_
   refine Cf (p:=h.height=0) (fun ht26=>?_) (fun ht26=>?_)
   ·
    refine CQR ?_;refine A0 aV ?_;refine CN ?_
    exact zb rfl rfl (zd rfl (by unfold headLevel;rw [if_pos ⟨Classical.not_not.1 ht23,Classical.not_not.1 g20⟩,if_pos ht26]))
   ·
    refine CS ?_;refine CQ ?_;refine CD mixed ?_;refine G0 (oLs rfl rfl rfl zai) ?_;refine G0 (oCl (rheadId_ok h) rfl fn_55 ⟨(ze rfl),trivial⟩) ?_;refine G0 (oLs rfl rfl rfl zk) ?_
    refine G0 (oCl (rlevelW_ok (headId h) (tgtW h.bits)) rfl fn_90 ⟨(ze rfl),(ze rfl),trivial⟩) ?_;refine G0 aV ?_;refine GK.nil ?_
    exact zb rfl rfl (zd rfl (by unfold headLevel;rw [if_pos ⟨Classical.not_not.1 ht23,Classical.not_not.1 g20⟩,if_neg ht26]))
theorem may_eq {h:Head}:decide (0≤headLevel h)=headMay h:=by
  have h2:-1≤headLevel h:=by
    unfold headLevel
    split
    · split
      · decide
      · unfold levelW;omega
    · omega
  unfold headMay
  by_cases c:headLevel h = -1
  · rw [c];rfl
  · rw [decide_eq_true (by omega:0≤headLevel h),decide_eq_false c];rfl
theorem rheadMay_ok (h:Head):Tells P 60 [.val headT h] (.val boolT (headMay h)):=by
 refine zc Tryz.func60 rfl rfl rfl (fun ext w hext=>?_)
 refine CQR ?_;refine zj rfl rfl rfl rfl rfl ?_;refine A0 aV ?_;refine CNQR ?_;refine A0 (oLs rfl rfl rfl zai) ?_;refine A0 (oCl (rheadLevel_ok h) rfl fn_61 ⟨(ze rfl),trivial⟩) ?_;refine A0 zbf ?_;refine A0 aV ?_
 refine CN ?_
 exact zb rfl rfl (zd rfl may_eq)
end Go.Proofs.YtdeghaedeefooaaGreat
set_option maxRecDepth 20000
namespace Go.Proofs.YtdeghaedeefooaaGreat
open Go.Ab Go.RowKit
def smallTrial (x:Trial):Prop:=smallTip x.t∧x.b.t.length≤4000000000000
def sizeE (x:Trial):Int:=if 48≤x.b.h.height then 3 else 0
def prevE (x:Trial):Int:=if ¬behindH x.b.h=behindH x.want then 5 else 0
def linkE (x:Trial):Int:=if ¬x.b.h.links=x.want.links∨¬x.b.l=linksT x.t then 6 else 0
def rootE (x:Trial):Int:=if ¬x.b.h=x.want then 7 else 0
def workE (x:Trial):Int:=if ¬headMay x.b.h=true then 4 else 0
def coinsE (x:Trial):Int:=(applyOf x.t.c x.b.t).2
def coinsX (x:Trial):Trial:={ x with c:=(applyOf x.t.c x.b.t).1 }
def askOf (f:Option Nat) (x:Trial):Int:=if f=some 121 then sizeE x else if f=some 163 then prevE x else if f=some 164 then linkE x else if f=some 165 then rootE x else if f=some 166 then workE x else coinsE x
def askX (f:Option Nat) (x:Trial):Trial:=if f=some 122 then coinsX x else x
def firstE:List (Option Nat)→Trial→Int
  | [],_=>0
  | f::l,x=>if askOf f x=0 then firstE l (askX f x) else askOf f x
def firstX:List (Option Nat)→Trial→Trial
  | [],x=>x
  | f::l,x=>if askOf f x=0 then firstX l (askX f x) else askX f x
def Asks (f:Option Nat):Prop:=f=some 121∨f=some 163∨f=some 164∨f=some 165∨f=some 166∨f=some 122
theorem zbm {l:List (Option Nat)} {k:Nat} {f:Option Nat} {x:Trial} (h:l[k]?=some f) (h0:askOf f x=0):firstE (l.drop k) x=firstE (l.drop (k+1)) (askX f x)∧firstX (l.drop k) x=firstX (l.drop (k+1)) (askX f x):=by
  obtain ⟨hk,rfl⟩:=List.getElem?_eq_some_iff.1 h
  rw [List.drop_eq_getElem_cons hk,firstE,firstX,if_pos h0,if_pos h0]
  exact ⟨rfl,rfl⟩
theorem zaF {l:List (Option Nat)} {k:Nat} {f:Option Nat} {x:Trial} (h:l[k]?=some f) (h0:¬askOf f x=0):firstE (l.drop k) x=askOf f x∧firstX (l.drop k) x=askX f x:=by
  obtain ⟨hk,rfl⟩:=List.getElem?_eq_some_iff.1 h
  rw [List.drop_eq_getElem_cons hk,firstE,firstX,if_neg h0,if_neg h0]
  exact ⟨rfl,rfl⟩
theorem first_end {l:List (Option Nat)} {k:Nat} {x:Trial} (h:l.length≤k):firstE (l.drop k) x=0∧firstX (l.drop k) x=x:=by
  rw [List.drop_of_length_le h];exact ⟨rfl,rfl⟩
theorem zbP {f:Option Nat} {x:Trial} (h:smallTrial x):smallTrial (askX f x):=by unfold askX;split<;>exact h
theorem ask_size (x:Trial):Tells P 121 [.rptr trialT x] (.val i64T (sizeE x)):=by
 refine zc Tryz.func121 rfl rfl rfl (fun ext w hext=>?_)
 refine CQR ?_;refine A0 aV ?_;refine CNQQR ?_;refine A0 mR ?_;refine A0 (zbG rfl rfl) ?_;refine A0 (oFr zds zcN) ?_;refine A0 (oFr zbc zax) ?_;refine A0 (oFr za0 zM) ?_
 refine A0 (zg rfl rfl ty_3) ?_;refine A0 zbf ?_;refine CN ?_
 refine Cf (p:=48≤x.b.h.height) (fun ht9=>?_) (fun ht9=>?_)
 ·
  refine CQR ?_;refine A0 aV ?_;refine CN ?_
  exact zb rfl rfl (zd rfl (by unfold sizeE;rw [if_pos (ht9)]))
 ·
  refine CSQR ?_;refine A0 aV ?_;refine CN ?_
  exact zb rfl rfl (zd rfl (by unfold sizeE;rw [if_neg (ht9)]))
theorem ask_prev (x:Trial):Tells P 163 [.rptr trialT x] (.val i64T (prevE x)):=by
 refine zc Tryz.func163 rfl rfl rfl (fun ext w hext=>?_)
 refine CQR ?_;refine A0 aV ?_;refine CNQ ?_;refine CQ ?_;refine CD mixed ?_;refine G0 mR ?_;refine G0 (zbG rfl rfl) ?_;refine G0 (oFr zds zcN) ?_;refine G0 (oFr zbc zax) ?_
 refine G0 (zg rfl rfl zai) ?_
 refine G0 (oCl (behindH_ok _) rfl fn_204 ⟨(by first|exact zI rfl|exact zW rfl|exact zQ rfl rfl|exact zU rfl|exact zJ rfl|exact zak rfl rfl|exact zV rfl),trivial⟩) ?_;refine G0 mR ?_
 refine G0 (zbG rfl rfl) ?_;refine G0 (oFr fd_179_2 zdi) ?_;refine G0 (zg rfl rfl zai) ?_
 refine G0 (oCl (behindH_ok _) rfl fn_204 ⟨(by first|exact zI rfl|exact zW rfl|exact zQ rfl rfl|exact zU rfl|exact zJ rfl|exact zak rfl rfl|exact zV rfl),trivial⟩) ?_
 refine G0 (zdc rfl rfl rfl (eqt_55)) ?_;refine GK.nil ?_
 refine zo (p:=¬behindH x.b.h=behindH x.want) rfl (by simp) (fun ht14=>?_) (fun ht14=>?_)
 ·
  refine CQR ?_;refine A0 aV ?_;refine CN ?_
  exact zb rfl rfl (zd rfl (by unfold prevE;rw [if_pos (ht14)]))
 ·
  refine CSQR ?_;refine A0 aV ?_;refine CN ?_
  exact zb rfl rfl (zd rfl (by unfold prevE;rw [if_neg (ht14)]))
theorem ask_link (x:Trial) (hx:smallTrial x):Tells P 164 [.rptr trialT x] (.val i64T (linkE x)):=by
 refine zc Tryz.func164 rfl rfl rfl (fun ext w hext=>?_)
 refine CQR ?_;refine A0 aV ?_;refine CNQ ?_;refine CQ ?_;refine CD mixed ?_;refine G0 mR ?_;refine G0 (zbG rfl rfl) ?_;refine G0 (oFr zds zcN) ?_;refine G0 (oFr zbc zax) ?_
 refine G0 (oFr zdP za8) ?_;refine G0 (zg rfl rfl zx) ?_;refine G0 mR ?_;refine G0 (zbG rfl rfl) ?_;refine G0 (oFr fd_179_2 zdi) ?_;refine G0 (oFr zdP za8) ?_
 refine G0 (zg rfl rfl zx) ?_;refine G0 (zdc rfl rfl rfl (zdd)) ?_
 refine zag (d:=14) (p:=¬x.b.h.links=x.want.links) rfl (by simp) (fun g14=>?_) (fun g14=>?_)
 ·
  refine G0 mV ?_;refine G2 ?_;refine G2 ?_;refine G2 ?_;refine G2 ?_;refine G2 ?_;refine G2 ?_;refine G2 ?_;refine G2 ?_;refine G2 ?_;refine G2 ?_;refine G2 ?_;refine G2 ?_;refine G0 oK ?_;refine GK.nil ?_;refine Ct ?_
  refine CQR ?_;refine A0 aV ?_;refine CN ?_
  exact zb rfl rfl (zd rfl (by unfold linkE;rw [if_pos (.inl g14)]))
 ·
  refine G0 mV ?_;refine G1 mR ?_;refine G1 (zbG rfl rfl) ?_;refine G1 (oFr zds zcN) ?_;refine G1 (oFr zeh zco) ?_;refine G1 (zg rfl rfl zbC) ?_;refine G1 mR ?_;refine G1 (zbG rfl rfl) ?_
  refine G1 (oFr fd_179_0 L_Trial_t) ?_;refine G1 (zg rfl rfl zbg) ?_
  refine G1 (oCl (zw (linksT_ok x.t)) rfl fn_124 ⟨(by first|exact zI rfl|exact zW rfl|exact zQ rfl rfl|exact zU rfl|exact zJ rfl|exact zak rfl rfl|exact zV rfl),trivial⟩) ?_
  refine G1 (oCl (equalId _ _) rfl fn_47 ⟨(by first|exact zI rfl|exact zW rfl|exact zQ rfl rfl|exact zU rfl|exact zJ rfl|exact zak rfl rfl|exact zV rfl),(ze rfl),trivial⟩) ?_
  refine G1 oN ?_;refine G0 oK ?_;refine GK.nil ?_
  refine zo (p:=¬x.b.l=linksT x.t) rfl (by simp) (fun ht28=>?_) (fun ht28=>?_)
  ·
   refine CQR ?_;refine A0 aV ?_;refine CN ?_
   exact zb rfl rfl (zd rfl (by unfold linkE;rw [if_pos (.inr ht28)]))
  ·
   refine CSQR ?_;refine A0 aV ?_;refine CN ?_
   exact zb rfl rfl (zd rfl (by unfold linkE;rw [if_neg (fun h=>h.elim g14 ht28)]))
theorem ask_root (x:Trial):Tells P 165 [.rptr trialT x] (.val i64T (rootE x)):=by
 refine zc Tryz.func165 rfl rfl rfl (fun ext w hext=>?_)
 refine CQR ?_;refine A0 aV ?_;refine CNQ ?_;refine CQ ?_;refine CD mixed ?_;refine G0 mR ?_;refine G0 (zbG rfl rfl) ?_;refine G0 (oFr zds zcN) ?_;refine G0 (oFr zbc zax) ?_
 refine G0 (zg rfl rfl zai) ?_;refine G0 mR ?_;refine G0 (zbG rfl rfl) ?_;refine G0 (oFr fd_179_2 zdi) ?_;refine G0 (zg rfl rfl zai) ?_;refine G0 (zdc rfl rfl rfl (eqt_55)) ?_;refine GK.nil ?_
 refine zo (p:=¬x.b.h=x.want) rfl (by simp) (fun ht12=>?_) (fun ht12=>?_)
 ·
  refine CQR ?_;refine A0 aV ?_;refine CN ?_
  exact zb rfl rfl (zd rfl (by unfold rootE;rw [if_pos (ht12)]))
 ·
  refine CSQR ?_;refine A0 aV ?_;refine CN ?_
  exact zb rfl rfl (zd rfl (by unfold rootE;rw [if_neg (ht12)]))
theorem ask_work (x:Trial):Tells P 166 [.rptr trialT x] (.val i64T (workE x)):=by
 refine zc Tryz.func166 rfl rfl rfl (fun ext w hext=>?_)
 refine CQR ?_;refine A0 aV ?_;refine CNQQR ?_;refine A0 mR ?_;refine A0 (zbG rfl rfl) ?_;refine A0 (oFr zds zcN) ?_;refine A0 (oFr zbc zax) ?_;refine A0 (zg rfl rfl zai) ?_
 refine A0 (oCl (headMay_ok _) rfl fn_72 ⟨(by first|exact zI rfl|exact zW rfl|exact zQ rfl rfl|exact zU rfl|exact zJ rfl|exact zak rfl rfl|exact zV rfl),trivial⟩) ?_;refine A0 oN ?_
 refine CN ?_
 refine zo (p:=¬headMay x.b.h=true) rfl (by simp) (fun ht9=>?_) (fun ht9=>?_)
 ·
  refine CQR ?_;refine A0 aV ?_;refine CN ?_
  exact zb rfl rfl (zd rfl (by unfold workE;rw [if_pos (ht9)]))
 ·
  refine CSQR ?_;refine A0 aV ?_;refine CN ?_
  exact zb rfl rfl (zd rfl (by unfold workE;rw [if_neg (ht9)]))
theorem ask_coins (x:Trial) (hx:smallTrial x):TellsM P 122 (.box 179 trialT x) [.ptr 0 0] (.val i64T (coinsE x)) (.box 179 trialT (coinsX x)):=by
 refine fnm_of_aw trivial Tryz.func122 rfl rfl ⟨Nat.one_pos,trivial⟩ (fun ext pg w hext hgr=>?_)
 refine CQR ?_;refine A0 aV ?_;refine CNQ ?_;refine CD mixed ?_;refine G0 mP ?_;refine G0 (g_nc rfl rfl) ?_;refine G0 (oFp fd_179_0) ?_;refine G0 (oFp fd_79_2) ?_;refine G0 (oLb (L_Trial_t.comp L_Tip_c) ty_77) ?_;refine G0 mP ?_
 refine G0 (g_nc rfl rfl) ?_;refine G0 (oFp zds) ?_;refine G0 (oFp zeg) ?_;refine G0 (oLb (zcN.comp zcn) ty_73) ?_
 refine G0 (oCl (zcS (apply_ok x.t.c x.b.t (by have:=hx.1.2.2;omega))) rfl fn_174 ⟨(ze rfl),(ze rfl),trivial⟩) ?_;refine G0 mX ?_;refine G0 (by first|exact z6 rfl rfl|exact zY rfl rfl) ?_
 refine G0 (by first|exact z8 rfl rfl|exact z7 rfl rfl) ?_;refine G0 aV ?_;refine G0 aV ?_;refine GK.nil ?_;refine CQR ?_;refine A0 mP ?_;refine A0 mV ?_;refine A0 (g_nc rfl rfl) ?_;refine A0 (oFp fd_179_3) ?_
 refine za rfl rfl rfl rfl rfl L_Trial_c ty_77 rfl ?_;refine CNQR ?_;refine A0 mV ?_;refine A0 aV ?_;refine CN ?_
 exact zdu rfl rfl rfl rfl rfl (zbn rfl rfl) (zef (zbn (x:=coinsX x) rfl rfl) rfl rfl)
theorem first_ok (x0:Trial) (l:List (Option Nat)) (hx0:smallTrial x0) (hl:∀f∈l,Asks f):TellsM P 120 (.box 179 trialT x0) [.ptr 0 0,.val (bsl fnoT) l] (.val i64T (firstE l x0)) (.box 179 trialT (firstX l x0)):=by
 refine fnm_of_aw trivial Tryz.func120 rfl rfl ⟨Nat.one_pos,⟨trivial,trivial⟩⟩ (fun ext pg w hext hgr=>?_)
 refine zh (d:=1) rfl zn (fun hsl1=>?_)
 refine CQR ?_;refine A0 aV ?_;refine CNQQR ?_;refine A0 mV ?_;refine A0 (zA rfl rfl isl_213) ?_;refine A0 mV ?_;refine CNB ?_
 refine Lp (ι:=Nat×Trial) 1 (fun (i:Nat×Trial)=>match i with|(k,x)=>((((Fr.none).set 0 (.ptr 0 0)).set 8 (.val (bsl fnoT) l)).set 9 (.val i64T (l.length:Int))).set 10 (.val i64T (k:Int))) (fun (i:Nat×Trial)=>match i with|(k,x)=>(Hp.none).set 0 (.box 179 trialT x)) (fun (i:Nat×Trial)=>match i with|(k,x)=>k≤l.length∧smallTrial x∧firstE l x0=firstE (l.drop k) x∧firstX l x0=firstX (l.drop k) x) (fun (i:Nat×Trial)=>match i with|(k,x)=>l.length-k) ((0,x0)) (⟨Nat.zero_le _,hx0,rfl,rfl⟩) ?_
 intro ⟨k,x⟩ hinv
 dsimp only at hinv
 refine CQR ?_;refine A0 zC ?_;refine CNQ ?_
 refine Cf (p:=k<l.length) (fun ht11=>?_) (fun ht11=>?_)
 ·
  obtain ⟨f,hf⟩:∃f,l[k]?=some f:=⟨_,List.getElem?_eq_getElem ht11⟩
  have hask:=hl f (List.mem_of_getElem? hf)
  rcases hask with he|he|he|he|he|he
  ·
   refine CSQBQR ?_;refine A0 (zaq rfl rfl rfl sl_213 (by assumption)) ?_;refine A0 (zg rfl rfl ty_181) ?_;refine A0 aX ?_;refine CNQR ?_;refine A0 mX ?_;refine zl (d:=14) rfl he ?_
   refine zdv (d:=14) (f:=121) rfl ?_;refine A0 mP ?_
   refine A0 (zdl (As:=[_]) (Cs:=[]) (ask_size x) rfl rfl fn_121 ⟨(by first|exact zeT rfl rfl (Lens.self _)|exact zed rfl rfl),trivial⟩ (by intro n hn;cases hn) trivial rfl) ?_;refine A0 aX ?_;refine CNQR ?_
   refine A0 mX ?_;refine A0 zaz ?_;refine CN ?_
   refine zo (p:=¬askOf f x=0) rfl (by simp [askOf,he,IntL.toI]) (fun ht18=>?_) (fun ht18=>?_)
   ·
    refine CQR ?_;refine A0 mX ?_;refine A0 aX ?_;refine CN ?_;refine zz (n:=0) (y:=askX f x) rfl (by rw [he];rfl) ?_
    exact zdu rfl rfl rfl rfl rfl (zbn rfl (hinv.2.2.2.trans (zaF hf ht18).2).symm) (zef (zbn rfl (hinv.2.2.2.trans (zaF hf ht18).2).symm) rfl (by rw [hinv.2.2.1,(zaF hf ht18).1,he];rfl))
   ·
    refine CSIR ?_;refine A0 zs ?_;refine A0 mV ?_;refine CN ?_;refine zz (n:=0) (y:=askX f x) rfl (by rw [he];rfl) ?_
    exact Nx ((k+1,askX f x)) (⟨by omega,zbP hinv.2.1,hinv.2.2.1.trans (zbm hf (Classical.not_not.1 ht18)).1,hinv.2.2.2.trans (zbm hf (Classical.not_not.1 ht18)).2⟩) (by show l.length-(k+1)<l.length-k;omega)
  ·
   refine CSQBQR ?_;refine A0 (zaq rfl rfl rfl sl_213 (by assumption)) ?_;refine A0 (zg rfl rfl ty_181) ?_;refine A0 aX ?_;refine CNQR ?_;refine A0 mX ?_;refine zl (d:=14) rfl he ?_
   refine zdv (d:=14) (f:=163) rfl ?_;refine A0 mP ?_
   refine A0 (zdl (As:=[_]) (Cs:=[]) (ask_prev x) rfl rfl fn_163 ⟨(by first|exact zeT rfl rfl (Lens.self _)|exact zed rfl rfl),trivial⟩ (by intro n hn;cases hn) trivial rfl) ?_;refine A0 aX ?_;refine CNQR ?_
   refine A0 mX ?_;refine A0 zaz ?_;refine CN ?_
   refine zo (p:=¬askOf f x=0) rfl (by simp [askOf,he,IntL.toI]) (fun ht18=>?_) (fun ht18=>?_)
   ·
    refine CQR ?_;refine A0 mX ?_;refine A0 aX ?_;refine CN ?_;refine zz (n:=0) (y:=askX f x) rfl (by rw [he];rfl) ?_
    exact zdu rfl rfl rfl rfl rfl (zbn rfl (hinv.2.2.2.trans (zaF hf ht18).2).symm) (zef (zbn rfl (hinv.2.2.2.trans (zaF hf ht18).2).symm) rfl (by rw [hinv.2.2.1,(zaF hf ht18).1,he];rfl))
   ·
    refine CSIR ?_;refine A0 zs ?_;refine A0 mV ?_;refine CN ?_;refine zz (n:=0) (y:=askX f x) rfl (by rw [he];rfl) ?_
    exact Nx ((k+1,askX f x)) (⟨by omega,zbP hinv.2.1,hinv.2.2.1.trans (zbm hf (Classical.not_not.1 ht18)).1,hinv.2.2.2.trans (zbm hf (Classical.not_not.1 ht18)).2⟩) (by show l.length-(k+1)<l.length-k;omega)
  ·
   refine CSQBQR ?_;refine A0 (zaq rfl rfl rfl sl_213 (by assumption)) ?_;refine A0 (zg rfl rfl ty_181) ?_;refine A0 aX ?_;refine CNQR ?_;refine A0 mX ?_;refine zl (d:=14) rfl he ?_
   refine zdv (d:=14) (f:=164) rfl ?_;refine A0 mP ?_
   refine A0 (zdl (As:=[_]) (Cs:=[]) (ask_link x hinv.2.1) rfl rfl fn_164 ⟨(by first|exact zeT rfl rfl (Lens.self _)|exact zed rfl rfl),trivial⟩ (by intro n hn;cases hn) trivial rfl) ?_;refine A0 aX ?_;refine CNQR ?_
   refine A0 mX ?_;refine A0 zaz ?_;refine CN ?_
   refine zo (p:=¬askOf f x=0) rfl (by simp [askOf,he,IntL.toI]) (fun ht18=>?_) (fun ht18=>?_)
   ·
    refine CQR ?_;refine A0 mX ?_;refine A0 aX ?_;refine CN ?_;refine zz (n:=0) (y:=askX f x) rfl (by rw [he];rfl) ?_
    exact zdu rfl rfl rfl rfl rfl (zbn rfl (hinv.2.2.2.trans (zaF hf ht18).2).symm) (zef (zbn rfl (hinv.2.2.2.trans (zaF hf ht18).2).symm) rfl (by rw [hinv.2.2.1,(zaF hf ht18).1,he];rfl))
   ·
    refine CSIR ?_;refine A0 zs ?_;refine A0 mV ?_;refine CN ?_;refine zz (n:=0) (y:=askX f x) rfl (by rw [he];rfl) ?_
    exact Nx ((k+1,askX f x)) (⟨by omega,zbP hinv.2.1,hinv.2.2.1.trans (zbm hf (Classical.not_not.1 ht18)).1,hinv.2.2.2.trans (zbm hf (Classical.not_not.1 ht18)).2⟩) (by show l.length-(k+1)<l.length-k;omega)
  ·
   refine CSQBQR ?_;refine A0 (zaq rfl rfl rfl sl_213 (by assumption)) ?_;refine A0 (zg rfl rfl ty_181) ?_;refine A0 aX ?_;refine CNQR ?_;refine A0 mX ?_;refine zl (d:=14) rfl he ?_
   refine zdv (d:=14) (f:=165) rfl ?_;refine A0 mP ?_
   refine A0 (zdl (As:=[_]) (Cs:=[]) (ask_root x) rfl rfl fn_165 ⟨(by first|exact zeT rfl rfl (Lens.self _)|exact zed rfl rfl),trivial⟩ (by intro n hn;cases hn) trivial rfl) ?_;refine A0 aX ?_;refine CNQR ?_
   refine A0 mX ?_;refine A0 zaz ?_;refine CN ?_
   refine zo (p:=¬askOf f x=0) rfl (by simp [askOf,he,IntL.toI]) (fun ht18=>?_) (fun ht18=>?_)
   ·
    refine CQR ?_;refine A0 mX ?_;refine A0 aX ?_;refine CN ?_;refine zz (n:=0) (y:=askX f x) rfl (by rw [he];rfl) ?_
    exact zdu rfl rfl rfl rfl rfl (zbn rfl (hinv.2.2.2.trans (zaF hf ht18).2).symm) (zef (zbn rfl (hinv.2.2.2.trans (zaF hf ht18).2).symm) rfl (by rw [hinv.2.2.1,(zaF hf ht18).1,he];rfl))
   ·
    refine CSIR ?_;refine A0 zs ?_;refine A0 mV ?_;refine CN ?_;refine zz (n:=0) (y:=askX f x) rfl (by rw [he];rfl) ?_
    exact Nx ((k+1,askX f x)) (⟨by omega,zbP hinv.2.1,hinv.2.2.1.trans (zbm hf (Classical.not_not.1 ht18)).1,hinv.2.2.2.trans (zbm hf (Classical.not_not.1 ht18)).2⟩) (by show l.length-(k+1)<l.length-k;omega)
  ·
   refine CSQBQR ?_;refine A0 (zaq rfl rfl rfl sl_213 (by assumption)) ?_;refine A0 (zg rfl rfl ty_181) ?_;refine A0 aX ?_;refine CNQR ?_;refine A0 mX ?_;refine zl (d:=14) rfl he ?_
   refine zdv (d:=14) (f:=166) rfl ?_;refine A0 mP ?_
   refine A0 (zdl (As:=[_]) (Cs:=[]) (ask_work x) rfl rfl fn_166 ⟨(by first|exact zeT rfl rfl (Lens.self _)|exact zed rfl rfl),trivial⟩ (by intro n hn;cases hn) trivial rfl) ?_;refine A0 aX ?_;refine CNQR ?_
   refine A0 mX ?_;refine A0 zaz ?_;refine CN ?_
   refine zo (p:=¬askOf f x=0) rfl (by simp [askOf,he,IntL.toI]) (fun ht18=>?_) (fun ht18=>?_)
   ·
    refine CQR ?_;refine A0 mX ?_;refine A0 aX ?_;refine CN ?_;refine zz (n:=0) (y:=askX f x) rfl (by rw [he];rfl) ?_
    exact zdu rfl rfl rfl rfl rfl (zbn rfl (hinv.2.2.2.trans (zaF hf ht18).2).symm) (zef (zbn rfl (hinv.2.2.2.trans (zaF hf ht18).2).symm) rfl (by rw [hinv.2.2.1,(zaF hf ht18).1,he];rfl))
   ·
    refine CSIR ?_;refine A0 zs ?_;refine A0 mV ?_;refine CN ?_;refine zz (n:=0) (y:=askX f x) rfl (by rw [he];rfl) ?_
    exact Nx ((k+1,askX f x)) (⟨by omega,zbP hinv.2.1,hinv.2.2.1.trans (zbm hf (Classical.not_not.1 ht18)).1,hinv.2.2.2.trans (zbm hf (Classical.not_not.1 ht18)).2⟩) (by show l.length-(k+1)<l.length-k;omega)
  ·
   refine CSQBQR ?_;refine A0 (zaq rfl rfl rfl sl_213 (by assumption)) ?_;refine A0 (zg rfl rfl ty_181) ?_;refine A0 aX ?_;refine CNQR ?_;refine A0 mX ?_;refine zl (d:=14) rfl he ?_
   refine zdv (d:=14) (f:=122) rfl ?_;refine A0 mP ?_
   refine aw_calluv (ask_coins x hinv.2.1) rfl rfl fn_122 rfl trivial trivial rfl ⟨(by first|exact zbs rfl|exact zbr rfl|exact zaV rfl|exact zbv rfl|exact zbt rfl|exact zbu rfl|exact zbq rfl rfl (by decide)),trivial⟩ rfl rfl rfl ?_
   refine A0 aX ?_;refine CNQR ?_;refine A0 mX ?_;refine A0 zaz ?_;refine CN ?_
   refine zo (p:=¬askOf f x=0) rfl (by simp [askOf,he,IntL.toI]) (fun ht18=>?_) (fun ht18=>?_)
   ·
    refine CQR ?_;refine A0 mX ?_;refine A0 aX ?_;refine CN ?_;refine zz (n:=0) (y:=askX f x) rfl (by rw [he];rfl) ?_
    exact zdu rfl rfl rfl rfl rfl (zbn rfl (hinv.2.2.2.trans (zaF hf ht18).2).symm) (zef (zbn rfl (hinv.2.2.2.trans (zaF hf ht18).2).symm) rfl (by rw [hinv.2.2.1,(zaF hf ht18).1,he];rfl))
   ·
    refine CSIR ?_;refine A0 zs ?_;refine A0 mV ?_;refine CN ?_;refine zz (n:=0) (y:=askX f x) rfl (by rw [he];rfl) ?_
    exact Nx ((k+1,askX f x)) (⟨by omega,zbP hinv.2.1,hinv.2.2.1.trans (zbm hf (Classical.not_not.1 ht18)).1,hinv.2.2.2.trans (zbm hf (Classical.not_not.1 ht18)).2⟩) (by show l.length-(k+1)<l.length-k;omega)
 ·
  refine CE ?_;refine CQR ?_;refine A0 aV ?_;refine CN ?_
  exact zdu rfl rfl rfl rfl rfl (zbn rfl (hinv.2.2.2.trans (first_end (by omega)).2).symm) (zef (zbn rfl (hinv.2.2.2.trans (first_end (by omega)).2).symm) rfl (hinv.2.2.1.trans (first_end (by omega)).1).symm)
end Go.Proofs.YtdeghaedeefooaaGreat
set_option maxRecDepth 20000
namespace Go.Proofs.YtdeghaedeefooaaGreat
open Go.Ab Go.RowKit
def pushE (t:Tip) (b:Block):Int :=
  if 48≤b.h.height then 3 else if ¬behindH b.h=behindH (nextH t b.t b.h.nonce) then 5 else
  if ¬b.h.links=(nextH t b.t b.h.nonce).links∨¬b.l=linksT t then 6 else if ¬b.h=nextH t b.t b.h.nonce then 7 else
  if ¬headMay b.h=true then 4 else (applyOf t.c b.t).2
def pushT (t:Tip) (b:Block):Tip:=if pushE t b=0 then ⟨b,mmrAppend t.p (leafH b.h),(applyOf t.c b.t).1⟩ else t
def mineBE (t:Tip) (l:List Tx) (nonce:UInt64) (tries:Int):Int :=
  if 48≤(nextH t l nonce).height then 3 else if ¬(applyOf t.c l).2=0 then (applyOf t.c l).2 else if (mineOf (nextH t l nonce) tries).isSome=true then 0 else 4
def mineB (t:Tip) (l:List Tx) (nonce:UInt64) (tries:Int):Block :=
  if mineBE t l nonce tries=0 then ⟨(mineOf (nextH t l nonce) tries).getD (nextH t l nonce),linksT t,l⟩ else zBlock
theorem ask_two {x:Trial}:firstE [some 121,some 122] x=if 48≤x.b.h.height then 3 else (applyOf x.t.c x.b.t).2:=by
  show (if sizeE x=0 then (if coinsE x=0 then 0 else coinsE x) else sizeE x)=_
  unfold sizeE coinsE
  by_cases h:48≤x.b.h.height
  · rw [if_pos h,if_pos h,if_neg (by decide)]
  · rw [if_neg h,if_neg h,if_pos rfl];split<;>simp_all
theorem ite_stop {p:Prop} [Decidable p] {e r:Int} (he:e≠0):(if (if p then e else 0)=0 then r else (if p then e else 0))=if p then e else r:=by
  by_cases h:p
  · rw [if_pos h,if_pos h,if_neg he]
  · rw [if_neg h,if_neg h,if_pos rfl]
theorem ask_all {t:Tip} {b:Block} {c:List Coin}:firstE [some 121,some 163,some 164,some 165,some 166,some 122] ⟨t,b,nextH t b.t b.h.nonce,c⟩=pushE t b:=by
  obtain ⟨x,hx⟩:∃x:Trial,x=⟨t,b,nextH t b.t b.h.nonce,c⟩:=⟨_,rfl⟩
  have e:pushE t b=pushE x.t x.b:=by rw [hx]
  have hw:x.want=nextH x.t x.b.t x.b.h.nonce:=by rw [hx]
  rw [e,←hx]
  show (if sizeE x=0 then (if prevE x=0 then (if linkE x=0 then (if rootE x=0 then (if workE x=0 then (if coinsE x=0 then 0 else coinsE x) else workE x) else rootE x) else linkE x) else prevE x) else sizeE x)=_
  have hc:(if coinsE x=0 then 0 else coinsE x)=coinsE x:=by split<;>simp_all
  rw [hc]
  unfold sizeE prevE linkE rootE workE coinsE pushE
  rw [ite_stop (by decide),ite_stop (by decide),ite_stop (by decide),ite_stop (by decide),ite_stop (by decide),hw]
theorem ask_allX {t:Tip} {b:Block} {c:List Coin} (h:pushE t b=0):(firstX [some 121,some 163,some 164,some 165,some 166,some 122] ⟨t,b,nextH t b.t b.h.nonce,c⟩).c=(applyOf t.c b.t).1:=by
  obtain ⟨x,hx⟩:∃x:Trial,x=⟨t,b,nextH t b.t b.h.nonce,c⟩:=⟨_,rfl⟩
  have hw:x.want=nextH x.t x.b.t x.b.h.nonce:=by rw [hx]
  have h:pushE x.t x.b=0:=by rw [hx];exact h
  have e:(applyOf t.c b.t).1=(applyOf x.t.c x.b.t).1:=by rw [hx]
  rw [e,←hx]
  show (if sizeE x=0 then (if prevE x=0 then (if linkE x=0 then (if rootE x=0 then (if workE x=0 then (if coinsE x=0 then coinsX x else coinsX x) else x) else x) else x) else x) else x).c=_
  unfold pushE at h
  rw [←hw] at h
  by_cases h1:48≤x.b.h.height
  · rw [if_pos h1] at h;exact absurd h (by decide)
  rw [if_neg h1] at h
  by_cases h2:¬behindH x.b.h=behindH x.want
  · rw [if_pos h2] at h;exact absurd h (by decide)
  rw [if_neg h2] at h
  by_cases h3:¬x.b.h.links=x.want.links∨¬x.b.l=linksT x.t
  · rw [if_pos h3] at h;exact absurd h (by decide)
  rw [if_neg h3] at h
  by_cases h4:¬x.b.h=x.want
  · rw [if_pos h4] at h;exact absurd h (by decide)
  rw [if_neg h4] at h
  by_cases h5:¬headMay x.b.h=true
  · rw [if_pos h5] at h;exact absurd h (by decide)
  rw [if_neg h5] at h
  unfold sizeE prevE linkE rootE workE coinsE
  rw [if_neg h1,if_neg h2,if_neg h3,if_neg h4,if_neg h5,if_pos rfl,if_pos rfl,if_pos rfl,if_pos rfl,if_pos rfl,if_pos h]
  rfl
theorem asks_all:∀f∈([some 121,some 163,some 164,some 165,some 166,some 122]:List (Option Nat)),Asks f:=by intro f hf;simp at hf;unfold Asks;exact hf
theorem asks_two:∀f∈([some 121,some 122]:List (Option Nat)),Asks f:=by intro f hf;simp at hf;unfold Asks;rcases hf with h|h<;>simp [h]
theorem mineBE_err {t:Tip} {l:List Tx} {nonce:UInt64} {tries:Int} (h:¬(if 48≤(nextH t l nonce).height then 3 else (applyOf t.c l).2)=0):mineBE t l nonce tries=(if 48≤(nextH t l nonce).height then 3 else (applyOf t.c l).2):=by
  unfold mineBE
  split
  · rfl
  · rename_i h1;rw [if_neg h1] at h;rw [if_pos h]
theorem mineBE_work {t:Tip} {l:List Tx} {nonce:UInt64} {tries:Int} (h:(if 48≤(nextH t l nonce).height then 3 else (applyOf t.c l).2)=0) (h2:¬(mineOf (nextH t l nonce) tries).isSome=true):mineBE t l nonce tries=4:=by
  unfold mineBE
  split
  · rename_i h1;rw [if_pos h1] at h;exact absurd h (by decide)
  · rename_i h1;rw [if_neg h1] at h;simp only [h,h2,not_true_eq_false,if_false]
theorem mineBE_ok {t:Tip} {l:List Tx} {nonce:UInt64} {tries:Int} (h:(if 48≤(nextH t l nonce).height then 3 else (applyOf t.c l).2)=0) (h2:(mineOf (nextH t l nonce) tries).isSome=true):mineBE t l nonce tries=0:=by
  unfold mineBE
  split
  · rename_i h1;rw [if_pos h1] at h;exact absurd h (by decide)
  · rename_i h1;rw [if_neg h1] at h;simp only [h,h2,not_true_eq_false,if_false]
theorem push_ok (t:Tip) (b:Block) (ht:smallTip t) (hb:smallB b):Tells P 105 [.val tipT t,.val blockT b] (.tup2 (.val tipT (pushT t b)) (.val i64T (pushE t b))):=by
 have hbt:=hb.2.1
 have htp:=ht.2.1
 refine zc Tryz.func105 rfl rfl rfl (fun ext w hext=>?_)
 refine CQR ?_;refine zj rfl rfl rfl rfl rfl ?_;refine zj rfl rfl rfl rfl rfl ?_;refine zf zek rfl rfl rfl rfl ?_;refine A0 aV ?_;refine CNQ ?_
 refine zB [some 1,some 1,some 1,some 1,some 1,some 1,some 1,some 1,some 1,some 1,none,some 1] mixed (by decide +kernel) ?_;refine X0 (oLs rfl rfl rfl zbg) ?_;refine X0 (oLs rfl rfl rfl zbX) ?_
 refine X0 (oLs rfl rfl rfl zbg) ?_;refine X0 (oFp zeg) ?_;refine X0 (oLb zcn ty_73) ?_;refine X0 (oFp zbc) ?_;refine X0 (oFp fd_55_7) ?_;refine X0 (oLb (zax.comp zb4) zaE) ?_
 refine X0 (oCl (nextH_ok t b.t b.h.nonce (by omega) (by omega)) rfl fn_119 ⟨(ze rfl),(ze rfl),(ze rfl),trivial⟩) ?_
 refine X0 (zab rfl ze_179 bd_179 (.cons fd_179_0 L_Trial_t zbg rfl (.cons zds zcN zbX rfl (.cons fd_179_2 zdi zai rfl .nil))) rfl) ?_
 refine XK.e (fun fr' hfr kk H=>by exact zj rfl rfl rfl rfl ((hfr 18 (by decide +kernel)).trans rfl) (zG H)) ?_;refine X0 aP ?_;refine XK.nil' ?_;refine CQR ?_
 refine A0 (g_buildF (xs:=[_,_,_,_,_,_]) rfl ar_212 ze_212 ⟨rfl,⟨_,rfl,rfl⟩,rfl,⟨_,rfl,rfl⟩,rfl,⟨_,rfl,rfl⟩,rfl,⟨_,rfl,rfl⟩,rfl,⟨_,rfl,rfl⟩,rfl,⟨_,rfl,rfl⟩,trivial⟩ rfl) ?_
 refine zf ze_212 rfl rfl rfl rfl ?_;refine za rfl rfl rfl rfl rfl (Lens.self _) ty_212 rfl ?_;refine CNQ ?_;refine CQ ?_;refine zbF (d:=7) rfl rfl (Lens.self _) ?_;refine CR ?_;refine A0 mP ?_
 refine A0 (zaB rfl rfl ar_212 rfl rfl) ?_
 refine aw_callu (first_ok ⟨t,b,nextH t b.t b.h.nonce,[]⟩ [some 121,some 163,some 164,some 165,some 166,some 122] ⟨ht,by show b.t.length≤4000000000000;omega⟩ asks_all) rfl fn_120 rfl trivial trivial rfl ⟨(by first|exact zbs rfl|exact zbr rfl|exact zaV rfl|exact zbv rfl|exact zbt rfl|exact zbu rfl|exact zbq rfl rfl (by decide)),(by first|exact zbs rfl|exact zbr rfl|exact zaV rfl|exact zbv rfl|exact zbt rfl|exact zbu rfl|exact zbq rfl rfl (by decide)),trivial⟩ rfl rfl rfl ?_
 refine zl (d:=23) rfl ask_all ?_;refine A0 aV ?_;refine CNQR ?_;refine A0 mV ?_;refine A0 zaz ?_;refine CN ?_
 refine zo (p:=¬pushE t b=0) rfl (by simp [IntL.toI]) (fun ht25=>?_) (fun ht25=>?_)
 ·
  refine CQR ?_;refine A0 (oLs rfl rfl rfl zbg) ?_;refine A0 (oCl (own_ok t ht) rfl fn_167 ⟨(ze rfl),trivial⟩) ?_;refine A0 mV ?_;refine za rfl rfl rfl rfl rfl (Lens.self _) zbg rfl ?_;refine A0 aV ?_;refine CN ?_
  exact zH rfl rfl (zE rfl rfl zbg (by unfold pushT;rw [if_neg ht25])) (zah (zd rfl (rfl)))
 ·
  refine CS ?_;refine CQ ?_;refine zB [some 1,some 1,some 1,some 1,some 1,some 1,some 1,some 1,some 1,some 1,some 1,some 1,some 1,none,some 1] mixed (by decide +kernel) ?_;refine X0 (oLs rfl rfl rfl zbX) ?_
  refine X0 (oCl (copied_ok b hb) rfl fn_168 ⟨(ze rfl),trivial⟩) ?_;refine X0 (oFp fd_79_1) ?_;refine X0 (oLb L_Tip_p ty_76) ?_;refine X0 (oFp zbc) ?_;refine X0 (oLb zax zai) ?_
  refine X0 (oCl (leafH_ok _) rfl fn_70 ⟨(ze rfl),trivial⟩) ?_;refine X0 (oCl (zw (mmrAppend_ok t.p (leafH b.h) (by omega))) rfl fn_69 ⟨(ze rfl),(ze rfl),trivial⟩) ?_;refine X0 mP ?_;refine X0 (g_nc rfl rfl) ?_
  refine X0 (oFp fd_179_3) ?_;refine X0 (oLb L_Trial_c ty_77) ?_;refine X0 (zab rfl zek bd_79 (.cons zcs zct zbX rfl (.cons fd_79_1 L_Tip_p ty_76 rfl (.cons fd_79_2 L_Tip_c ty_77 rfl .nil))) rfl) ?_
  refine XK.e (x:=.idk) (fun fr' hfr kk H=>by exact za rfl rfl rfl ((hfr 4 (by decide +kernel)).trans rfl) rfl (Lens.self _) zbg ((hfr 41 (by decide +kernel)).trans rfl) (zG H)) ?_;refine X0 aV ?_;refine XK.nil' ?_
  exact zH rfl rfl (zE rfl rfl zbg (by unfold pushT;rw [if_pos (Classical.not_not.1 ht25),ask_allX (Classical.not_not.1 ht25)])) (zah (zd rfl ((Classical.not_not.1 ht25).symm)))
theorem mineB_ok (t:Tip) (l:List Tx) (nonce:UInt64) (tries:Int) (ht:smallTip t) (hl:smallL l):Tells P 77 [.val tipT t,.val (sl txT) l,.val u64T nonce,.val i64T tries] (.tup2 (.val blockT (mineB t l nonce tries)) (.val i64T (mineBE t l nonce tries))):=by
 have hbt:=hl.1
 have htp:=ht.2.1
 refine zc Tryz.func77 rfl rfl rfl (fun ext w hext=>?_)
 refine zh (d:=1) rfl zn (fun hsl1=>?_)
 refine zh (d:=3) rfl zR (fun hin3=>?_)
 refine CQR ?_;refine zj rfl rfl rfl rfl rfl ?_;refine zf ze_75 rfl rfl rfl rfl ?_;refine A0 aV ?_;refine CNQR ?_;refine A0 (oLs rfl rfl rfl zbg) ?_;refine A0 mV ?_;refine A0 mV ?_
 refine A0 (oCl (nextH_ok t l nonce (by omega) (by omega)) rfl fn_119 ⟨(ze rfl),(ze rfl),(ze rfl),trivial⟩) ?_;refine zf ze_55 rfl rfl rfl rfl ?_;refine za rfl rfl rfl rfl rfl (Lens.self _) zai rfl ?_
 refine CNQR ?_;refine A0 (oLs rfl rfl rfl zbg) ?_;refine A0 (oLs rfl rfl rfl zai) ?_;refine A0 mV ?_;refine A0 (zab rfl ze_75 bd_75 (.cons zbc zax zai rfl (.cons zeg zcn ty_73 rfl .nil)) rfl) ?_
 refine A0 (oLs rfl rfl rfl zai) ?_;refine A0 (zab rfl ze_179 bd_179 (.cons fd_179_0 L_Trial_t zbg rfl (.cons zds zcN zbX rfl (.cons fd_179_2 zdi zai rfl .nil))) rfl) ?_;refine zj rfl rfl rfl rfl rfl ?_
 refine A0 aP ?_;refine CNQQR ?_;refine A0 mP ?_;refine A0 (g_bslF (xs:=[_,_]) rfl sl_213 row_213 ⟨rfl,⟨_,rfl,rfl⟩,rfl,⟨_,rfl,rfl⟩,trivial⟩ rfl rfl) ?_
 refine aw_callu (first_ok ⟨t,⟨nextH t l nonce,[],l⟩,nextH t l nonce,[]⟩ [some 121,some 122] ⟨ht,by show l.length≤4000000000000;omega⟩ asks_two) rfl fn_120 rfl trivial trivial rfl ⟨(by first|exact zbs rfl|exact zbr rfl|exact zaV rfl|exact zbv rfl|exact zbt rfl|exact zbu rfl|exact zbq rfl rfl (by decide)),(by first|exact zbs rfl|exact zbr rfl|exact zaV rfl|exact zbv rfl|exact zbt rfl|exact zbu rfl|exact zbq rfl rfl (by decide)),trivial⟩ rfl rfl rfl ?_
 refine zl (d:=27) rfl ask_two ?_;refine A0 aV ?_;refine CNQR ?_;refine A0 mV ?_;refine A0 zaz ?_;refine CN ?_
 refine zo (p:=¬(if 48≤(nextH t l nonce).height then 3 else (applyOf t.c l).2)=0) rfl (by simp [IntL.toI]) (fun ht29=>?_) (fun ht29=>?_)
 ·
  have hE:mineBE t l nonce tries=(if 48≤(nextH t l nonce).height then 3 else (applyOf t.c l).2):=mineBE_err ht29
  refine CQR ?_;refine A0 (zab rfl ze_75 bd_75 .nil rfl) ?_;refine A0 mV ?_;refine za rfl rfl rfl rfl rfl (Lens.self _) zbX rfl ?_;refine A0 aV ?_;refine CN ?_
  exact zH rfl rfl (zE rfl rfl zbX (by unfold mineB;rw [hE,if_neg ht29])) (zah (zd rfl (hE.symm)))
 ·
  refine CSQR ?_;refine A0 (oLs rfl rfl rfl zai) ?_;refine A0 mV ?_;refine A0 (oCl (mine_ok (nextH t l nonce) tries) rfl fn_123 ⟨(ze rfl),(ze rfl),trivial⟩) ?_;refine A0 mX ?_
  refine A0 (by first|exact z6 rfl rfl|exact zY rfl rfl) ?_;refine A0 (by first|exact z8 rfl rfl|exact z7 rfl rfl) ?_;refine za rfl rfl rfl rfl rfl (Lens.self _) zai rfl ?_;refine A0 aV ?_;refine CNQQR ?_
  refine A0 mV ?_;refine A0 oN ?_;refine CN ?_
  refine zo (p:=¬(mineOf (nextH t l nonce) tries).isSome=true) rfl (by cases (mineOf (nextH t l nonce) tries).isSome<;>rfl) (fun ht39=>?_) (fun ht39=>?_)
  ·
   have hE:mineBE t l nonce tries=4:=mineBE_work (Classical.not_not.1 ht29) ht39
   refine CQR ?_;refine A0 (zab rfl ze_75 bd_75 .nil rfl) ?_;refine za rfl rfl rfl rfl rfl (Lens.self _) zbX rfl ?_;refine A0 aV ?_;refine CN ?_
   exact zH rfl rfl (zE rfl rfl zbX (by unfold mineB;rw [hE];rfl)) (zah (zd rfl (hE.symm)))
  ·
   have hE:mineBE t l nonce tries=0:=mineBE_ok (Classical.not_not.1 ht29) (Classical.not_not.1 ht39)
   refine CS ?_;refine CQ ?_;refine zB [some 1,some 1,some 1,some 1,some 1,some 1,none,some 1] mixed (by decide +kernel) ?_;refine X0 (oLs rfl rfl rfl zai) ?_;refine X0 (oLs rfl rfl rfl zbg) ?_
   refine X0 (oCl (zw (linksT_ok t)) rfl fn_124 ⟨(ze rfl),trivial⟩) ?_;refine X0 mV ?_;refine X0 (oCl (zw (txs_ok l hl)) rfl fn_125 ⟨(ze rfl),trivial⟩) ?_
   refine X0 (zab rfl ze_75 bd_75 (.cons zbc zax zai rfl (.cons zeh zco zbC rfl (.cons zeg zcn ty_73 rfl .nil))) rfl) ?_
   refine XK.e (x:=.idk) (fun fr' hfr kk H=>by exact za rfl rfl rfl ((hfr 8 (by decide +kernel)).trans rfl) rfl (Lens.self _) zbX ((hfr 46 (by decide +kernel)).trans rfl) (zG H)) ?_;refine X0 aV ?_;refine XK.nil' ?_
   exact zH rfl rfl (zE rfl rfl zbX (by unfold mineB;rw [hE,if_pos rfl])) (zah (zd rfl (hE.symm)))
end Go.Proofs.YtdeghaedeefooaaGreat
set_option maxRecDepth 20000
namespace Go.Proofs.YtdeghaedeefooaaGreat
open Go.Ab Go.RowKit
theorem rleafH_ok (h:Head):Tells P 88 [.val headT h] (.val totalT (leafH h)):=by
 refine zc Tryz.func88 rfl rfl rfl (fun ext w hext=>?_)
 refine CQR ?_;refine zj rfl rfl rfl rfl rfl ?_;refine zf zcu rfl rfl rfl rfl ?_;refine CNQ ?_;refine zB [some 1,some 1,some 1,some 1,some 1,none] mixed (by decide +kernel) ?_;refine X0 (oLs rfl rfl rfl zai) ?_
 refine X0 (oCl (rheadId_ok h) rfl fn_55 ⟨(ze rfl),trivial⟩) ?_;refine X0 (oLs rfl rfl rfl zai) ?_;refine X0 (oCl (rheadWork_ok h) rfl fn_145 ⟨(ze rfl),trivial⟩) ?_
 refine X0 (oCl (rmleaf_ok (headId h) (headWork h)) rfl fn_144 ⟨(ze rfl),(ze rfl),trivial⟩) ?_
 refine XK.e (x:=.idk) (fun fr' hfr kk H=>by exact za rfl rfl rfl ((hfr 2 (by decide +kernel)).trans rfl) rfl (Lens.self _) zas ((hfr 7 (by decide +kernel)).trans rfl) (zG H)) ?_;refine XK.nil' ?_
 exact zt rfl rfl rfl rfl zas (rfl)
theorem rfirstTip_ok (bits:UInt32):Tells P 57 [.val u32T bits] (.tup2 (.val tipT (firstTip bits)) (.val boolT (tgtOk bits))):=by
 refine zc Tryz.func57 rfl rfl rfl (fun ext w hext=>?_)
 refine CQR ?_;refine zf zek rfl rfl rfl rfl ?_;refine A0 aV ?_;refine CNQR ?_;refine A0 mV ?_;refine A0 (oCl (rtarget_ok bits) rfl fn_83 ⟨(ze rfl),trivial⟩) ?_;refine A0 mX ?_
 refine A0 (by first|exact z6 rfl rfl|exact zY rfl rfl) ?_;refine A0 (by first|exact z8 rfl rfl|exact z7 rfl rfl) ?_;refine zf zan rfl rfl rfl rfl ?_
 refine za rfl rfl rfl rfl rfl (Lens.self _) zk rfl ?_;refine A0 aV ?_;refine CNQQR ?_;refine A0 mV ?_;refine A0 oN ?_;refine CN ?_
 refine zo (p:=¬tgtOk bits=true) rfl (by cases tgtOk bits<;>rfl) (fun ht13=>?_) (fun ht13=>?_)
 ·
  refine CQR ?_;refine A0 (zab rfl zek bd_79 .nil rfl) ?_;refine za rfl rfl rfl rfl rfl (Lens.self _) zbg rfl ?_;refine A0 aV ?_;refine CN ?_
  exact zH rfl rfl (zE rfl rfl zbg (by unfold firstTip;rw [if_neg ht13])) (zah (zd rfl (by simpa using ht13)))
 ·
  refine CSQR ?_
  refine A0 (oCl (rlinkRoot_ok [] (by decide)) rfl fn_84 ⟨(by first|exact zI rfl|exact zW rfl|exact zQ rfl rfl|exact zU rfl|exact zJ rfl|exact zak rfl rfl|exact zV rfl),trivial⟩) ?_
  refine A0 (oCl (rtxRoot_ok [] (by decide)) rfl fn_85 ⟨(by first|exact zI rfl|exact zW rfl|exact zQ rfl rfl|exact zU rfl|exact zJ rfl|exact zak rfl rfl|exact zV rfl),trivial⟩) ?_
  refine A0 (oCl (rmmrRoot_ok [] (by decide)) rfl fn_86 ⟨(by first|exact zI rfl|exact zW rfl|exact zQ rfl rfl|exact zU rfl|exact zJ rfl|exact zak rfl rfl|exact zV rfl),trivial⟩) ?_
  refine A0 (g_field rfl rfl zcG zb3 zx) ?_;refine A0 mV ?_
  refine A0 (zab rfl ze_55 bd_55 (.cons zdP za8 zx rfl (.cons fd_55_3 zdC zx rfl (.cons fd_55_4 zcZ zx rfl (.cons zby zam zae rfl .nil)))) rfl) ?_;refine zf ze_55 rfl rfl rfl rfl ?_
  refine za rfl rfl rfl rfl rfl (Lens.self _) zai rfl ?_;refine CNQ ?_;refine zB [some 1,some 1,some 1,some 1,some 1,some 1,none,some 1] mixed (by decide +kernel) ?_;refine X0 (oLs rfl rfl rfl zai) ?_
  refine X0 (zab rfl ze_75 bd_75 (.cons zbc zax zai rfl .nil) rfl) ?_;refine X0 (oLs rfl rfl rfl zai) ?_;refine X0 (oCl (rleafH_ok (firstH bits)) rfl fn_88 ⟨(ze rfl),trivial⟩) ?_
  refine X0 (oCl (rmmrAppend_ok [] (leafH (firstH bits)) (by decide)) rfl fn_87 ⟨(by first|exact zI rfl|exact zW rfl|exact zQ rfl rfl|exact zU rfl|exact zJ rfl|exact zak rfl rfl|exact zV rfl),(ze rfl),trivial⟩) ?_
  refine X0 (zab rfl zek bd_79 (.cons zcs zct zbX rfl (.cons fd_79_1 L_Tip_p ty_76 rfl .nil)) rfl) ?_
  refine XK.e (x:=.idk) (fun fr' hfr kk H=>by exact za rfl rfl rfl ((hfr 2 (by decide +kernel)).trans rfl) rfl (Lens.self _) zbg ((hfr 26 (by decide +kernel)).trans rfl) (zG H)) ?_;refine X0 aV ?_;refine XK.nil' ?_
  exact zH rfl rfl (zE rfl rfl zbg (by unfold firstTip;rw [if_pos (Classical.not_not.1 ht13)];rfl)) (zah (zd rfl ((Classical.not_not.1 ht13).symm)))
end Go.Proofs.YtdeghaedeefooaaGreat
set_option maxRecDepth 20000
namespace Go.Proofs.YtdeghaedeefooaaGreat
open Go.Ab Go.RowKit
def s2:Ab.Id:=[219,193,180,201,0,255,228,141,87,91,93,165,198,56,4,1,37,246,93,176,254,62,36,73,75,118,234,152,100,87,217,134]
def s4:Ab.Id:=[229,45,156,80,140,80,35,71,52,77,140,7,173,145,203,214,6,138,252,117,255,98,146,240,98,160,156,163,129,200,158,113]
def id0:Ab.Id:=[204,117,100,156,217,35,11,173,35,93,199,149,159,68,227,45,148,39,20,174,85,27,122,223,187,132,2,33,173,199,16,195]
def lk0:Ab.Id:=[191,122,202,251,39,175,213,3,220,82,240,192,217,1,99,0,242,60,209,156,152,127,176,94,46,148,67,11,109,16,112,47]
def easyH:Head:=⟨0,zId,s2,s2,s4,zWide,545259519,0⟩
def easyN (n:UInt64):Head:=⟨1,id0,lk0,s2,id0,[2,0,0,0],545259519,n⟩
theorem sum_s2:shaSum [2]=s2:=by kernel_rfl
theorem sum_s4:shaSum [4]=s4:=by kernel_rfl
theorem root_nil:rootOf []=s2:=by rw [rootOf,if_pos (show ([]:List Ab.Id).length=0 from rfl),sum_s2]
theorem root_one (x:Ab.Id):rootOf [x]=x:=by rw [rootOf,if_neg (show ¬[x].length=0 by simp),dif_pos (show [x].length≤1 by simp)];rfl
theorem easy_first:firstH 545259519=easyH:=by
  have e1:linkRoot []=s2:=root_nil
  have e2:txRoot []=s2:=root_nil
  have e3:(mmrRoot []).h=s4:=sum_s4
  unfold firstH;rw [e1,e2,e3];rfl
theorem easy_id:headId easyH=id0:=by kernel_rfl
theorem easy_work:headWork easyH=[2,0,0,0]:=by kernel_rfl
theorem easy_level:headLevel easyH=31:=by kernel_rfl
theorem easy_ok:tgtOk 545259519=true:=by kernel_rfl
theorem easy_lk:leafOf id0=lk0:=by kernel_rfl
theorem easy_may0:headMay (easyN 0)=false:=by kernel_rfl
theorem easy_may1:headMay (easyN 1)=true:=by kernel_rfl
end Go.Proofs.YtdeghaedeefooaaGreat
set_option maxRecDepth 20000
namespace Go.Proofs.YtdeghaedeefooaaGreat
open Go.Ab Go.RowKit
def leaf0:Total:=leafT id0 [2,0,0,0]
def easyTip:Tip:=⟨⟨easyH,[],[]⟩,[leaf0],[]⟩
def easyB:Block:=⟨easyN 1,[id0],[]⟩
def leaf1:Total:=leafH (easyN 1)
def easyTip2:Tip:=⟨easyB,mmrAppend [leaf0] leaf1,[]⟩
theorem easy_leaf:leafH easyH=leaf0:=by unfold leafH leaf0;rw [easy_id,easy_work]
theorem easy_tip:firstTip 545259519=easyTip:=by unfold firstTip;rw [if_pos easy_ok,easy_first,easy_leaf];rfl
theorem easy_links:linksT easyTip=[id0]:=by
  show linkNext [] (headId easyH) (headLevel easyH)=_
  rw [easy_id];unfold linkNext;rw [if_neg (show ¬32<([]:List Ab.Id).length by decide),if_pos (show ([]:List Ab.Id).length=0 from rfl)]
theorem easy_next (n:UInt64):nextH easyTip [] n=easyN n:=by
  have e1:linkRoot [id0]=lk0:=(root_one _).trans easy_lk
  have e2:txRoot []=s2:=root_nil
  unfold nextH
  rw [easy_links,e1,e2]
  show (⟨_,headId easyH,_,_,_,_,_,_⟩:Head)=_
  rw [easy_id];rfl
theorem easy_mine:mineOf (easyN 0) 200=some (easyN 1):=by
  unfold mineOf
  rw [mineFrom_step (by decide) (by rw [easy_may0];decide)]
  exact mineFrom_yes (by decide) easy_may1
theorem apply_nil:applyOf [] []=([],0):=by kernel_rfl
theorem easy_mineE:mineBE easyTip [] 0 200=0:=by
  unfold mineBE
  rw [easy_next,if_neg (by decide),show (applyOf easyTip.c []).2=0 from congrArg (·.2) apply_nil,if_neg (by decide),easy_mine];rfl
theorem easy_mineB:mineB easyTip [] 0 200=easyB:=by
  unfold mineB
  rw [easy_mineE,if_pos rfl,easy_next,easy_mine,easy_links];rfl
theorem easy_pushE:pushE easyTip easyB=0:=by
  unfold pushE
  have e:nextH easyTip easyB.t easyB.h.nonce=easyB.h:=easy_next 1
  rw [e,if_neg (by decide),if_neg (by simp),if_neg (by rw [easy_links];simp [easyB]),if_neg (by simp),if_neg (by rw [show headMay easyB.h=true from easy_may1];simp)]
  exact congrArg (·.2) apply_nil
theorem easy_pushT:pushT easyTip easyB=easyTip2:=by
  unfold pushT
  rw [easy_pushE,if_pos rfl,show (applyOf easyTip.c easyB.t).1=[] from congrArg (·.1) apply_nil];rfl
theorem small_easyB:smallB easyB:=by refine ⟨by decide,by decide,fun t ht=>by cases ht⟩
end Go.Proofs.YtdeghaedeefooaaGreat
set_option maxRecDepth 20000
namespace Go.Proofs.YtdeghaedeefooaaGreat
open Go.Ab Go.RowKit
theorem eq_u32 {x y:UInt32}:decide (IntL.toI u32T x=IntL.toI u32T y)=decide (x=y):=by rw [decide_eq_decide];show ((x.toNat:Nat):Int)=((y.toNat:Nat):Int)↔_;rw [Int.ofNat_inj,UInt32.toNat_inj]
theorem pushR_len:∀(r:List Total) (x:Total),(pushR r x).length≤r.length+1
  | [],_=>Nat.le_refl _
  | y::r,x=>by
    rw [pushR]
    split
    · have:=pushR_len r (joinT y x);rw [List.length_cons];omega
    · rw [List.length_cons];omega
theorem mmrAppend_len {p:List Total} {x:Total}:(mmrAppend p x).length≤p.length+1:=by
  unfold mmrAppend
  have:=pushR_len p.reverse x
  rw [List.length_reverse] at this ⊢;exact this
theorem apply_may {p:List Coin} {l:List Tx} (h:(applyOf p l).2=0):mayCoins p=true:=by
  refine Classical.byContradiction fun hn=>?_
  unfold applyOf at h
  rw [if_pos hn] at h
  exact absurd h (show ¬(1:Int)=0 by decide)
theorem push_iff {t:Tip} {b:Block}:pushE t b=0↔b.h.height<48∧b.h=nextH t b.t b.h.nonce∧b.l=linksT t∧headMay b.h=true∧(applyOf t.c b.t).2=0:=by
  constructor
  · intro h
    unfold pushE at h
    by_cases h1:48≤b.h.height
    · rw [if_pos h1] at h;exact absurd h (by decide)
    rw [if_neg h1] at h
    by_cases h2:¬behindH b.h=behindH (nextH t b.t b.h.nonce)
    · rw [if_pos h2] at h;exact absurd h (by decide)
    rw [if_neg h2] at h
    by_cases h3:¬b.h.links=(nextH t b.t b.h.nonce).links∨¬b.l=linksT t
    · rw [if_pos h3] at h;exact absurd h (by decide)
    rw [if_neg h3] at h
    by_cases h4:¬b.h=nextH t b.t b.h.nonce
    · rw [if_pos h4] at h;exact absurd h (by decide)
    rw [if_neg h4] at h
    by_cases h5:¬headMay b.h=true
    · rw [if_pos h5] at h;exact absurd h (by decide)
    rw [if_neg h5] at h
    exact ⟨by omega,Classical.not_not.1 h4,Classical.not_not.1 fun hc=>h3 (.inr hc),Classical.not_not.1 h5,h⟩
  · rintro ⟨h1,h2,h3,h4,h5⟩
    unfold pushE
    rw [if_neg (by omega),if_neg (Classical.not_not.2 (congrArg behindH h2)),if_neg (fun h=>h.elim (fun h=>h (congrArg (·.links) h2)) fun h=>h h3),if_neg (Classical.not_not.2 h2),if_neg (Classical.not_not.2 h4)]
    exact h5
theorem firstTip_is {a:UInt32} (h:tgtOk a=true):firstTip a=⟨⟨firstH a,[],[]⟩,[leafH (firstH a)],[]⟩:=by unfold firstTip;rw [if_pos h];rfl
end Go.Proofs.YtdeghaedeefooaaGreat
set_option maxRecDepth 20000
namespace Go.Proofs.YtdeghaedeefooaaGreat
open Go.Ab Go.RowKit
theorem pushT_eq {t:Tip} {b:Block} (h:pushE t b=0):pushT t b=⟨b,mmrAppend t.p (leafH b.h),(applyOf t.c b.t).1⟩:=by unfold pushT;rw [if_pos h]
end Go.Proofs.YtdeghaedeefooaaGreat
set_option maxRecDepth 20000
namespace Go.Proofs.YtdeghaedeefooaaGreat
open Go.Ab Go.RowKit
def checkFrom:Tip→List Block→Tip×Int
  | t,[]=>(t,0)
  | t,b::l=>if pushE t b=0 then checkFrom (pushT t b) l else (zTip,pushE t b)
def checkOf (l:List Block):Tip×Int :=
  match l with
  | []=>(zTip,9)
  | g::r=>if tgtOk g.h.bits=true∧(firstTip g.h.bits).b=g then checkFrom (firstTip g.h.bits) r else (zTip,12)
def growE (l:List Block) (t:List Tx) (nonce:UInt64):Int:=if (checkOf l).2=0 then mineBE (checkOf l).1 t nonce 200 else (checkOf l).2
def growOf (l:List Block) (t:List Tx) (nonce:UInt64):List Block:=if growE l t nonce=0 then l++[mineB (checkOf l).1 t nonce 200] else l
def levelsOf (l:List Block):List Int:=l.map fun b=>headLevel b.h
def smallC (l:List Block):Prop:=l.length*232≤140737488351232∧∀b∈l,smallB b
theorem checkFrom_app:∀{l m:List Block} {t:Tip},checkFrom t (l++m)=if (checkFrom t l).2=0 then checkFrom (checkFrom t l).1 m else checkFrom t l
  | [],m,t=>by simp [checkFrom]
  | b::l,m,t=>by
    rw [List.cons_append,checkFrom,checkFrom]
    by_cases h:pushE t b=0
    · rw [if_pos h,if_pos h];exact checkFrom_app
    · rw [if_neg h,if_neg h,if_neg h]
theorem checkOf_app {l m:List Block} (h:¬l=[]):checkOf (l++m)=if (checkOf l).2=0 then checkFrom (checkOf l).1 m else checkOf l:=by
  cases l with
  | nil=>exact absurd rfl h
  | cons g r =>
    rw [List.cons_append]
    unfold checkOf
    simp only []
    by_cases h:tgtOk g.h.bits=true∧(firstTip g.h.bits).b=g
    · rw [if_pos h,if_pos h];exact checkFrom_app
    · rw [if_neg h,if_neg h];rfl
theorem chain_ne {l:List Block} (h:(checkOf l).2=0):¬l=[]:=fun e=>by rw [e] at h;exact absurd h (by decide)
theorem checkOf_snoc {l:List Block} {b:Block} (h:(checkOf l).2=0):checkOf (l++[b])=if pushE (checkOf l).1 b=0 then (pushT (checkOf l).1 b,0) else (zTip,pushE (checkOf l).1 b):=by
  rw [checkOf_app (chain_ne h),if_pos h];rfl
theorem small_nil {t:Tip} (h1:t.b.l=[]) (h2:t.b.t=[]) (h3:Nat.ble t.p.length 1=true) (h4:t.c=[]):smallTip t:=by
  have:=Nat.le_of_ble_eq_true h3
  refine ⟨⟨by rw [h1];decide,by rw [h2];decide,fun x hx=>by rw [h2] at hx;cases hx⟩,by omega,by rw [h4];decide⟩
def smallN (t:Tip) (n:Nat):Prop:=smallTip t∧t.p.length≤n+1∧t.b.h.height=n
theorem push_smallN {t:Tip} {b:Block} {n:Nat} (ht:smallN t n) (hn:n≤1000000000000) (hb:smallB b) (h:pushE t b=0):smallN (pushT t b) (n+1):=by
  obtain ⟨h6,h7,_,_,h5⟩:=push_iff.1 h
  rw [pushT_eq h]
  have h1:=mmrAppend_len (p:=t.p) (x:=leafH b.h)
  have h2:=zdb (applyOf_tot (l:=b.t) (apply_may h5)).1
  obtain ⟨_,h3,h4⟩:=ht
  have e:b.h.height=IntKind.i64.wrap (t.b.h.height+1):=congrArg (·.height) h7
  rw [h4,zaa (by omega)] at e
  refine ⟨⟨hb,?_,?_⟩,?_,?_⟩
  · show (mmrAppend t.p (leafH b.h)).length≤1000
    omega
  · show (applyOf t.c b.t).1.length≤1000
    omega
  · show (mmrAppend t.p (leafH b.h)).length≤n+1+1
    omega
  · show b.h.height=_
    rw [e];omega
theorem first_small {bits:UInt32}:smallN (firstTip bits) 0:=by
  by_cases h:tgtOk bits=true
  · rw [firstTip_is h];exact ⟨small_nil rfl rfl rfl rfl,Nat.le_of_ble_eq_true rfl,rfl⟩
  · have:firstTip bits=zTip:=by unfold firstTip;rw [if_neg h]
    rw [this];exact ⟨small_nil rfl rfl rfl rfl,Nat.le_of_ble_eq_true rfl,rfl⟩
theorem checkFrom_small:∀{l:List Block} {t:Tip} {n:Nat},smallN t n→n+l.length≤1000000000000→(∀b∈l,smallB b)→smallTip (checkFrom t l).1
  | [],t,n,ht,_,_=>ht.1
  | b::l,t,n,ht,hn,hl=>by
    rw [checkFrom]
    rw [List.length_cons] at hn
    split
    · rename_i h
      exact checkFrom_small (push_smallN ht (by omega) (hl b (by simp)) h) (by omega) fun x hx=>hl x (by simp [hx])
    · exact small_nil rfl rfl rfl rfl
theorem check_small {l:List Block} (h:smallC l):smallTip (checkOf l).1:=by
  cases l with
  | nil=>exact small_nil rfl rfl rfl rfl
  | cons g r =>
    unfold checkOf
    simp only []
    split
    · refine checkFrom_small first_small ?_ fun x hx=>h.2 x (by simp [hx])
      have:=h.1
      rw [List.length_cons] at this
      omega
    · exact small_nil rfl rfl rfl rfl
end Go.Proofs.YtdeghaedeefooaaGreat
set_option maxRecDepth 20000
namespace Go.Proofs.YtdeghaedeefooaaGreat
open Go.Ab Go.RowKit
def easyB0:Block:=⟨easyH,[],[]⟩
theorem zeL:checkOf [easyB0]=(easyTip,0):=by
  unfold checkOf
  simp only []
  have e:firstTip easyB0.h.bits=easyTip:=easy_tip
  rw [e,if_pos ⟨easy_ok,rfl⟩];rfl
theorem easy_growE:growE [easyB0] [] 0=0:=by
  unfold growE;rw [zeL,if_pos rfl];exact easy_mineE
theorem easy_grown:growOf [easyB0] [] 0=[easyB0,easyB]:=by
  unfold growOf;rw [easy_growE,if_pos rfl,zeL,easy_mineB];rfl
theorem easy_chain1:checkOf [easyB0,easyB]=(easyTip2,0):=by
  rw [show [easyB0,easyB]=[easyB0]++[easyB] from rfl,checkOf_snoc (by rw [zeL]),zeL,easy_pushE,if_pos rfl,easy_pushT]
theorem easy_level1:decide (0≤headLevel easyB.h)=true:=by kernel_rfl
theorem easy_two:decide (headId easyH=headId easyB.h)=false:=by kernel_rfl
theorem small_easyB0:smallB easyB0:=by refine ⟨by decide,by decide,fun t ht=>by cases ht⟩
theorem small_easyC0:smallC [easyB0]:=⟨by decide,fun b hb=>by rw [List.mem_singleton.1 hb];exact small_easyB0⟩
theorem small_easyC:smallC [easyB0,easyB]:=⟨by decide,fun b hb=>by
  rcases List.mem_cons.1 hb with h|h
  · rw [h];exact small_easyB0
  · rw [List.mem_singleton.1 h];exact small_easyB⟩
end Go.Proofs.YtdeghaedeefooaaGreat
set_option maxRecDepth 20000
namespace Go.Proofs.YtdeghaedeefooaaGreat
open Go.Ab Go.RowKit
theorem checkOf_start {l:List Block} {g:Block} (h:l[0]?=some g) (h1:tgtOk g.h.bits=true) (h2:(firstTip g.h.bits).b=g):checkOf l=checkFrom (firstTip g.h.bits) (l.drop 1):=by
  cases l with
  | nil=>cases h
  | cons x r =>
    injection h with h;subst h
    unfold checkOf;simp only [];rw [if_pos ⟨h1,h2⟩];rfl
theorem zdt {l:List Block} {g:Block} (h:l[0]?=some g) (h1:¬(tgtOk g.h.bits=true∧(firstTip g.h.bits).b=g)):checkOf l=(zTip,12):=by
  cases l with
  | nil=>cases h
  | cons x r =>
    injection h with h;subst h
    unfold checkOf;simp only [];rw [if_neg h1]
theorem check_step {r:List Block} {k:Nat} {b:Block} {t:Tip} (hb:r[k]?=some b) (h:pushE t b=0):checkFrom t (r.drop k)=checkFrom (pushT t b) (r.drop (k+1)):=by
  obtain ⟨hk,rfl⟩:=List.getElem?_eq_some_iff.1 hb
  rw [List.drop_eq_getElem_cons hk,checkFrom,if_pos h]
theorem check_stop {r:List Block} {k:Nat} {b:Block} {t:Tip} (hb:r[k]?=some b) (h:¬pushE t b=0):checkFrom t (r.drop k)=(zTip,pushE t b):=by
  obtain ⟨hk,rfl⟩:=List.getElem?_eq_some_iff.1 hb
  rw [List.drop_eq_getElem_cons hk,checkFrom,if_neg h]
theorem check_end {r:List Block} {k:Nat} {t:Tip} (h:r.length≤k):checkFrom t (r.drop k)=(t,0):=by
  rw [List.drop_of_length_le h];rfl
theorem checkOf_nil {l:List Block} (h:l.length=0):checkOf l=(zTip,9):=by rw [List.eq_nil_of_length_eq_zero h];rfl
def newOf (bits:UInt32):List Block:=if tgtOk bits=true then [(firstTip bits).b] else []
theorem own11_ok (t:Tx) (ht:smallTx t):Tells P 116 [.val txT t] (.val txT t):=by
 refine zc Tryz.func116 rfl rfl rfl (fun ext w hext=>?_)
 refine CQR ?_;refine zj rfl rfl rfl rfl rfl ?_;refine zf ze_142 rfl rfl rfl rfl ?_;refine CNQ ?_;refine zB [some 1,some 1,some 1,some 1,some 1,some 1,some 1,none] mixed (by decide +kernel) ?_
 refine X0 (oFp zaJ) ?_;refine X0 (oLb zaK zbU) ?_;refine X0 (oCl (zw (cloneIn t.ins (by unfold smallTx at ht;constructor<;>omega))) rfl fn_117 ⟨(ze rfl),trivial⟩) ?_;refine X0 (oFp zaR) ?_
 refine X0 (oLb zaG zce) ?_;refine X0 (oCl (zw (cloneOut t.outs (by unfold smallTx at ht;constructor<;>omega))) rfl fn_118 ⟨(ze rfl),trivial⟩) ?_
 refine X0 (zab rfl ze_142 bd_142 (.cons zaJ zaK zbU rfl (.cons zaR zaG zce rfl .nil)) rfl) ?_
 refine XK.e (x:=.idk) (fun fr' hfr kk H=>by exact za rfl rfl rfl ((hfr 2 (by decide +kernel)).trans rfl) rfl (Lens.self _) za2 ((hfr 9 (by decide +kernel)).trans rfl) (zG H)) ?_;refine XK.nil' ?_
 exact zt rfl rfl rfl rfl za2 (rfl)
theorem toldTx_ok (l:List Tx) (hl:smallL l):Tells P 115 [.val (bsl txT) l,.clo 116 []] (.fresh 142 txT l):=by
 have hll:=hl.1
 refine zc Tryz.func115 rfl rfl rfl (fun ext w hext=>?_)
 refine zh (d:=0) rfl zn (fun hsl0=>?_)
 refine CQR ?_;refine A0 aL ?_;refine CNQR ?_;refine A0 aL ?_;refine CNQQR ?_;refine A0 mV ?_;refine A0 (zA rfl rfl isl_73) ?_;refine A0 mV ?_;refine CNB ?_;refine zbp (T:=txT) (d:=5) 142 rfl ?_
 refine Lp (ι:=Nat) 1 (fun (k:Nat)=>((((((Fr.none).set 0 (.val (bsl txT) l)).set 1 (.clo 116 [])).set 5 (.own 0)).set 8 (.val (bsl txT) l)).set 9 (.val i64T (l.length:Int))).set 10 (.val i64T (k:Int))) (fun (k:Nat)=>(Hp.none).set 0 (.row 142 txT (l.take k))) (fun (k:Nat)=>k≤l.length) (fun (k:Nat)=>l.length-k) (0) (Nat.zero_le _) ?_
 intro k hinv
 refine CQR ?_;refine A0 zC ?_;refine CNQ ?_
 refine Cf (p:=k<l.length) (fun ht11=>?_) (fun ht11=>?_)
 ·
  obtain ⟨x,hx⟩:∃x,l[k]?=some x:=⟨_,List.getElem?_eq_getElem ht11⟩
  have hxm:=List.mem_of_getElem? hx
  refine CSQBQR ?_;refine A0 (zaq rfl rfl rfl sl_73 (by assumption)) ?_;refine A0 (zg rfl rfl za2) ?_;refine zf ze_142 rfl rfl rfl rfl ?_;refine za rfl rfl rfl rfl rfl (Lens.self _) za2 rfl ?_;refine CNR ?_
  refine A0 mO ?_;refine A0 mC ?_;refine A0 (oLs rfl rfl rfl za2) ?_;refine A0 (zdl (As:=[_]) (Cs:=[]) (own11_ok x (hl.2 x hxm)) rfl rfl fn_116 ⟨(ze rfl),trivial⟩ (by intro n hn;cases hn) trivial rfl) ?_
  refine A0 (zr (T:=txT) (xs:=[_]) rfl sl_73 row_73 ⟨rfl,rfl,trivial⟩ rfl rfl) ?_;refine zu rfl rfl rfl rfl rfl rfl rfl row_73 (by simp;omega) ?_;refine A0 aO ?_;refine CNIR ?_;refine A0 zs ?_;refine A0 mV ?_
  refine CN ?_;refine zaQ 2 0 3 rfl rfl rfl rfl rfl rfl ?_;refine zO (n:=0) (y:=l.take (k+1)) rfl (by rw [List.take_add_one,hx];rfl) ?_
  exact Nx (k+1) (by omega) (by omega)
 ·
  refine CE ?_;refine CQR ?_;refine A0 mO ?_;refine A0 aO ?_;refine CN ?_
  exact zb rfl rfl (zi rfl rfl (by rw [List.take_of_length_le (by omega)]))
theorem own1_ok (b:Block) (hb:smallB b):Tells P 114 [.val blockT b] (.val blockT b):=by
 have hb1:=hb.1
 refine zc Tryz.func114 rfl rfl rfl (fun ext w hext=>?_)
 refine CQR ?_;refine zj rfl rfl rfl rfl rfl ?_;refine zf ze_75 rfl rfl rfl rfl ?_;refine CNQR ?_;refine A0 (oFp zeh) ?_;refine A0 (oLb zco zbC) ?_
 refine A0 (oCl (zw (cloneId b.l (by constructor<;>omega))) rfl fn_63 ⟨(ze rfl),trivial⟩) ?_;refine A0 (oFp zeh) ?_;refine za rfl rfl rfl rfl rfl zco zbC rfl ?_;refine CNQR ?_;refine A0 (oFp zeg) ?_
 refine A0 (oLb zcn ty_73) ?_
 refine A0 (oCl (zw (toldTx_ok b.t hb.2)) rfl fn_115 ⟨(ze rfl),(by first|exact zcL (Cs:=[]) rfl fn_116 (by intro n hn;cases hn) trivial rfl (fun x=>own11_ok _ (by assumption))|exact zcK (Cs:=[]) rfl fn_116 (by intro n hn;cases hn) trivial rfl (fun x y=>own11_ok _ (by assumption))|exact zcM rfl),trivial⟩) ?_
 refine A0 (oFp zeg) ?_;refine za rfl rfl rfl rfl rfl zcn ty_73 rfl ?_;refine CNQR ?_;refine A0 (oLs rfl rfl rfl zbX) ?_;refine za rfl rfl rfl rfl rfl (Lens.self _) zbX rfl ?_;refine CN ?_
 exact zt rfl rfl rfl rfl zbX (rfl)
theorem toldBlock_ok (l:List Block) (hl:smallC l):Tells P 113 [.val (bsl blockT) l,.clo 114 []] (.fresh 75 blockT l):=by
 have hll:=hl.1
 refine zc Tryz.func113 rfl rfl rfl (fun ext w hext=>?_)
 refine zh (d:=0) rfl zn (fun hsl0=>?_)
 refine CQR ?_;refine A0 aL ?_;refine CNQR ?_;refine A0 aL ?_;refine CNQQR ?_;refine A0 mV ?_;refine A0 (zA rfl rfl isl_46) ?_;refine A0 mV ?_;refine CNB ?_;refine zbp (T:=blockT) (d:=5) 75 rfl ?_
 refine Lp (ι:=Nat) 1 (fun (k:Nat)=>((((((Fr.none).set 0 (.val (bsl blockT) l)).set 1 (.clo 114 [])).set 5 (.own 0)).set 8 (.val (bsl blockT) l)).set 9 (.val i64T (l.length:Int))).set 10 (.val i64T (k:Int))) (fun (k:Nat)=>(Hp.none).set 0 (.row 75 blockT (l.take k))) (fun (k:Nat)=>k≤l.length) (fun (k:Nat)=>l.length-k) (0) (Nat.zero_le _) ?_
 intro k hinv
 refine CQR ?_;refine A0 zC ?_;refine CNQ ?_
 refine Cf (p:=k<l.length) (fun ht11=>?_) (fun ht11=>?_)
 ·
  obtain ⟨x,hx⟩:∃x,l[k]?=some x:=⟨_,List.getElem?_eq_getElem ht11⟩
  have hxm:=List.mem_of_getElem? hx
  refine CSQBQR ?_;refine A0 (zaq rfl rfl rfl sl_46 (by assumption)) ?_;refine A0 (zg rfl rfl zbX) ?_;refine zf ze_75 rfl rfl rfl rfl ?_;refine za rfl rfl rfl rfl rfl (Lens.self _) zbX rfl ?_;refine CNR ?_
  refine A0 mO ?_;refine A0 mC ?_;refine A0 (oLs rfl rfl rfl zbX) ?_;refine A0 (zdl (As:=[_]) (Cs:=[]) (own1_ok x (hl.2 x hxm)) rfl rfl fn_114 ⟨(ze rfl),trivial⟩ (by intro n hn;cases hn) trivial rfl) ?_
  refine A0 (zr (T:=blockT) (xs:=[_]) rfl sl_46 row_46 ⟨rfl,rfl,trivial⟩ rfl rfl) ?_;refine zu rfl rfl rfl rfl rfl rfl rfl row_46 (by simp;omega) ?_;refine A0 aO ?_;refine CNIR ?_;refine A0 zs ?_;refine A0 mV ?_
  refine CN ?_;refine zaQ 2 0 3 rfl rfl rfl rfl rfl rfl ?_;refine zO (n:=0) (y:=l.take (k+1)) rfl (by rw [List.take_add_one,hx];rfl) ?_
  exact Nx (k+1) (by omega) (by omega)
 ·
  refine CE ?_;refine CQR ?_;refine A0 mO ?_;refine A0 aO ?_;refine CN ?_
  exact zb rfl rfl (zi rfl rfl (by rw [List.take_of_length_le (by omega)]))
theorem ownC_ok (l:List Block) (hl:smallC l):Tells P 76 [.val (bsl blockT) l] (.fresh 75 blockT l):=by
 refine zc Tryz.func76 rfl rfl rfl (fun ext w hext=>?_)
 refine zh (d:=0) rfl zn (fun hsl0=>?_)
 refine CQR ?_;refine A0 aL ?_;refine CNQR ?_;refine A0 mV ?_
 refine zaN (toldBlock_ok l hl) rfl fn_113 ⟨(ze rfl),(by first|exact zcL (Cs:=[]) rfl fn_114 (by intro n hn;cases hn) trivial rfl (fun x=>own1_ok _ (by assumption))|exact zcK (Cs:=[]) rfl fn_114 (by intro n hn;cases hn) trivial rfl (fun x y=>own1_ok _ (by assumption))|exact zcM rfl),trivial⟩ rfl rfl rfl ?_
 refine A0 aO ?_;refine CN ?_
 exact zb rfl rfl (zi rfl rfl rfl)
theorem levelC_ok (b:Block):Tells P 107 [.val blockT b] (.val i64T (headLevel b.h)):=by
 refine zc Tryz.func107 rfl rfl rfl (fun ext w hext=>?_)
 refine CQR ?_;refine zj rfl rfl rfl rfl rfl ?_;refine A0 aV ?_;refine CNQR ?_;refine A0 (oFp zbc) ?_;refine A0 (oLb zax zai) ?_;refine A0 (oCl (zd6 _) rfl fn_56 ⟨(ze rfl),trivial⟩) ?_;refine A0 aV ?_
 refine CN ?_
 exact zb rfl rfl (by first|exact zcc rfl|exact ret_own rfl rfl|exact zeC rfl|exact zcA rfl rfl|exact zL rfl|exact ret_lit rfl)
theorem toldInt_ok (l:List Block) (f:Block→Int) (hl:l.length≤1000000000000):Tells P 106 [.val (bsl blockT) l,.fn1 P blockT i64T f] (.fresh 3 i64T (l.map f)):=by
 refine zc Tryz.func106 rfl rfl rfl (fun ext w hext=>?_)
 refine zh (d:=0) rfl zn (fun hsl0=>?_)
 refine CQR ?_;refine A0 aL ?_;refine CNQR ?_;refine A0 aL ?_;refine CNQQR ?_;refine A0 mV ?_;refine A0 (zA rfl rfl isl_46) ?_;refine A0 mV ?_;refine CNB ?_;refine zbp (T:=i64T) (d:=5) 3 rfl ?_
 refine Lp (ι:=Nat) 1 (fun (k:Nat)=>((((((Fr.none).set 0 (.val (bsl blockT) l)).set 1 (.fn1 P blockT i64T f)).set 5 (.own 0)).set 8 (.val (bsl blockT) l)).set 9 (.val i64T (l.length:Int))).set 10 (.val i64T (k:Int))) (fun (k:Nat)=>(Hp.none).set 0 (.row 3 i64T ((l.take k).map f))) (fun (k:Nat)=>k≤l.length) (fun (k:Nat)=>l.length-k) (0) (Nat.zero_le _) ?_
 intro k hinv
 refine CQR ?_;refine A0 zC ?_;refine CNQ ?_
 refine Cf (p:=k<l.length) (fun ht11=>?_) (fun ht11=>?_)
 ·
  obtain ⟨x,hx⟩:∃x,l[k]?=some x:=⟨_,List.getElem?_eq_getElem ht11⟩
  have hxm:=List.mem_of_getElem? hx
  refine CSQBQR ?_;refine A0 (zaq rfl rfl rfl sl_46 (by assumption)) ?_;refine A0 (zg rfl rfl zbX) ?_;refine zf ze_75 rfl rfl rfl rfl ?_;refine za rfl rfl rfl rfl rfl (Lens.self _) zbX rfl ?_;refine CNR ?_
  refine A0 mO ?_;refine A0 mF ?_;refine A0 (oLs rfl rfl rfl zbX) ?_;refine A0 (zeG rfl rfl (ze rfl)) ?_;refine A0 (zr (T:=i64T) (xs:=[_]) rfl zdq zc8 ⟨rfl,rfl,trivial⟩ rfl rfl) ?_
  refine zu rfl rfl rfl rfl rfl rfl rfl zc8 (by simp;omega) ?_;refine A0 aO ?_;refine CNIR ?_;refine A0 zs ?_;refine A0 mV ?_;refine CN ?_;refine zaQ 2 0 3 rfl rfl rfl rfl rfl rfl ?_
  refine zO (n:=0) (y:=(l.take (k+1)).map f) rfl (by rw [List.take_add_one,hx];simp) ?_
  exact Nx (k+1) (by omega) (by omega)
 ·
  refine CE ?_;refine CQR ?_;refine A0 mO ?_;refine A0 aO ?_;refine CN ?_
  exact zb rfl rfl (zi rfl rfl (by rw [List.take_of_length_le (by omega)]))
theorem levels_ok (l:List Block) (hl:l.length≤1000000000000):Tells P 74 [.val (bsl blockT) l] (.fresh 3 i64T (levelsOf l)):=by
 refine zc Tryz.func74 rfl rfl rfl (fun ext w hext=>?_)
 refine zh (d:=0) rfl zn (fun hsl0=>?_)
 refine CQR ?_;refine A0 aL ?_;refine CNQR ?_;refine A0 mV ?_
 refine zaN (toldInt_ok l (fun b=>headLevel b.h) hl) rfl fn_106 ⟨(ze rfl),(by first|exact zcL (Cs:=[]) rfl fn_107 (by intro n hn;cases hn) trivial rfl (fun x=>levelC_ok x)|exact zcK (Cs:=[]) rfl fn_107 (by intro n hn;cases hn) trivial rfl (fun x y=>levelC_ok x)|exact zcM rfl),trivial⟩ rfl rfl rfl ?_
 refine A0 aO ?_;refine CN ?_
 exact zb rfl rfl (zi rfl rfl rfl)
theorem check_ok (l:List Block) (hl:smallC l):Tells P 73 [.val (bsl blockT) l] (.tup2 (.val tipT (checkOf l).1) (.val i64T (checkOf l).2)):=by
 have hll:=hl.1
 refine zc Tryz.func73 rfl rfl rfl (fun ext w hext=>?_)
 refine zh (d:=0) rfl zn (fun hsl0=>?_)
 refine CQR ?_;refine zf zek rfl rfl rfl rfl ?_;refine A0 aV ?_;refine CN ?_
 refine aw_scope (ι:=Block) 2 0 rfl rfl rfl (fun (g:Block)=>((((Fr.none).set 0 (.val (bsl blockT) l)).set 2 (.ptr 0 0)).set 4 (.ptr 1 0)).set 6 (.val i64T 0)) (fun (g:Block)=>((Hp.none).set 0 (.box 79 tipT zTip)).set 1 (.box 79 tipT (firstTip g.h.bits))) (fun (g:Block)=>l[0]?=some g∧tgtOk g.h.bits=true∧(firstTip g.h.bits).b=g) (fun (g:Block)=>0) ?_ (fun hreach=>?_)
 ·
  intro g hinv
  have hl1:=(List.getElem?_eq_some_iff.1 hinv.1).1
  refine CQQR ?_;refine A0 mV ?_;refine A0 (g_sl_l rfl rfl rfl sl_46 (by first|assumption|omega|(simp;omega))) ?_;refine A0 (zA rfl rfl isl_46) ?_;refine A0 mV ?_;refine CNB ?_
  refine Lp (ι:=Nat×Tip) 2 (fun (i:Nat×Tip)=>match i with|(k,t)=>(((((((Fr.none).set 0 (.val (bsl blockT) l)).set 2 (.ptr 0 0)).set 4 (.ptr 1 0)).set 6 (.val i64T 0)).set 35 (.val (bsl blockT) (l.drop 1))).set 36 (.val i64T ((l.drop 1).length:Int))).set 37 (.val i64T (k:Int))) (fun (i:Nat×Tip)=>match i with|(k,t)=>((Hp.none).set 0 (.box 79 tipT zTip)).set 1 (.box 79 tipT t)) (fun (i:Nat×Tip)=>match i with|(k,t)=>k≤(l.drop 1).length∧smallN t k∧checkOf l=checkFrom t ((l.drop 1).drop k)) (fun (i:Nat×Tip)=>match i with|(k,t)=>(l.drop 1).length-k) ((0,firstTip g.h.bits)) (⟨Nat.zero_le _,first_small,checkOf_start hinv.1 hinv.2.1 hinv.2.2⟩) ?_
  intro ⟨k,t⟩ hin
  dsimp only at hin
  refine CQR ?_;refine A0 zC ?_;refine CNQ ?_
  refine Cf (p:=k<(l.drop 1).length) (fun ht38=>?_) (fun ht38=>?_)
  ·
   have hk38:k<l.length:=by rw [List.length_drop] at ht38;omega
   obtain ⟨b,hb⟩:∃b,(l.drop 1)[k]?=some b:=⟨_,List.getElem?_eq_getElem ht38⟩
   have hbm:=hl.2 b (List.mem_of_mem_drop (List.mem_of_getElem? hb))
   refine CSQBQR ?_;refine A0 (zD (i:=k) rfl rfl rfl (by omega) sl_46 (by assumption)) ?_;refine A0 (zg rfl rfl zbX) ?_;refine zf ze_75 rfl rfl rfl rfl ?_;refine za rfl rfl rfl rfl rfl (Lens.self _) zbX rfl ?_
   refine CNQR ?_;refine A0 (oLs rfl rfl rfl zbg) ?_;refine A0 (oLs rfl rfl rfl zbX) ?_;refine A0 (oCl (push_ok t b hin.2.1.1 hbm) rfl fn_105 ⟨(ze rfl),(ze rfl),trivial⟩) ?_;refine A0 mX ?_
   refine A0 (by first|exact z6 rfl rfl|exact zY rfl rfl) ?_;refine A0 (by first|exact z8 rfl rfl|exact z7 rfl rfl) ?_;refine za rfl rfl rfl rfl rfl (Lens.self _) zbg rfl ?_;refine A0 aV ?_;refine CNQR ?_
   refine A0 mV ?_;refine A0 zaz ?_;refine CN ?_
   refine zo (p:=¬pushE t b=0) rfl (by simp [IntL.toI]) (fun ht48=>?_) (fun ht48=>?_)
   ·
    refine CE ?_;refine CQQR ?_;refine A0 mV ?_;refine A0 zaz ?_;refine CN ?_;refine aw_if_t rfl (by simpa [IntL.toI] using ht48) ?_;refine CQR ?_;refine A0 (zab rfl zek bd_79 .nil rfl) ?_;refine A0 mV ?_
    refine za rfl rfl rfl rfl rfl (Lens.self _) zbg rfl ?_;refine A0 aV ?_;refine CN ?_
    exact zH rfl rfl (zE rfl rfl zbg (by rw [hin.2.2,check_stop hb ht48])) (zah (zd rfl (by rw [hin.2.2,check_stop hb ht48])))
   ·
    refine CSIR ?_;refine A0 zs ?_;refine A0 mV ?_;refine CN ?_;refine zl (d:=6) (y:=(0:Int)) rfl (Classical.not_not.1 ht48) ?_
    exact Nx ((k+1,pushT t b)) (⟨by omega,push_smallN hin.2.1 (by rw [List.length_drop] at ht38;omega) hbm (Classical.not_not.1 ht48),hin.2.2.trans (check_step hb (Classical.not_not.1 ht48))⟩) (by show (l.drop 1).length-(k+1)<(l.drop 1).length-k;omega)
  ·
   refine CE ?_;refine CQQR ?_;refine A0 mV ?_;refine A0 zaz ?_;refine CN ?_;refine Cg ?_;refine CSQR ?_;refine A0 (oLs rfl rfl rfl zbg) ?_;refine za rfl rfl rfl rfl rfl (Lens.self _) zbg rfl ?_;refine A0 aV ?_
   refine CN ?_
   exact zH rfl rfl (zE rfl rfl zbg (by rw [hin.2.2,check_end (by omega)])) (zah (zd rfl (by rw [hin.2.2,check_end (by omega)])))
 ·
  refine CQQR ?_;refine A0 mV ?_;refine A0 (zA rfl rfl isl_46) ?_;refine A0 zbb ?_;refine CN ?_
  refine Cf (p:=l.length=0) (fun ht11=>?_) (fun ht11=>?_)
  ·
   refine CQR ?_;refine A0 (zab rfl zek bd_79 .nil rfl) ?_;refine za rfl rfl rfl rfl rfl (Lens.self _) zbg rfl ?_;refine A0 aV ?_;refine CN ?_
   exact zH rfl rfl (zE rfl rfl zbg (by rw [checkOf_nil ht11])) (zah (zd rfl (by rw [checkOf_nil ht11])))
  ·
   obtain ⟨g,hg⟩:∃g,l[0]?=some g:=⟨_,List.getElem?_eq_getElem (by omega)⟩
   refine CSQR ?_;refine A0 mV ?_;refine A0 (zD (i:=0) rfl rfl rfl (by omega) sl_46 (by assumption)) ?_;refine A0 (oFr zbc zax) ?_;refine A0 (oFr zby zam) ?_;refine A0 (zg rfl rfl zae) ?_
   refine A0 (oCl (firstTip_ok g.h.bits) rfl fn_42 ⟨(by first|exact zI rfl|exact zW rfl|exact zQ rfl rfl|exact zU rfl|exact zJ rfl|exact zak rfl rfl|exact zV rfl),trivial⟩) ?_;refine A0 mX ?_
   refine A0 (by first|exact z6 rfl rfl|exact zY rfl rfl) ?_;refine A0 (by first|exact z8 rfl rfl|exact z7 rfl rfl) ?_;refine zf zek rfl rfl rfl rfl ?_
   refine za rfl rfl rfl rfl rfl (Lens.self _) zbg rfl ?_;refine A0 aV ?_;refine CNQ ?_;refine CQ ?_;refine CD mixed ?_;refine G0 mV ?_;refine G0 oN ?_;refine G0 mV ?_
   refine zag (d:=24) (p:=¬tgtOk g.h.bits=true) rfl (by cases tgtOk g.h.bits<;>rfl) (fun g24=>?_) (fun g24=>?_)
   ·
    refine G2 ?_;refine G2 ?_;refine G2 ?_;refine G2 ?_;refine G2 ?_;refine G2 ?_;refine G2 ?_;refine G0 oK ?_;refine GK.nil ?_;refine Ct ?_;refine CQR ?_;refine A0 (zab rfl zek bd_79 .nil rfl) ?_
    refine za rfl rfl rfl rfl rfl (Lens.self _) zbg rfl ?_;refine A0 aV ?_;refine CN ?_
    exact zH rfl rfl (zE rfl rfl zbg (by rw [zdt hg fun h=>g24 h.1])) (zah (zd rfl (by rw [zdt hg fun h=>g24 h.1])))
   ·
    refine G1 (oFp zcs) ?_;refine G1 (oLb zct zbX) ?_;refine G1 mV ?_;refine G1 (zD (i:=0) rfl rfl rfl (by omega) sl_46 (by assumption)) ?_;refine G1 (zg rfl rfl zbX) ?_
    refine G1 (oCl (sameB_ok _ _) rfl fn_104 ⟨(ze rfl),(by first|exact zI rfl|exact zW rfl|exact zQ rfl rfl|exact zU rfl|exact zJ rfl|exact zak rfl rfl|exact zV rfl),trivial⟩) ?_
    refine G1 oN ?_;refine G0 oK ?_;refine GK.nil ?_
    refine zo (p:=¬(firstTip g.h.bits).b=g) rfl (by simp) (fun ht32=>?_) (fun ht32=>?_)
    ·
     refine CQR ?_;refine A0 (zab rfl zek bd_79 .nil rfl) ?_;refine za rfl rfl rfl rfl rfl (Lens.self _) zbg rfl ?_;refine A0 aV ?_;refine CN ?_
     exact zH rfl rfl (zE rfl rfl zbg (by rw [zdt hg fun h=>ht32 h.2])) (zah (zd rfl (by rw [zdt hg fun h=>ht32 h.2])))
    ·
     refine CSQR ?_;refine A0 aV ?_;refine CNQ ?_
     exact aw_reach hreach (g) rfl (⟨hg,Classical.not_not.1 g24,Classical.not_not.1 ht32⟩) rfl (by (repeat refine Fr.le_set ?_ (by first|rfl|(simp;done)));exact Fr.le_none _) (by (repeat refine Hp.le_set ?_ rfl);exact Hp.le_none _) (by (repeat refine Fr.below_setB ?_ rfl);exact Fr.below_none _) (by (repeat refine Hp.below_set ?_ (by decide));exact Hp.below_none _)
theorem newC_ok (bits:UInt32):Tells P 51 [.val u32T bits] (.tup2 (.val (sl blockT) (newOf bits)) (.val boolT (tgtOk bits))):=by
 refine zc Tryz.func51 rfl rfl rfl (fun ext w hext=>?_)
 refine CQR ?_;refine A0 aL ?_;refine A0 aV ?_;refine CNQR ?_;refine A0 mV ?_;refine A0 (oCl (firstTip_ok bits) rfl fn_42 ⟨(ze rfl),trivial⟩) ?_;refine A0 mX ?_;refine A0 (by first|exact z6 rfl rfl|exact zY rfl rfl) ?_
 refine A0 (by first|exact z8 rfl rfl|exact z7 rfl rfl) ?_;refine zf zek rfl rfl rfl rfl ?_;refine za rfl rfl rfl rfl rfl (Lens.self _) zbg rfl ?_;refine A0 aV ?_;refine CNQQR ?_;refine A0 mV ?_
 refine A0 oN ?_;refine CN ?_
 refine zo (p:=¬tgtOk bits=true) rfl (by cases tgtOk bits<;>rfl) (fun ht12=>?_) (fun ht12=>?_)
 ·
  refine CQR ?_;refine A0 aL ?_;refine A0 aV ?_;refine CN ?_
  exact zad rfl rfl (by unfold newOf;rw [if_neg ht12];exact zeC rfl) (zd rfl (by simpa using ht12))
 ·
  refine CSQR ?_;refine A0 (oFp zcs) ?_;refine A0 (oLb zct zbX) ?_;refine A0 (zr (T:=blockT) (xs:=[_]) rfl sl_46 row_46 ⟨rfl,rfl,trivial⟩ rfl rfl) ?_;refine A0 aV ?_;refine A0 aV ?_;refine CN ?_
  exact zad rfl rfl (zd rfl (by unfold newOf;rw [if_pos (Classical.not_not.1 ht12)])) (zd rfl (Classical.not_not.1 ht12).symm)
theorem growC_ok (l:List Block) (t:List Tx) (nonce:UInt64) (hl:smallC l) (ht:smallL t):Tells P 52 [.val (bsl blockT) l,.val (sl txT) t,.val u64T nonce] (.tup2 (.fresh 75 blockT (growOf l t nonce)) (.val i64T (growE l t nonce))):=by
 have hll:=hl.1
 refine zc Tryz.func52 rfl rfl rfl (fun ext w hext=>?_)
 refine zh (d:=0) rfl zn (fun hsl0=>?_)
 refine zh (d:=1) rfl zn (fun hsl1=>?_)
 refine CQR ?_;refine A0 aL ?_;refine A0 aV ?_;refine CNQR ?_;refine A0 mV ?_;refine zaN (ownC_ok l hl) rfl fn_76 ⟨(ze rfl),trivial⟩ rfl rfl rfl ?_;refine A0 aO ?_;refine CNQR ?_;refine A0 mV ?_
 refine A0 (oCl (check_ok l hl) rfl fn_73 ⟨(ze rfl),trivial⟩) ?_;refine A0 mX ?_;refine A0 (by first|exact z6 rfl rfl|exact zY rfl rfl) ?_;refine A0 (by first|exact z8 rfl rfl|exact z7 rfl rfl) ?_
 refine zf zek rfl rfl rfl rfl ?_;refine za rfl rfl rfl rfl rfl (Lens.self _) zbg rfl ?_;refine A0 aV ?_;refine CNQQR ?_;refine A0 mV ?_;refine A0 zaz ?_;refine CN ?_
 refine zo (p:=¬(checkOf l).2=0) rfl (by simp [IntL.toI]) (fun ht20=>?_) (fun ht20=>?_)
 ·
  have hE:growE l t nonce=(checkOf l).2:=by unfold growE;rw [if_neg ht20]
  have hG:growOf l t nonce=l:=by unfold growOf;rw [hE,if_neg ht20]
  refine CQR ?_;refine A0 mO ?_;refine A0 mV ?_;refine A0 aO ?_;refine A0 aV ?_;refine CN ?_
  exact zad rfl rfl (zi rfl rfl (by rw [hG])) (zd rfl hE.symm)
 ·
  refine CSQR ?_;refine A0 (oLs rfl rfl rfl zbg) ?_;refine A0 mV ?_;refine A0 mV ?_;refine A0 (oCl (mineB_ok (checkOf l).1 t nonce 200 (check_small hl) ht) rfl fn_77 ⟨(ze rfl),(ze rfl),(ze rfl),(ze rfl),trivial⟩) ?_
  refine A0 mX ?_;refine A0 (by first|exact z6 rfl rfl|exact zY rfl rfl) ?_;refine A0 (by first|exact z8 rfl rfl|exact z7 rfl rfl) ?_;refine zf ze_75 rfl rfl rfl rfl ?_
  refine za rfl rfl rfl rfl rfl (Lens.self _) zbX rfl ?_;refine A0 aV ?_;refine CNQQR ?_;refine A0 mV ?_;refine A0 zaz ?_;refine CN ?_
  refine zo (p:=¬mineBE (checkOf l).1 t nonce 200=0) rfl (by simp [IntL.toI]) (fun ht31=>?_) (fun ht31=>?_)
  ·
   have hE:growE l t nonce=mineBE (checkOf l).1 t nonce 200:=by unfold growE;rw [if_pos (Classical.not_not.1 ht20)]
   have hG:growOf l t nonce=l:=by unfold growOf;rw [hE,if_neg ht31]
   refine CQR ?_;refine A0 mO ?_;refine A0 mV ?_;refine A0 aO ?_;refine A0 aV ?_;refine CN ?_
   exact zad rfl rfl (zi rfl rfl (by rw [hG])) (zd rfl hE.symm)
  ·
   have hE:growE l t nonce=0:=by unfold growE;rw [if_pos (Classical.not_not.1 ht20)];exact Classical.not_not.1 ht31
   have hG:growOf l t nonce=l++[mineB (checkOf l).1 t nonce 200]:=by unfold growOf;rw [if_pos hE]
   refine CSQR ?_;refine A0 mO ?_;refine A0 (oLs rfl rfl rfl zbX) ?_;refine A0 (zr (T:=blockT) (xs:=[_]) rfl sl_46 row_46 ⟨rfl,rfl,trivial⟩ rfl rfl) ?_;refine zu rfl rfl rfl rfl rfl rfl rfl row_46 (by simp;omega) ?_
   refine A0 aO ?_;refine A0 aV ?_;refine CN ?_
   exact zad rfl rfl (zi rfl rfl (by rw [hG])) (zd rfl hE.symm)
end Go.Proofs.YtdeghaedeefooaaGreat
set_option maxRecDepth 20000
namespace Go.Proofs.YtdeghaedeefooaaGreat
open Go.Ab Go.RowKit
def sortI_ren:Go.Shelf.Ren:=⟨fun|189=>172|125=>193|257=>209|128=>224|129=>225|294=>233|295=>234|296=>235|297=>236|298=>237|299=>238|216=>239|300=>240|301=>241|328=>260|329=>261|330=>262|331=>263|332=>264|215=>265|343=>274|n=>n,fun|28=>22|3=>3|46=>134|0=>0|51=>53|53=>50|4=>4|183=>272|182=>271|131=>276|5=>5|9=>9|218=>294|222=>298|228=>309|229=>30|n=>n,fun|n=>n⟩
theorem sortI:Go.Proofs.Lays.n189 P sortI_ren:={
  mixed:=by kernel_rfl,
  f125:=Tryz.func193.trans (congrArg some (by kernel_rfl)),
  f128:=Tryz.func224.trans (congrArg some (by kernel_rfl)),
  f129:=Tryz.func225.trans (congrArg some (by kernel_rfl)),
  f189:=Tryz.func172.trans (congrArg some (by kernel_rfl)),
  f215:=Tryz.func265.trans (congrArg some (by kernel_rfl)),
  f216:=Tryz.func239.trans (congrArg some (by kernel_rfl)),
  f257:=Tryz.func209.trans (congrArg some (by kernel_rfl)),
  f294:=Tryz.func233.trans (congrArg some (by kernel_rfl)),
  f295:=Tryz.func234.trans (congrArg some (by kernel_rfl)),
  f296:=Tryz.func235.trans (congrArg some (by kernel_rfl)),
  f297:=Tryz.func236.trans (congrArg some (by kernel_rfl)),
  f298:=Tryz.func237.trans (congrArg some (by kernel_rfl)),
  f299:=Tryz.func238.trans (congrArg some (by kernel_rfl)),
  f300:=Tryz.func240.trans (congrArg some (by kernel_rfl)),
  f301:=Tryz.func241.trans (congrArg some (by kernel_rfl)),
  f328:=Tryz.func260.trans (congrArg some (by kernel_rfl)),
  f329:=Tryz.func261.trans (congrArg some (by kernel_rfl)),
  f330:=Tryz.func262.trans (congrArg some (by kernel_rfl)),
  f331:=Tryz.func263.trans (congrArg some (by kernel_rfl)),
  f332:=Tryz.func264.trans (congrArg some (by kernel_rfl)),
  f343:=Tryz.func274.trans (congrArg some (by kernel_rfl)),
  t0:=Tryz.underlying0,
  a0:=Tryz.isAgg0,
  z0:=Tryz.sizeOf0,
  v0:=Tryz.zeroValue0,
  t3:=Tryz.underlying3,
  a3:=Tryz.isAgg3,
  z3:=Tryz.sizeOf3,
  v3:=Tryz.zeroValue3,
  t4:=Tryz.underlying4,
  a4:=Tryz.isAgg4,
  z4:=Tryz.sizeOf4,
  v4:=Tryz.zeroValue4,
  t5:=Tryz.underlying5,
  a5:=Tryz.isAgg5,
  z5:=Tryz.sizeOf5,
  v5:=Tryz.zeroValue5,
  t9:=Tryz.underlying9,
  a9:=Tryz.isAgg9,
  z9:=Tryz.sizeOf9,
  v9:=Tryz.zeroValue9,
  t28:=Tryz.underlying22,
  a28:=Tryz.isAgg22,
  z28:=Tryz.sizeOf22,
  v28:=Tryz.zeroValue22,
  t46:=Tryz.underlying134,
  a46:=Tryz.isAgg134,
  z46:=Tryz.sizeOf134,
  v46:=Tryz.zeroValue134,
  t51:=Tryz.underlying53,
  a51:=Tryz.isAgg53,
  z51:=Tryz.sizeOf53,
  v51:=Tryz.zeroValue53,
  t53:=Tryz.underlying50,
  a53:=Tryz.isAgg50,
  z53:=Tryz.sizeOf50,
  v53:=Tryz.zeroValue50,
  t131:=Tryz.underlying276,
  a131:=Tryz.isAgg276,
  z131:=Tryz.sizeOf276,
  v131:=Tryz.zeroValue276,
  t182:=Tryz.underlying271,
  a182:=Tryz.isAgg271,
  z182:=Tryz.sizeOf271,
  v182:=Tryz.zeroValue271,
  t183:=Tryz.underlying272,
  a183:=Tryz.isAgg272,
  z183:=Tryz.sizeOf272,
  v183:=Tryz.zeroValue272,
  t218:=Tryz.underlying294,
  a218:=Tryz.isAgg294,
  z218:=Tryz.sizeOf294,
  v218:=Tryz.zeroValue294,
  t222:=Tryz.underlying298,
  a222:=Tryz.isAgg298,
  z222:=Tryz.sizeOf298,
  v222:=Tryz.zeroValue298,
  t228:=Tryz.underlying309,
  a228:=Tryz.isAgg309,
  z228:=Tryz.sizeOf309,
  v228:=Tryz.zeroValue309,
  t229:=Tryz.underlying30,
  a229:=Tryz.isAgg30,
  z229:=Tryz.sizeOf30,
  v229:=Tryz.zeroValue30 }
theorem sortInt_ok (l:List Int) (hn:l.length<1000000000):TellsM P 172 (.row 3 i64T l) [.own 0] (.lit (.tuple #[])) (.row 3 i64T (sortInts l)):=sorti_tells sortI hn
def mayV (v:List Int):Bool:=decide (0<v.length∧v.length≤200∧v[0]?=some 31) && !(v.any fun n=>decide (n<0∨31<n))
def mayP (v:List Int) (m k:Int):Bool:=mayV v&&decide (1≤m∧1≤k∧k<v.length)
def upR (v:List Int) (n:Int) (a i:Nat):List Int:=((List.range' a (i-a)).filter fun j:Nat=>decide (n≤v.getD j 0)).map fun j:Nat=>(j:Int)
def upOf (v:List Int) (a b n:Int):List Int:=upR v n (max a 0).toNat (min b v.length).toNat
theorem upR_length (v:List Int) (n:Int) (a i:Nat):(upR v n a i).length≤i-a:=by
  unfold upR
  rw [List.length_map]
  exact Nat.le_trans (List.length_filter_le _ _) (by simp)
theorem up_length (v:List Int) (a b n:Int):(upOf v a b n).length≤v.length:=Nat.le_trans (upR_length ..) (by omega)
theorem upR_same (v:List Int) (n:Int) (a:Nat):upR v n a a=[]:=by unfold upR;simp
theorem upR_succ {v:List Int} {n x:Int} {a i:Nat} (hx:v[i]?=some x) (ha:a≤i):upR v n a (i+1)=upR v n a i++(if n≤x then [(i:Int)] else []):=by
  unfold upR
  rw [show i+1-a=(i-a)+1 by omega,List.range'_1_concat,show a+(i-a)=i by omega,List.filter_append,List.map_append]
  congr 1
  have:v.getD i 0=x:=by simp [hx]
  by_cases c:n≤x<;>simp [c,hx]
theorem upR_yes {v:List Int} {n x:Int} {a i:Nat} (hx:v[i]?=some x) (ha:a≤i) (h:n≤x):upR v n a (i+1)=upR v n a i++[(i:Int)]:=by rw [upR_succ hx ha,if_pos h]
theorem upR_no {v:List Int} {n x:Int} {a i:Nat} (hx:v[i]?=some x) (ha:a≤i) (h:¬n≤x):upR v n a (i+1)=upR v n a i:=by rw [upR_succ hx ha,if_neg h,List.append_nil]
theorem upR_empty {v:List Int} {n:Int} {a i:Nat} (h:i≤a):upR v n a i=[]:=by unfold upR;rw [show i-a=0 by omega];rfl
theorem upOf_end {v:List Int} {a b n:Int} {i:Nat} (h1:(max a 0).toNat≤i) (h2:(i:Int)≤min b v.length∨i=(max a 0).toNat) (h3:¬(i:Int)<min b v.length):upR v n (max a 0).toNat i=upOf v a b n:=by
  unfold upOf
  by_cases c:(i:Int)=min b v.length
  · rw [show (min b v.length).toNat=i by omega]
  · rw [upR_empty (by omega),upR_empty (by omega)]
theorem mem_upR {v:List Int} {n:Int} {a i:Nat} {x:Int}:x∈upR v n a i↔∃j:Nat,x=j∧a≤j∧j<i∧n≤v.getD j 0:=by
  unfold upR
  simp only [List.mem_map,List.mem_filter,List.mem_range'_1,decide_eq_true_eq]
  constructor
  · rintro ⟨j,⟨h1,h2⟩,rfl⟩;exact ⟨j,rfl,h1.1,by omega,h2⟩
  · rintro ⟨j,rfl,h1,h2,h3⟩;exact ⟨j,⟨⟨h1,by omega⟩,h3⟩,rfl⟩
theorem mem_up {v:List Int} {a b n x:Int}:x∈upOf v a b n↔∃j:Nat,x=j∧a≤j∧(j:Int)<b∧j<v.length∧n≤v.getD j 0:=by
  unfold upOf
  rw [mem_upR]
  constructor
  · rintro ⟨j,rfl,h1,h2,h3⟩;exact ⟨j,rfl,by omega,by omega,by omega,h3⟩
  · rintro ⟨j,rfl,h1,h2,h3,h4⟩;exact ⟨j,rfl,by omega,by omega,h4⟩
def climbS (v:List Int) (m k:Int):Nat→Int×List Int
  | 0=>(0,[])
  | i+1 =>
    (if m<(upOf v (climbS v m k i).1 ((v.length:Int)-k) (31-(i:Int))).length then (upOf v (climbS v m k i).1 ((v.length:Int)-k) (31-(i:Int))).getD ((upOf v (climbS v m k i).1 ((v.length:Int)-k) (31-(i:Int))).length-m.toNat) 0 else (climbS v m k i).1,
      (upOf v (climbS v m k i).1 ((v.length:Int)-k) (31-(i:Int))).foldl setAdd (climbS v m k i).2)
def prefixOf (v:List Int) (m k:Int):List Int×Bool:=if mayP v m k=true then (sortInts (climbS v m k 32).2,true) else ([],false)
theorem climb_from_yes {v L:List Int} {m k c:Int} {i:Nat} (hL:L=upOf v (climbS v m k i).1 ((v.length:Int)-k) (31-(i:Int))) (hc:L[L.length-m.toNat]?=some c) (h:m<L.length):c=(climbS v m k (i+1)).1:=by
  show c=if _ then _ else _
  rw [←hL,if_pos h];simp [hc]
theorem climb_from_no {v L:List Int} {m k:Int} {i:Nat} (hL:L=upOf v (climbS v m k i).1 ((v.length:Int)-k) (31-(i:Int))) (h:¬m<L.length):(climbS v m k i).1=(climbS v m k (i+1)).1:=by
  show _=if _ then _ else _
  rw [←hL,if_neg h]
theorem fold_setAdd:∀(L K:List Int) (x:Int),x∈L.foldl setAdd K↔x∈K∨x∈L
  | [],K,x=>by simp
  | y::L,K,x=>by rw [List.foldl_cons,fold_setAdd L,mem_setAdd,List.mem_cons];exact ⟨fun h=>by rcases h with (h|h)|h<;>simp [h],fun h=>by rcases h with h|h|h<;>simp [h]⟩
theorem fold_nodup:∀(L K:List Int),K.Nodup→(L.foldl setAdd K).Nodup
  | [],K,h=>h
  | y::L,K,h=>fold_nodup L _ (setAdd_nodup h)
theorem mayP_spec {v:List Int} {m k:Int} (h:mayP v m k=true):mayV v=true∧1≤m∧1≤k∧k<v.length:=by
  unfold mayP at h
  rw [Bool.and_eq_true,decide_eq_true_eq] at h
  exact h
theorem mayV_spec {v:List Int} (h:mayV v=true):0<v.length∧v.length≤200∧v[0]?=some 31∧∀n∈v,0≤n∧n≤31:=by
  unfold mayV at h
  rw [Bool.and_eq_true,decide_eq_true_eq,Bool.not_eq_true',List.any_eq_false] at h
  refine ⟨h.1.1,h.1.2.1,h.1.2.2,fun n hn=>?_⟩
  have:=h.2 n hn
  rw [decide_eq_true_eq] at this
  omega
theorem mayP_len {v:List Int} {m k:Int} (h:mayP v m k=true):1≤m∧1≤k∧k<v.length∧v.length≤200:=⟨(mayP_spec h).2.1,(mayP_spec h).2.2.1,(mayP_spec h).2.2.2,(mayV_spec (mayP_spec h).1).2.1⟩
theorem climb_ok {v:List Int} {m k:Int} (h:mayP v m k=true):∀i:Nat,i≤32→(0≤(climbS v m k i).1∧(climbS v m k i).1<v.length)∧(climbS v m k i).2.Nodup∧∀x∈(climbS v m k i).2,0≤x∧x<(v.length:Int)-k
  | 0,_=>by
    have:=mayP_len h
    exact ⟨⟨Int.le_refl _,by show (0:Int)<_;omega⟩,List.nodup_nil,fun x hx=>by cases hx⟩
  | i+1,hi=>by
    obtain ⟨h1,h2,h3⟩:=climb_ok h i (by omega)
    have hl:=mayP_len h
    obtain ⟨L,hL⟩:∃L,L=upOf v (climbS v m k i).1 ((v.length:Int)-k) (31-(i:Int)):=⟨_,rfl⟩
    have hm:∀x∈L,0≤x∧x<(v.length:Int)-k:=fun x hx=>by
      rw [hL] at hx
      obtain ⟨j,rfl,_,h5,_⟩:=mem_up.1 hx
      omega
    refine ⟨?_,?_,?_⟩
    · by_cases c:m<L.length
      · obtain ⟨z,hz⟩:∃z,L[L.length-m.toNat]?=some z:=⟨_,List.getElem?_eq_getElem (by omega)⟩
        rw [←climb_from_yes hL hz c]
        have:=hm z (List.mem_of_getElem? hz)
        omega
      · rw [←climb_from_no hL c];exact h1
    · show (List.foldl setAdd _ _).Nodup
      exact fold_nodup _ _ h2
    · intro x hx
      have hx:x∈(upOf v (climbS v m k i).1 ((v.length:Int)-k) (31-(i:Int))).foldl setAdd (climbS v m k i).2:=hx
      rw [←hL,fold_setAdd] at hx
      exact hx.elim (h3 x) (hm x)
theorem filter_two {α:Type} (p:α→Bool):∀l:List α,l.length=(l.filter p).length+(l.filter fun x=>!p x).length
  | []=>rfl
  | x::l=>by
    have:=filter_two p l
    cases h:p x<;>simp [h,this]<;>omega
theorem nodup_le:∀{n:Nat} {l:List Nat},l.Nodup→(∀i∈l,i<n)→l.length≤n
  | 0,[],_,_=>Nat.le_refl _
  | 0,x::l,_,h=>absurd (h x (List.mem_cons_self ..)) (Nat.not_lt_zero _)
  | n+1,l,hd,h=>by
    have h1:(l.filter fun i=>decide (i≠n)).length≤n:=nodup_le (hd.sublist List.filter_sublist) (fun i hi=>by
      rw [List.mem_filter] at hi
      have:=h i hi.1
      have:=of_decide_eq_true hi.2
      omega)
    have h2:(l.filter fun i=>!decide (i≠n)).length≤1:=by
      have hs:(l.filter fun i=>!decide (i≠n)).Nodup:=hd.sublist List.filter_sublist
      match hf:l.filter (fun i=>!decide (i≠n)) with
      | []=>simp
      | [_]=>simp
      | a::b::_ =>
        rw [hf] at hs
        have ha:a∈l.filter fun i=>!decide (i≠n):=by rw [hf];simp
        have hb:b∈l.filter fun i=>!decide (i≠n):=by rw [hf];simp
        simp only [List.mem_filter,Bool.not_eq_true',decide_eq_false_iff_not,Decidable.not_not] at ha hb
        simp [ha.2,hb.2] at hs
    have h3:=filter_two (fun i=>decide (i≠n)) l
    omega
theorem seen_step {K : List Int} {seen : List Nat} {i : Nat} {v : Int} (hs : seen.Nodup ∧ ∀ i ∈ seen, i < K.length) (hv : K[i]? = some v) (hi : i ∉ seen) :
    ((seen++[i]).Nodup∧∀j∈seen++[i],j<K.length)∧K.length-(seen++[i]).length<K.length-seen.length∧seen.length<K.length:=by
  have h1:(seen++[i]).Nodup∧∀j∈seen++[i],j<K.length:=⟨List.nodup_append.2 ⟨hs.1,by simp,fun a ha b hb=>by simp at hb;subst hb;exact fun e=>hi (e▸ha)⟩,fun j hj=>by
    rcases List.mem_append.1 hj with h|h
    · exact hs.2 j h
    · simp at h;subst h;exact (List.getElem?_eq_some_iff.1 hv).1⟩
  have h2:=nodup_le h1.1 h1.2
  simp only [List.length_append,List.length_cons,List.length_nil] at h2
  exact ⟨h1,by simp;omega,by omega⟩
theorem seen_all {K:List Int} {seen:List Nat} (hs:seen.Nodup∧∀i∈seen,i<K.length) (h:∀i,i<K.length→i∈seen):(seen.map fun i=>K.getD i 0).Perm K:=by
  have h1:seen.Perm (List.range K.length):=(List.perm_ext_iff_of_nodup hs.1 List.nodup_range).2 fun i=>by rw [List.mem_range];exact ⟨hs.2 i,h i⟩
  refine (h1.map _).trans ?_
  have:(List.range K.length).map (fun i=>K.getD i 0)=K:=by
    apply List.ext_getElem?
    intro i
    rw [List.getElem?_map]
    by_cases c:i<K.length
    · rw [List.getElem?_range c,List.getElem?_eq_getElem c];simp [c]
    · rw [List.getElem?_eq_none (by simpa using c),List.getElem?_eq_none (by omega)];rfl
  rw [this]
theorem sort_mem {l:List Int} {x:Int}:x∈sortInts l↔x∈l:=(List.mergeSort_perm l _).mem_iff
theorem sort_rising (l:List Int):(sortInts l).Pairwise fun a b=>a≤b:=by
  have:=List.pairwise_mergeSort (le:=fun x y:Int=>decide (x≤y)) (fun a b c h1 h2=>by simp at *;omega) (fun a b=>by simp;omega) l
  exact this.imp fun h=>of_decide_eq_true h
theorem sort_perm {l r:List Int} (h:l.Perm r):sortInts l=sortInts r :=
  (((List.mergeSort_perm l _).trans h).trans (List.mergeSort_perm r _).symm).eq_of_pairwise (fun a b _ _ h1 h2=>Int.le_antisymm h1 h2) (sort_rising l) (sort_rising r)
theorem climb_length {v K:List Int} {m k a:Int} (h:(0≤a∧a<v.length)∧K.Nodup∧∀x∈K,0≤x∧x<(v.length:Int)-k) (hl:1≤m∧1≤k∧k<v.length∧v.length≤200):K.length≤200:=by
  have h1:(K.map Int.toNat).length≤v.length:=nodup_le (by
    rw [List.Nodup,List.pairwise_map]
    exact h.2.1.imp_of_mem fun {a b} ha hb hne=>by
      have:=h.2.2 a ha
      have:=h.2.2 b hb
      omega) (fun i hi=>by
    obtain ⟨x,hx,rfl⟩:=List.mem_map.1 hi
    have:=h.2.2 x hx
    omega)
  rw [List.length_map] at h1
  omega
theorem indexFuncInt (l:List Int) (p:Int→Bool):Tells P 232 [.val (bsl i64T) l,.fn1 P i64T boolT p] (.val i64T (idx p l)):=by
 refine zc Tryz.func232 rfl rfl rfl (fun ext w hext=>?_)
 refine zh (d:=0) rfl zn (fun hsl0=>?_)
 refine CQR ?_;refine A0 aV ?_;refine CNQQR ?_;refine A0 mV ?_;refine A0 (zA rfl rfl zdm) ?_;refine A0 mV ?_;refine CNB ?_
 refine Lp (ι:=Nat) 0 (fun (k:Nat)=>(((((Fr.none).set 0 (.val (bsl i64T) l)).set 1 (.fn1 P i64T boolT p)).set 6 (.val (bsl i64T) l)).set 7 (.val i64T (l.length:Int))).set 8 (.val i64T (k:Int))) (fun (k:Nat)=>Hp.none) (fun (k:Nat)=>k≤l.length∧idx p l=shift k (idx p (l.drop k))) (fun (k:Nat)=>l.length-k) (0) (⟨Nat.zero_le _,zdx p l⟩) ?_
 intro k hinv
 refine CQR ?_;refine A0 zC ?_;refine CNQ ?_
 refine Cf (p:=k<l.length) (fun ht9=>?_) (fun ht9=>?_)
 ·
  obtain ⟨x,hx⟩:∃x,l[k]?=some x:=⟨_,List.getElem?_eq_getElem ht9⟩
  refine CSQBQR ?_;refine A0 mV ?_;refine A0 aV ?_;refine CNQR ?_;refine A0 mF ?_;refine A0 mV ?_;refine A0 mV ?_;refine A0 (zaq rfl rfl rfl zdq (by assumption)) ?_;refine A0 (zg rfl rfl ty_3) ?_
  refine A0 (zeG rfl rfl (by first|exact zI rfl|exact zW rfl|exact zQ rfl rfl|exact zU rfl|exact zJ rfl|exact zak rfl rfl|exact zV rfl)) ?_;refine CN ?_
  refine zo (p:=p x=true) rfl (by simp) (fun ht16=>?_) (fun ht16=>?_)
  ·
   refine CQR ?_;refine A0 mV ?_;refine A0 aV ?_;refine CN ?_
   exact zb rfl rfl (zd rfl (hinv.2.trans (idx_yes hx ht16)).symm)
  ·
   refine CSIR ?_;refine A0 zs ?_;refine A0 mV ?_;refine CN ?_
   exact Nx (k+1) (⟨by omega,hinv.2.trans (idx_no hx ht16)⟩) (by omega)
 ·
  refine CE ?_;refine CQR ?_;refine A0 aV ?_;refine CN ?_
  exact zb rfl rfl (zd rfl (hinv.2.trans (idx_end (by omega))).symm)
theorem containsFuncInt (l:List Int) (p:Int→Bool):Tells P 207 [.val (bsl i64T) l,.fn1 P i64T boolT p] (.val boolT (l.any p)):=by
 refine zc Tryz.func207 rfl rfl rfl (fun ext w hext=>?_)
 refine zh (d:=0) rfl zn (fun hsl0=>?_)
 refine CQR ?_;refine A0 aV ?_;refine CNQR ?_;refine A0 mV ?_;refine A0 mF ?_;refine A0 (oCl (indexFuncInt _ _) rfl fn_232 ⟨(ze rfl),(zak rfl rfl),trivial⟩) ?_;refine A0 zbf ?_;refine A0 aV ?_;refine CN ?_
 exact zb rfl rfl (zd rfl (idx_any p l))
theorem mayN_ok (n:Int):Tells P 206 [.val i64T n] (.val boolT (decide (n<0∨31<n))):=by
 refine zc Tryz.func206 rfl rfl rfl (fun ext w hext=>?_)
 refine zh (d:=0) rfl zR (fun hin0=>?_)
 refine CQR ?_;refine A0 aV ?_;refine CNQR ?_;refine A0 mV ?_;refine A0 zC ?_;refine A0 mV ?_
 refine Sp (d:=5) (p:=n<0) (fun g5=>?_) (fun g5=>?_)
 ·
  refine A2 ?_;refine A2 ?_;refine A0 oK ?_;refine A0 aV ?_;refine CN ?_
  exact zb rfl rfl (zd rfl ((decide_eq_true (.inl g5)).symm))
 ·
  refine A1 mV ?_;refine A1 zaP ?_;refine A0 oK ?_;refine A0 aV ?_;refine CN ?_
  exact zb rfl rfl (zd rfl (by rw [decide_eq_decide];simp only [IntL.toI,id_eq];omega))
theorem mayV_ok (v:List Int):Tells P 169 [.val (bsl i64T) v] (.val boolT (mayV v)):=by
 refine zc Tryz.func169 rfl rfl rfl (fun ext w hext=>?_)
 refine zh (d:=0) rfl zn (fun hsl0=>?_)
 refine CQR ?_;refine A0 aV ?_;refine CNQR ?_;refine A0 aC ?_;refine CNQR ?_;refine A0 mV ?_;refine A0 (zA rfl rfl zdm) ?_;refine A0 zaP ?_;refine A0 mV ?_
 refine Sp (d:=7) (p:=0<v.length) (fun g7=>?_) (fun g7=>?_)
 ·
  refine A1 mV ?_;refine A1 (zA rfl rfl zdm) ?_;refine A1 o_leq ?_;refine A0 oK ?_;refine A0 mV ?_
  refine Sp (d:=12) (p:=v.length≤200) (fun g12=>?_) (fun g12=>?_)
  ·
   obtain ⟨x,hx⟩:∃x,v[0]?=some x:=⟨_,List.getElem?_eq_getElem g7⟩
   refine A1 mV ?_;refine A1 (zD (i:=0) rfl rfl rfl (by omega) zdq (by assumption)) ?_;refine A1 (zg rfl rfl ty_3) ?_;refine A1 zbb ?_;refine A0 oK ?_;refine A0 mV ?_
   refine Sp (d:=18) (p:=x=31) (fun g18=>?_) (fun g18=>?_)
   ·
    refine A1 mV ?_;refine A1 mC ?_
    refine A1 (oCl (containsFuncInt v (fun n=>decide (n<0∨31<n))) rfl fn_207 ⟨(ze rfl),(by first|exact zcL (Cs:=[]) rfl fn_206 (by intro n hn;cases hn) trivial rfl (fun x=>mayN_ok x)|exact zcK (Cs:=[]) rfl fn_206 (by intro n hn;cases hn) trivial rfl (fun x y=>mayN_ok x)|exact zcM rfl),trivial⟩) ?_
    refine A1 oN ?_;refine A0 oK ?_;refine A0 aV ?_;refine CN ?_
    exact zb rfl rfl (zd rfl ((by unfold mayV;rw [decide_eq_true ⟨g7,g12,by rw [hx,g18]⟩];rfl)))
   ·
    refine A2 ?_;refine A2 ?_;refine A2 ?_;refine A2 ?_;refine A0 oK ?_;refine A0 aV ?_;refine CN ?_
    exact zb rfl rfl (zd rfl ((by unfold mayV;rw [decide_eq_false (fun h=>g18 (by have:=h.2.2;rw [hx] at this;exact Option.some.inj this))];rfl)))
  ·
   refine A2 ?_;refine A2 ?_;refine A2 ?_;refine A2 ?_;refine A0 oK ?_;refine A0 mV ?_;refine A2 ?_;refine A2 ?_;refine A2 ?_;refine A2 ?_;refine A0 oK ?_;refine A0 aV ?_;refine CN ?_
   exact zb rfl rfl (zd rfl ((by unfold mayV;rw [decide_eq_false (fun h=>g12 h.2.1)];rfl)))
 ·
  refine A2 ?_;refine A2 ?_;refine A2 ?_;refine A0 oK ?_;refine A0 mV ?_;refine A2 ?_;refine A2 ?_;refine A2 ?_;refine A2 ?_;refine A0 oK ?_;refine A0 mV ?_;refine A2 ?_;refine A2 ?_;refine A2 ?_;refine A2 ?_;refine A0 oK ?_
  refine A0 aV ?_;refine CN ?_
  exact zb rfl rfl (zd rfl ((by unfold mayV;rw [decide_eq_false (fun h=>g7 h.1)];rfl)))
theorem mayP_ok (v:List Int) (m k:Int):Tells P 108 [.val (bsl i64T) v,.val i64T m,.val i64T k] (.val boolT (mayP v m k)):=by
 refine zc Tryz.func108 rfl rfl rfl (fun ext w hext=>?_)
 refine zh (d:=0) rfl zn (fun hsl0=>?_)
 refine zh (d:=1) rfl zR (fun hin1=>?_)
 refine zh (d:=2) rfl zR (fun hin2=>?_)
 refine CQR ?_;refine A0 aV ?_;refine CNQR ?_;refine A0 mV ?_;refine A0 (oCl (mayV_ok v) rfl fn_169 ⟨(ze rfl),trivial⟩) ?_;refine A0 mV ?_
 refine Sp (d:=9) (p:=mayV v=true) (fun g9=>?_) (fun g9=>?_)
 ·
  refine A1 mV ?_;refine A1 zbf ?_;refine A0 oK ?_;refine A0 mV ?_
  refine Sp (d:=13) (p:=1≤m) (fun g13=>?_) (fun g13=>?_)
  ·
   refine A1 mV ?_;refine A1 zbf ?_;refine A0 oK ?_;refine A0 mV ?_
   refine Sp (d:=17) (p:=1≤k) (fun g17=>?_) (fun g17=>?_)
   ·
    refine A1 mV ?_;refine A1 (zA rfl rfl zdm) ?_;refine A1 mV ?_;refine A1 zaP ?_;refine A0 oK ?_;refine A0 aV ?_;refine CN ?_
    exact zb rfl rfl (zd rfl ((by unfold mayP;rw [g9,Bool.true_and,decide_eq_decide];simp only [IntL.toI,id_eq];omega)))
   ·
    refine A2 ?_;refine A2 ?_;refine A2 ?_;refine A2 ?_;refine A0 oK ?_;refine A0 aV ?_;refine CN ?_
    exact zb rfl rfl (zd rfl ((by unfold mayP;rw [decide_eq_false (fun h=>g17 h.2.1),Bool.and_false])))
  ·
   refine A2 ?_;refine A2 ?_;refine A0 oK ?_;refine A0 mV ?_;refine A2 ?_;refine A2 ?_;refine A2 ?_;refine A2 ?_;refine A0 oK ?_;refine A0 aV ?_;refine CN ?_
   exact zb rfl rfl (zd rfl ((by unfold mayP;rw [decide_eq_false (fun h=>g13 h.1),Bool.and_false])))
 ·
  refine A2 ?_;refine A2 ?_;refine A0 oK ?_;refine A0 mV ?_;refine A2 ?_;refine A2 ?_;refine A0 oK ?_;refine A0 mV ?_;refine A2 ?_;refine A2 ?_;refine A2 ?_;refine A2 ?_;refine A0 oK ?_;refine A0 aV ?_;refine CN ?_
  exact zb rfl rfl (zd rfl ((by unfold mayP;rw [Bool.eq_false_iff.2 g9];rfl)))
theorem up_ok (v:List Int) (a b n:Int) (hl:v.length≤1000000000000):Tells P 170 [.val (bsl i64T) v,.val i64T a,.val i64T b,.val i64T n] (.fresh 3 i64T (upOf v a b n)):=by
 refine zc Tryz.func170 rfl rfl rfl (fun ext w hext=>?_)
 refine zh (d:=0) rfl zn (fun hsl0=>?_)
 refine zh (d:=1) rfl zR (fun hin1=>?_)
 refine zh (d:=2) rfl zR (fun hin2=>?_)
 refine zh (d:=3) rfl zR (fun hin3=>?_)
 refine CQR ?_;refine A0 aL ?_;refine CNQR ?_;refine A0 aL ?_;refine CNQQR ?_;refine A0 mV ?_;refine A0 (g_max rfl rfl rfl) ?_;refine A0 aV ?_;refine CNB ?_
 refine zl (d:=10) (y:=(((max a 0).toNat:Nat):Int)) rfl (by first|omega|(simp only [IntL.toI,id_eq];omega)) ?_;refine zbp (T:=i64T) (d:=9) 3 rfl ?_
 refine zO (n:=0) (y:=upR v n (max a 0).toNat (max a 0).toNat) rfl (upR_same v n _).symm ?_
 refine Lp (ι:=Nat) 1 (fun (i:Nat)=>(((((Fr.none).set 0 (.val (bsl i64T) v)).set 2 (.val i64T b)).set 3 (.val i64T n)).set 9 (.own 0)).set 10 (.val i64T (i:Int))) (fun (i:Nat)=>(Hp.none).set 0 (.row 3 i64T (upR v n (max a 0).toNat i))) (fun (i:Nat)=>(max a 0).toNat≤i∧((i:Int)≤min b v.length∨i=(max a 0).toNat)) (fun (i:Nat)=>v.length-i) ((max a 0).toNat) (⟨Nat.le_refl _,.inr rfl⟩) ?_
 intro i hinv
 refine CQQR ?_;refine A0 mV ?_;refine A0 mV ?_;refine A0 mV ?_;refine A0 (zA rfl rfl zdm) ?_;refine A0 (g_min rfl rfl rfl) ?_;refine A0 zC ?_;refine CN ?_
 refine Cf (p:=(i:Int)<min b v.length) (fun ht18=>?_) (fun ht18=>?_)
 ·
  obtain ⟨x,hx⟩:∃x,v[i]?=some x:=⟨_,List.getElem?_eq_getElem (by omega)⟩
  refine CSQBQR ?_;refine A0 mV ?_;refine A0 mV ?_;refine A0 (zD (i:=i) rfl rfl rfl (by omega) zdq (by assumption)) ?_;refine A0 (zg rfl rfl ty_3) ?_;refine A0 mV ?_;refine A0 zbf ?_;refine CN ?_
  refine Cf (p:=n≤x) (fun ht26=>?_) (fun ht26=>?_)
  ·
   refine CR ?_;refine A0 mO ?_;refine A0 mV ?_;refine A0 (zr (T:=i64T) (xs:=[_]) rfl zdq zc8 ⟨rfl,rfl,trivial⟩ rfl rfl) ?_
   refine zu rfl rfl rfl rfl rfl rfl rfl zc8 (by have:=upR_length v n (max a 0).toNat i;simp;omega) ?_;refine A0 aO ?_;refine CNIR ?_;refine A0 mV ?_;refine A0 zs ?_;refine A0 aV ?_;refine CN ?_
   refine zaQ 1 0 2 rfl rfl rfl rfl rfl rfl ?_;refine zO (n:=0) (y:=upR v n (max a 0).toNat (i+1)) rfl (upR_yes hx hinv.1 ht26).symm ?_
   exact Nx (i+1) (⟨by omega,by omega⟩) (by omega)
  ·
   refine CSIR ?_;refine A0 mV ?_;refine A0 zs ?_;refine A0 aV ?_;refine CN ?_;refine zO (n:=0) (y:=upR v n (max a 0).toNat (i+1)) rfl (upR_no hx hinv.1 ht26).symm ?_
   exact Nx (i+1) (⟨by omega,by omega⟩) (by omega)
 ·
  refine CE ?_;refine CQR ?_;refine A0 mO ?_;refine A0 aO ?_;refine CN ?_
  exact zb rfl rfl (zi rfl rfl (upOf_end hinv.1 hinv.2 ht18))
theorem prefix_ok (v:List Int) (m k:Int):Tells P 75 [.val (bsl i64T) v,.val i64T m,.val i64T k] (.tup2 (.fresh 3 i64T (prefixOf v m k).1) (.val boolT (prefixOf v m k).2)):=by
 refine zc Tryz.func75 rfl rfl rfl (fun ext w hext=>?_)
 refine zh (d:=0) rfl zn (fun hsl0=>?_)
 refine zh (d:=1) rfl zR (fun hin1=>?_)
 refine zh (d:=2) rfl zR (fun hin2=>?_)
 refine CQR ?_;refine A0 aL ?_;refine A0 aV ?_;refine CNQQR ?_;refine A0 mV ?_;refine A0 mV ?_;refine A0 mV ?_;refine A0 (oCl (mayP_ok v m k) rfl fn_108 ⟨(ze rfl),(ze rfl),(ze rfl),trivial⟩) ?_;refine A0 oN ?_;refine CN ?_
 refine zo (p:=¬mayP v m k=true) rfl (by simp) (fun ht13=>?_) (fun ht13=>?_)
 ·
  refine CQR ?_;refine A0 aL ?_;refine A0 aV ?_;refine CN ?_
  exact zad rfl rfl (by unfold prefixOf;rw [if_neg ht13];exact zL rfl) (zd rfl (by unfold prefixOf;rw [if_neg ht13]))
 ·
  have hmp:mayP v m k=true:=Classical.byContradiction ht13
  have hcl:=climb_ok hmp
  have hvl:=mayP_len hmp
  refine CSQR ?_
  refine aw_mkmap rfl rfl rfl rfl (fun b0=>?_)
  refine aw_alloc_p zp_158 rfl rfl rfl rfl rfl rfl ?_;refine zcY rfl rfl rfl rfl rfl rfl rfl rfl rfl rfl ty_158 ?_;refine CNQR ?_;refine A0 mV ?_;refine A0 mV ?_;refine A0 mV ?_;refine A0 (g_mkf (caps:=[_]) rfl rfl) ?_
  refine zbN rfl rfl rfl rfl Tryz.func109 fn_109 rfl rfl (fun ia2 iok2=>?_)
  refine CQR ?_;refine A0 aV ?_;refine CNQR ?_;refine A0 mV ?_;refine CNB ?_
  refine Lp (ι:=Nat) 2 (fun (i:Nat)=>((((((Fr.none).set 0 (.val (bsl i64T) v)).set 1 (.val i64T m)).set 2 (.val i64T k)).set 3 (.clo 110 [1])).set 8 (.val i64T (climbS v m k i).1)).set 12 (.val i64T (i:Int))) (fun (i:Nat)=>((Hp.none).set 0 (.objAt b0 (setO (climbS v m k i).2))).set 1 (.parts 158 [.lit (.map (some b0))])) (fun (i:Nat)=>i≤32) (fun (i:Nat)=>32-i) (0) (Nat.zero_le _) ?_
  intro i hi
  refine CQR ?_;refine A0 zC ?_;refine CNQ ?_
  refine Cf (p:=i<32) (fun ht13=>?_) (fun ht13=>?_)
  ·
   have hci:=hcl i (by omega)
   have hup:=zw (up_ok v (climbS v m k i).1 ((v.length:Int)-k) (31-(i:Int)) (by omega))
   obtain ⟨L,hL⟩:∃L,L=upOf v (climbS v m k i).1 ((v.length:Int)-k) (31-(i:Int)):=⟨_,rfl⟩
   rw [←hL] at hup
   have hLl:L.length≤200:=by rw [hL];have:=up_length v (climbS v m k i).1 ((v.length:Int)-k) (31-(i:Int));omega
   refine CSQBQR ?_;refine A0 mV ?_;refine A0 aV ?_;refine CNQR ?_;refine A0 mV ?_;refine A0 zap ?_;refine A0 aV ?_;refine CNQR ?_;refine A0 mV ?_;refine A0 mV ?_;refine A0 mV ?_;refine A0 (zA rfl rfl zdm) ?_;refine A0 mV ?_
   refine A0 zap ?_;refine A0 mV ?_;refine A0 (oCl (hup) rfl fn_170 ⟨(ze rfl),(ze rfl),(ze rfl),(ze rfl),trivial⟩) ?_;refine A0 aV ?_;refine CNQR ?_;refine A0 mC ?_;refine A0 mV ?_;refine A0 mV ?_;refine A0 mV ?_
   refine aw_inlinec rfl rfl rfl rfl rfl Tryz.func110 fn_110 rfl rfl (by intro n hn;simp only [List.mem_cons,List.not_mem_nil,or_false] at hn;rcases hn with rfl<;>rfl) (fun ia3 iok3=>?_)
   refine CQR ?_;refine A0 mV ?_;refine A0 (zA rfl rfl zdm) ?_;refine A0 mV ?_;refine CNB ?_
   refine Lp (ι:=Nat) 2 (fun (j:Nat)=>((((Fr.none).set 3 (.ptr 1 0)).set 9 (.val (sl i64T) L)).set 10 (.val i64T (L.length:Int))).set 11 (.val i64T (j:Int))) (fun (j:Nat)=>((Hp.none).set 0 (.objAt b0 (setO ((L.take j).foldl setAdd (climbS v m k i).2)))).set 1 (.parts 158 [.lit (.map (some b0))])) (fun (j:Nat)=>j≤L.length) (fun (j:Nat)=>L.length-j) (0) (Nat.zero_le _) ?_
   intro j hj
   refine CQR ?_;refine A0 zC ?_;refine CNQ ?_
   refine Cf (p:=j<L.length) (fun ht12=>?_) (fun ht12=>?_)
   ·
    obtain ⟨x,hx⟩:∃x,L[j]?=some x:=⟨_,List.getElem?_eq_getElem ht12⟩
    refine CSQBQR ?_;refine A0 (zaq rfl rfl rfl zdq (by assumption)) ?_;refine A0 (zg rfl rfl ty_3) ?_;refine A0 aX ?_;refine CNR ?_
    refine A0 (by first|exact zbe rfl rfl rfl rfl rfl ty_158|exact zdL rfl rfl rfl rfl ty_158) ?_;refine A0 mX ?_;refine A0 (g_build0 rfl zu_160 su_160) ?_;refine aw_mapput (n:=0) rfl rfl rfl rfl rfl rfl rfl mp_158 ui_3 ?_
    refine CNIR ?_;refine A0 zs ?_;refine A0 mV ?_;refine CN ?_;refine aw_reobj 0 (setO ((L.take (j+1)).foldl setAdd (climbS v m k i).2)) rfl (by rw [List.take_add_one,hx,List.foldl_append];rfl) ?_
    exact Nx (j+1) (by omega) (by omega)
   ·
    refine CE ?_;refine aw_back0f rfl ?_;refine CNQ ?_;refine aw_reobj 0 (setO (L.foldl setAdd (climbS v m k i).2)) rfl (by rw [List.take_of_length_le (by omega)]) ?_;refine CR ?_;refine A0 mV ?_;refine A0 (zA rfl rfl zdm) ?_
    refine A0 mV ?_;refine A0 zaP ?_;refine CN ?_
    refine Cf (p:=m<L.length) (fun ht33=>?_) (fun ht33=>?_)
    ·
     obtain ⟨c,hc⟩:∃c,L[L.length-m.toNat]?=some c:=⟨_,List.getElem?_eq_getElem (by omega)⟩
     refine CR ?_;refine A0 mV ?_;refine A0 mV ?_;refine A0 (zA rfl rfl zdm) ?_;refine A0 mV ?_;refine A0 zap ?_;refine A0 (zD (i:=L.length-m.toNat) rfl rfl rfl (by omega) zdq (by assumption)) ?_
     refine A0 (zg rfl rfl ty_3) ?_;refine A0 aX ?_;refine CNIR ?_;refine A0 zs ?_;refine A0 mV ?_;refine CN ?_;refine zl (d:=8) (y:=(climbS v m k (i+1)).1) rfl (climb_from_yes hL hc ht33) ?_
     refine aw_reobj 0 (setO (climbS v m k (i+1)).2) rfl (by rw [hL];rfl) ?_
     exact Nx (i+1) (by omega) (by omega)
    ·
     refine CSIR ?_;refine A0 zs ?_;refine A0 mV ?_;refine CN ?_;refine zl (d:=8) (y:=(climbS v m k (i+1)).1) rfl (climb_from_no hL ht33) ?_;refine aw_reobj 0 (setO (climbS v m k (i+1)).2) rfl (by rw [hL];rfl) ?_
     exact Nx (i+1) (by omega) (by omega)
  ·
   refine CE ?_;refine aw_back0f rfl ?_;refine CNQ ?_
   have hi32:i=32:=by omega
   subst hi32
   obtain ⟨K,hK⟩:∃K,K=(climbS v m k 32).2:=⟨_,rfl⟩
   have hck:=hcl 32 (by omega)
   rw [←hK] at hck
   refine aw_reobj 0 (setO K) rfl (by rw [hK]) ?_
   have hkeys:∀x∈K,-9223372036854775808≤x∧x≤9223372036854775807:=fun x hx=>by have:=hck.2.2 x hx;omega
   have hKl:=climb_length hck hvl
   refine CR ?_;refine A0 (by first|exact zbe rfl rfl rfl rfl rfl ty_158|exact zdL rfl rfl rfl rfl ty_158) ?_
   refine zbN rfl rfl rfl rfl Tryz.func112 fn_112 rfl rfl (fun ia4 iok4=>?_)
   refine CQR ?_;refine aw_box_p rfl rfl rfl rfl rfl rfl rfl ?_;refine A0 aL ?_;refine CNQR ?_;refine A0 (g_mkf (caps:=[_]) rfl rfl) ?_;refine A0 aC ?_;refine CN ?_;refine zc5 rfl ?_
   refine zbN rfl rfl rfl rfl Tryz.func111 fn_111 rfl rfl (fun ia6 iok6=>?_)
   refine CQR ?_;refine A0 aL ?_;refine CNQR ?_;refine A0 mC ?_
   refine zbN rfl rfl rfl rfl Tryz.func171 fn_171 rfl rfl (fun ia7 iok7=>?_)
   refine CQR ?_;refine A0 aL ?_;refine CNQR ?_;refine A0 mC ?_
   refine zbN rfl rfl rfl rfl Tryz.func208 fn_208 rfl rfl (fun ia8 iok8=>?_)
   refine CQR ?_;refine aw_box_p rfl rfl rfl rfl rfl rfl rfl ?_;refine A0 aL ?_;refine CN ?_;refine aw_nilpart 3 3 i64T rfl ?_;refine CQQR ?_;refine A0 mC ?_;refine CNB ?_
   refine aw_range rfl rfl rfl Tryz.func173 fn_173 rfl rfl (by intro n hn;simp only [List.mem_cons,List.not_mem_nil,or_false] at hn;rcases hn with rfl<;>rfl) (fun fid11 ca11 lN11 DN11 cok11 rc11 hrc11=>?_)
   refine CQR ?_;refine A0 (by first|exact zbe rfl rfl rfl rfl rfl ty_158|exact zdL rfl rfl rfl rfl ty_158) ?_
   refine aw_rangemap (n:=0) rfl rfl rfl rfl rfl rfl mp_158 (fun it0=>?_)
   refine CNB ?_;refine zaQ 4 8 9 rfl rfl rfl rfl rfl rfl ?_
   refine Lp (ι:=List Nat) 9 (fun (seen:List Nat)=>((Fr.none).set 0 (.lit (.func (.yield lN11) #[] #[]))).set 5 (.ptr 7 0)) (fun (seen:List Nat)=>((((((Hp.none).set 0 (.objAt b0 (setO K))).set 3 (.parts 22 [.own 8])).set 8 (.row 3 i64T (seen.map fun i=>K.getD i 0))).set 5 (.objAt DN11 (.deferred (some [])))).set 6 (.objAt lN11 (rc11 .ready none))).set 7 (.objAt it0 (itO b0 K.length seen))) (fun (seen:List Nat)=>seen.Nodup∧∀i∈seen,i<K.length) (fun (seen:List Nat)=>K.length-seen.length) ([]) (⟨List.nodup_nil,fun i h=>by cases h⟩) ?_
   intro seen hs
   refine CQR ?_
   refine aw_nextmap (n1:=0) (n2:=7) rfl rfl rfl rfl rfl (hkeys) rfl rfl (fun hall=>?_) (fun i v hiv his=>?_)
   ·
    refine A0 (g_x1f rfl rfl) ?_;refine CNQ ?_;refine Cg ?_;refine CE ?_;refine zdf (nL:=6) rfl hrc11 rfl (by decide) ?_;refine CI ?_;refine CQR ?_
    refine A0 (by first|exact zbe rfl rfl rfl rfl rfl ty_22|exact zdL rfl rfl rfl rfl ty_22) ?_;refine A0 aO ?_;refine CN ?_
    refine zaY (zdW (nD:=5) rfl rfl rfl (ar_back1 rfl ?_))
    refine A0 aO ?_;refine CN ?_;refine zc5 rfl ?_;refine A0 aO ?_;refine CNQR ?_;refine A0 mO ?_
    refine aw_callu (sortInt_ok (seen.map fun i=>K.getD i 0) (by rw [List.length_map];have:=nodup_le hs.1 hs.2;omega)) rfl fn_172 rfl trivial trivial rfl ⟨(by first|exact zbs rfl|exact zbr rfl|exact zaV rfl|exact zbv rfl|exact zbt rfl|exact zbu rfl|exact zbq rfl rfl (by decide)),trivial⟩ rfl rfl rfl ?_
    refine CNQR ?_;refine A0 mO ?_;refine A0 aO ?_;refine CN ?_;refine zc5 rfl ?_;refine A0 aO ?_;refine A0 aV ?_;refine CN ?_
    exact zad rfl rfl (zi rfl rfl (by unfold prefixOf;rw [if_pos hmp,←hK];exact sort_perm (seen_all hs hall))) (zd rfl (by unfold prefixOf;rw [if_pos hmp]))
   ·
    obtain ⟨hs1,hs2,hs3⟩:=seen_step hs hiv his
    refine A0 e30 ?_;refine CNQ ?_;refine Ct ?_;refine CS ?_;refine CB ?_;refine CQR ?_;refine aw_entry (n1:=0) (n2:=7) (v:=v) (i:=i) rfl rfl rfl rfl rfl (by exact rfl) (by exact rfl) (by assumption) (hkeys) ?_
    refine A0 (by first|exact z6 rfl rfl|exact zY rfl rfl) ?_;refine A0 aX ?_;refine CNQR ?_;refine A0 mL ?_;refine A0 mX ?_
    refine aw_yield (nL:=6) rfl rfl rfl rfl rfl hrc11 rfl rfl rfl (fun ya12 yok12=>?_)
    refine CR ?_;refine A0 aX ?_;refine CN ?_;refine aw_begin (nL:=6) hrc11 rfl ?_;refine CB ?_;refine CR ?_;refine A0 (by first|exact zbe rfl rfl rfl rfl rfl ty_22|exact zdL rfl rfl rfl rfl ty_22) ?_;refine A0 mX ?_
    refine A0 (zr (T:=i64T) (xs:=[_]) rfl zdq zc8 ⟨rfl,rfl,trivial⟩ rfl rfl) ?_;refine zu rfl rfl rfl rfl rfl rfl rfl zc8 (by simp;omega) ?_;refine zcY rfl rfl rfl rfl rfl rfl rfl rfl rfl rfl ty_22 ?_
    refine CN ?_;refine CI ?_;refine zde (nL:=6) hrc11 rfl ?_;refine A0 oN ?_;refine CN ?_;refine Cg ?_;refine CS ?_;refine CI ?_;refine zaQ 9 8 10 rfl rfl rfl rfl rfl rfl ?_
    refine zO (n:=8) (y:=(seen++[i]).map fun i=>K.getD i 0) rfl (by rw [List.map_append];simp [hiv]) ?_
    exact Nx (seen++[i]) (hs1) (hs2)
end Go.Proofs.YtdeghaedeefooaaGreat
set_option maxRecDepth 20000
namespace Go.Proofs.YtdeghaedeefooaaGreat
open Go.Ab Go.RowKit
def proverN:GoT (List Block×Int×Int×List Int×Unit):=pairT (bsl blockT) (pairT i64T (pairT i64T (pairT (sl i64T) nilT)))
def proofN:GoT (Int×Int×Unit):=pairT i64T (pairT i64T nilT)
theorem zn_prover:ZeroAt P 121 proverN ([],0,0,[],()):=zaf (zZ zcP (zZ zbT (zZ zbT (zZ zcP zero_nil)))) (by kernel_rfl)
theorem zn_proof:ZeroAt P 25 proofN (0,0,()):=zaf (zZ zbT (zZ zbT zero_nil)) (by kernel_rfl)
theorem split_prover {l:List Block} {m k:Int} {v:List Int}:SplitOk proverN (l,m,k,v,()) [.val (bsl blockT) l,.val i64T m,.val i64T k,.val (sl i64T) v,.lit (.slice none 0 0)]:=zcv zcz (zcv zcz (zcv zcz (zcv zcz split_nil)))
theorem split_proof {m k:Int}:SplitOk proofN (m,k,()) [.val i64T m,.val i64T k,.lit (.slice none 0 0)]:=zcv zcz (zcv zcz split_nil)
theorem join_proof {m k:Int} {l:List Part}:JoinOk proofT (⟨m,k,l⟩:Proof) [.val i64T m,.val i64T k] partT l:=join_via (join_pair (join_pair join_last))
def placesOf (l:List Block) (m k:Int):List Int:=(prefixOf (levelsOf l) m k).1++(List.range k.toNat).map fun j:Nat=>(l.length:Int)-k+(j:Int)
def prPart (l:List Block) (i:Int):Part:=⟨(l.getD i.toNat default).h,(l.getD i.toNat default).l⟩
def prE (l:List Block) (m k:Int):Int:=if ¬(checkOf l).2=0 then (checkOf l).2 else if m<1∨20<m∨k<1∨20<k∨l.length≤k then 1 else 0
def prOf (l:List Block) (m k:Int):Proof:=if prE l m k=0 then ⟨m,k,(placesOf l m k).map (prPart l)⟩ else zProof
theorem prefix_mem {v:List Int} {m k x:Int} (h:x∈(prefixOf v m k).1):0≤x∧x<(v.length:Int)-k:=by
  unfold prefixOf at h
  split at h
  · rename_i c
    exact (climb_ok c 32 (Nat.le_refl _)).2.2 x (sort_mem.1 h)
  · cases h
theorem prefix_length (v:List Int) (m k:Int):(prefixOf v m k).1.length≤200:=by
  unfold prefixOf
  split
  · rename_i c
    have:=climb_length (climb_ok c 32 (Nat.le_refl _)) (mayP_len c)
    simpa [sortInts] using this
  · simp
theorem levels_length (l:List Block):(levelsOf l).length=l.length:=by unfold levelsOf;simp
theorem places_mem {l:List Block} {m k x:Int} (hk:1≤k∧k<l.length) (h:x∈placesOf l m k):0≤x∧x<l.length:=by
  unfold placesOf at h
  rcases List.mem_append.1 h with h|h
  · have:=prefix_mem h
    rw [levels_length] at this
    omega
  · obtain ⟨j,hj,rfl⟩:=List.mem_map.1 h
    rw [List.mem_range] at hj
    omega
theorem places_length {l:List Block} {m k:Int} (hk:k≤20):(placesOf l m k).length≤220:=by
  unfold placesOf
  have:=prefix_length (levelsOf l) m k
  simp;omega
theorem prBuild_ok (l:List Block) (m k:Int) (hl:smallC l):Tells P 26 [.val (bsl blockT) l,.val i64T m,.val i64T k] (.tup2 (.val proofT (prOf l m k)) (.val i64T (prE l m k))):=by
 have hll:=hl.1
 refine zc Tryz.func26 rfl rfl rfl (fun ext w hext=>?_)
 refine zh (d:=0) rfl zn (fun hsl0=>?_)
 refine zh (d:=1) rfl zR (fun hin1=>?_)
 refine zh (d:=2) rfl zR (fun hin2=>?_)
 refine CQR ?_;refine zf zcO rfl rfl rfl rfl ?_;refine A0 aV ?_;refine CNQR ?_;refine A0 mV ?_;refine A0 mV ?_;refine A0 mV ?_
 refine zbN rfl rfl rfl rfl Tryz.func49 fn_49 rfl rfl (fun ia1 iok1=>?_)
 refine CQR ?_;refine A0 aL ?_;refine A0 aV ?_;refine CNQQR ?_;refine A0 mV ?_;refine A0 (oCl (check_ok l hl) rfl fn_73 ⟨(ze rfl),trivial⟩) ?_;refine A0 mX ?_;refine A0 (by first|exact z6 rfl rfl|exact zY rfl rfl) ?_
 refine A0 (by first|exact z8 rfl rfl|exact z7 rfl rfl) ?_;refine zf zek rfl rfl rfl rfl ?_;refine za rfl rfl rfl rfl rfl (Lens.self _) zbg rfl ?_;refine A0 aV ?_;refine CNQR ?_;refine A0 mV ?_
 refine A0 zaz ?_;refine CN ?_
 refine zo (p:=¬(checkOf l).2=0) rfl (by simp [IntL.toI]) (fun ht18=>?_) (fun ht18=>?_)
 ·
  refine CQR ?_;refine A0 mV ?_;refine A0 aL ?_;refine A0 aV ?_;refine CN ?_;refine zeR rfl ?_;refine A0 (by first|exact zet (.inl rfl) rfl|exact zes (.inl rfl) rfl) ?_
  refine A0 (by first|exact z6 rfl rfl|exact zY rfl rfl) ?_;refine A0 (by first|exact z8 rfl rfl|exact z7 rfl rfl) ?_;refine A0 aX ?_;refine A0 aX ?_;refine CNQQR ?_;refine A0 mX ?_;refine A0 zaz ?_;refine CN ?_
  refine aw_if_t rfl (by simp;exact ht18) ?_;refine CQR ?_;refine A0 (zab rfl zcO bd_25 .nil rfl) ?_;refine A0 mX ?_;refine za rfl rfl rfl rfl rfl (Lens.self _) zy rfl ?_;refine A0 aX ?_;refine CN ?_
  exact zH rfl rfl (zE rfl rfl zy (by unfold prOf;rw [if_neg (by unfold prE;rw [if_pos ht18];exact ht18)])) (zah (zd rfl (by unfold prE;rw [if_pos ht18])))
 ·
  refine CSQQR ?_;refine A0 mV ?_;refine A0 zC ?_;refine A0 mV ?_
  refine Sp (d:=22) (p:=m<1) (fun g22=>?_) (fun g22=>?_)
  ·
   refine A2 ?_;refine A2 ?_;refine A0 oK ?_;refine A0 mV ?_;refine A2 ?_;refine A2 ?_;refine A0 oK ?_;refine A0 mV ?_;refine A2 ?_;refine A2 ?_;refine A0 oK ?_;refine A0 mV ?_;refine A2 ?_;refine A2 ?_;refine A2 ?_;refine A2 ?_
   refine A0 oK ?_;refine CN ?_;refine Ct ?_;refine CQR ?_;refine A0 aL ?_;refine A0 aV ?_;refine CN ?_;refine zeR rfl ?_;refine A0 (by first|exact zet (.inl rfl) rfl|exact zes (.inl rfl) rfl) ?_
   refine A0 (by first|exact z6 rfl rfl|exact zY rfl rfl) ?_;refine A0 (by first|exact z8 rfl rfl|exact z7 rfl rfl) ?_;refine A0 aX ?_;refine A0 aX ?_;refine CNQQR ?_;refine A0 mX ?_;refine A0 zaz ?_;refine CN ?_
   refine Ct ?_;refine CQR ?_;refine A0 (zab rfl zcO bd_25 .nil rfl) ?_;refine A0 mX ?_;refine za rfl rfl rfl rfl rfl (Lens.self _) zy rfl ?_;refine A0 aX ?_;refine CN ?_
   exact zH rfl rfl (zE rfl rfl zy (by unfold prOf;rw [if_neg (by unfold prE;rw [if_neg (by omega),if_pos (by omega)];decide)])) (zah (zd rfl (by unfold prE;rw [if_neg (by omega),if_pos (by omega)])))
  ·
   refine A1 mV ?_;refine A1 zaP ?_;refine A0 oK ?_;refine A0 mV ?_
   refine Sp (d:=26) (p:=20<m) (fun g26=>?_) (fun g26=>?_)
   ·
    refine A2 ?_;refine A2 ?_;refine A0 oK ?_;refine A0 mV ?_;refine A2 ?_;refine A2 ?_;refine A0 oK ?_;refine A0 mV ?_;refine A2 ?_;refine A2 ?_;refine A2 ?_;refine A2 ?_;refine A0 oK ?_;refine CN ?_;refine Ct ?_;refine CQR ?_
    refine A0 aL ?_;refine A0 aV ?_;refine CN ?_;refine zeR rfl ?_;refine A0 (by first|exact zet (.inl rfl) rfl|exact zes (.inl rfl) rfl) ?_;refine A0 (by first|exact z6 rfl rfl|exact zY rfl rfl) ?_
    refine A0 (by first|exact z8 rfl rfl|exact z7 rfl rfl) ?_;refine A0 aX ?_;refine A0 aX ?_;refine CNQQR ?_;refine A0 mX ?_;refine A0 zaz ?_;refine CN ?_;refine Ct ?_;refine CQR ?_
    refine A0 (zab rfl zcO bd_25 .nil rfl) ?_;refine A0 mX ?_;refine za rfl rfl rfl rfl rfl (Lens.self _) zy rfl ?_;refine A0 aX ?_;refine CN ?_
    exact zH rfl rfl (zE rfl rfl zy (by unfold prOf;rw [if_neg (by unfold prE;rw [if_neg (by omega),if_pos (by omega)];decide)])) (zah (zd rfl (by unfold prE;rw [if_neg (by omega),if_pos (by omega)])))
   ·
    refine A1 mV ?_;refine A1 zC ?_;refine A0 oK ?_;refine A0 mV ?_
    refine Sp (d:=30) (p:=k<1) (fun g30=>?_) (fun g30=>?_)
    ·
     refine A2 ?_;refine A2 ?_;refine A0 oK ?_;refine A0 mV ?_;refine A2 ?_;refine A2 ?_;refine A2 ?_;refine A2 ?_;refine A0 oK ?_;refine CN ?_;refine Ct ?_;refine CQR ?_;refine A0 aL ?_;refine A0 aV ?_;refine CN ?_
     refine zeR rfl ?_;refine A0 (by first|exact zet (.inl rfl) rfl|exact zes (.inl rfl) rfl) ?_;refine A0 (by first|exact z6 rfl rfl|exact zY rfl rfl) ?_
     refine A0 (by first|exact z8 rfl rfl|exact z7 rfl rfl) ?_;refine A0 aX ?_;refine A0 aX ?_;refine CNQQR ?_;refine A0 mX ?_;refine A0 zaz ?_;refine CN ?_;refine Ct ?_;refine CQR ?_
     refine A0 (zab rfl zcO bd_25 .nil rfl) ?_;refine A0 mX ?_;refine za rfl rfl rfl rfl rfl (Lens.self _) zy rfl ?_;refine A0 aX ?_;refine CN ?_
     exact zH rfl rfl (zE rfl rfl zy (by unfold prOf;rw [if_neg (by unfold prE;rw [if_neg (by omega),if_pos (by omega)];decide)])) (zah (zd rfl (by unfold prE;rw [if_neg (by omega),if_pos (by omega)])))
    ·
     refine A1 mV ?_;refine A1 zaP ?_;refine A0 oK ?_;refine A0 mV ?_
     refine Sp (d:=34) (p:=20<k) (fun g34=>?_) (fun g34=>?_)
     ·
      refine A2 ?_;refine A2 ?_;refine A2 ?_;refine A2 ?_;refine A0 oK ?_;refine CN ?_;refine Ct ?_;refine CQR ?_;refine A0 aL ?_;refine A0 aV ?_;refine CN ?_;refine zeR rfl ?_
      refine A0 (by first|exact zet (.inl rfl) rfl|exact zes (.inl rfl) rfl) ?_;refine A0 (by first|exact z6 rfl rfl|exact zY rfl rfl) ?_;refine A0 (by first|exact z8 rfl rfl|exact z7 rfl rfl) ?_;refine A0 aX ?_
      refine A0 aX ?_;refine CNQQR ?_;refine A0 mX ?_;refine A0 zaz ?_;refine CN ?_;refine Ct ?_;refine CQR ?_;refine A0 (zab rfl zcO bd_25 .nil rfl) ?_;refine A0 mX ?_
      refine za rfl rfl rfl rfl rfl (Lens.self _) zy rfl ?_;refine A0 aX ?_;refine CN ?_
      exact zH rfl rfl (zE rfl rfl zy (by unfold prOf;rw [if_neg (by unfold prE;rw [if_neg (by omega),if_pos (by omega)];decide)])) (zah (zd rfl (by unfold prE;rw [if_neg (by omega),if_pos (by omega)])))
     ·
      refine A1 mV ?_;refine A1 (zA rfl rfl isl_46) ?_;refine A1 mV ?_;refine A1 o_leq ?_;refine A0 oK ?_;refine CN ?_
      refine Cf (p:=l.length≤k) (fun ht39=>?_) (fun ht39=>?_)
      ·
       refine CQR ?_;refine A0 aL ?_;refine A0 aV ?_;refine CN ?_;refine zeR rfl ?_;refine A0 (by first|exact zet (.inl rfl) rfl|exact zes (.inl rfl) rfl) ?_;refine A0 (by first|exact z6 rfl rfl|exact zY rfl rfl) ?_
       refine A0 (by first|exact z8 rfl rfl|exact z7 rfl rfl) ?_;refine A0 aX ?_;refine A0 aX ?_;refine CNQQR ?_;refine A0 mX ?_;refine A0 zaz ?_;refine CN ?_;refine Ct ?_;refine CQR ?_
       refine A0 (zab rfl zcO bd_25 .nil rfl) ?_;refine A0 mX ?_;refine za rfl rfl rfl rfl rfl (Lens.self _) zy rfl ?_;refine A0 aX ?_;refine CN ?_
       exact zH rfl rfl (zE rfl rfl zy (by unfold prOf;rw [if_neg (by unfold prE;rw [if_neg (by omega),if_pos (by omega)];decide)])) (zah (zd rfl (by unfold prE;rw [if_neg (by omega),if_pos (by omega)])))
      ·
       have hpl:=prefix_length (levelsOf l) m k
       refine CSQR ?_;refine A0 mV ?_;refine A0 mV ?_;refine A0 mV ?_;refine A0 mV ?_;refine A0 (oCl (zw (levels_ok l (by omega))) rfl fn_74 ⟨(ze rfl),trivial⟩) ?_
       refine A0 (zab rfl zn_prover bd_121 (.cons fd_121_0 (Lens.fst _ _) ty_46 rfl (.cons fd_121_1 ((Lens.snd _ _).comp (Lens.fst _ _)) ty_3 rfl (.cons fd_121_2 ((Lens.snd _ _).comp ((Lens.snd _ _).comp (Lens.fst _ _))) ty_3 rfl (.cons fd_121_3 ((Lens.snd _ _).comp ((Lens.snd _ _).comp ((Lens.snd _ _).comp (Lens.fst _ _)))) ty_22 rfl .nil)))) rfl) ?_
       refine zj rfl rfl rfl rfl rfl ?_;refine A0 aP ?_;refine CN ?_;refine aw_splitb 2 (x:=(l,m,k,levelsOf l,())) split_prover rfl ?_
       refine aw_nilpartL 2 3 i64T [.val (bsl blockT) l,.val i64T m,.val i64T k,.val (sl i64T) (levelsOf l)] rfl (by intro x hx;simp only [List.mem_cons,List.not_mem_nil,or_false] at hx;rcases hx with rfl|rfl|rfl|rfl<;>trivial) ?_
       refine CQR ?_;refine A0 mP ?_;refine A0 mP ?_;refine A0 (g_nc rfl rfl) ?_;refine A0 (oFp fd_121_3) ?_;refine A0 (zbe rfl rfl rfl rfl rfl ty_22) ?_;refine A0 mV ?_;refine A0 mV ?_
       refine aw_callf2 (prefix_ok (levelsOf l) m k) rfl fn_75 ⟨(ze rfl),(ze rfl),(ze rfl),trivial⟩ flat_bool rfl rfl rfl ?_;refine A0 (by first|exact zet (.inl rfl) rfl|exact zes (.inl rfl) rfl) ?_
       refine A0 (by first|exact z6 rfl rfl|exact zY rfl rfl) ?_;refine A0 (by first|exact z8 rfl rfl|exact z7 rfl rfl) ?_;refine A0 (g_nc rfl rfl) ?_;refine A0 (oFp fd_121_4) ?_
       refine zcY rfl rfl rfl rfl rfl rfl rfl rfl rfl rfl ty_22 ?_;refine CNQQR ?_;refine A0 mV ?_;refine A0 mV ?_;refine CNB ?_
       refine zO (n:=4) (y:=(prefixOf (levelsOf l) m k).1++(List.range 0).map fun j:Nat=>(l.length:Int)-k+(j:Int)) rfl (by simp) ?_
       refine Lp (ι:=Nat) 5 (fun (i:Nat)=>(((((Fr.none).set 0 (.val (bsl blockT) l)).set 2 (.val i64T k)).set 10 (.ptr 2 0)).set 60 (.val i64T k)).set 61 (.val i64T (i:Int))) (fun (i:Nat)=>(((Hp.none).set 0 (.box 25 proofT zProof)).set 2 (.parts 121 ([.val (bsl blockT) l,.val i64T m,.val i64T k,.val (sl i64T) (levelsOf l)]++[.own 4]))).set 4 (.row 3 i64T ((prefixOf (levelsOf l) m k).1++(List.range i).map fun j:Nat=>(l.length:Int)-k+(j:Int)))) (fun (i:Nat)=>(i:Int)≤k) (fun (i:Nat)=>k.toNat-i) (0) (by simp;omega) ?_
       intro i hi
       refine CQR ?_;refine A0 zC ?_;refine CNQ ?_
       refine Cf (p:=(i:Int)<k) (fun ht62=>?_) (fun ht62=>?_)
       ·
        refine CSQBQR ?_;refine A0 mV ?_;refine A0 aV ?_;refine CNR ?_;refine A0 mP ?_;refine A0 mP ?_;refine A0 (g_nc rfl rfl) ?_;refine A0 (oFp fd_121_4) ?_;refine A0 (zbe rfl rfl rfl rfl rfl ty_22) ?_;refine A0 mV ?_
        refine A0 (zA rfl rfl isl_46) ?_;refine A0 mV ?_;refine A0 zap ?_;refine A0 mV ?_;refine A0 zs ?_;refine A0 (zr (T:=i64T) (xs:=[_]) rfl zdq zc8 ⟨rfl,rfl,trivial⟩ rfl rfl) ?_
        refine zu rfl rfl rfl rfl rfl rfl rfl zc8 (by simp;omega) ?_;refine A0 (g_nc rfl rfl) ?_;refine A0 (oFp fd_121_4) ?_;refine zcY rfl rfl rfl rfl rfl rfl rfl rfl rfl rfl ty_22 ?_;refine CNIR ?_;refine A0 zs ?_
        refine A0 mV ?_;refine CN ?_;refine zaQ 5 4 6 rfl rfl rfl rfl rfl rfl ?_
        refine zO (n:=4) (y:=(prefixOf (levelsOf l) m k).1++(List.range (i+1)).map fun j:Nat=>(l.length:Int)-k+(j:Int)) rfl (by rw [List.range_succ,List.map_append];simp) ?_
        exact Nx (i+1) (by omega) (by omega)
       ·
        refine CE ?_;refine CQ ?_
        obtain ⟨PL,hPL⟩:∃PL,PL=placesOf l m k:=⟨_,rfl⟩
        refine zO (n:=4) (y:=PL) rfl (by rw [hPL];unfold placesOf;rw [show k.toNat=i by omega]) ?_
        have hpm:∀x∈PL,0≤x∧x<l.length:=fun x hx=>places_mem (by omega) (hPL▸hx)
        have hpn:PL.length≤220:=hPL▸places_length (by omega)
        refine CR ?_;refine A0 mP ?_;refine A0 aP ?_;refine A0 aV ?_;refine CN ?_;refine zeR rfl ?_;refine A0 (by first|exact zet (.inl rfl) rfl|exact zes (.inl rfl) rfl) ?_
        refine A0 (by first|exact z6 rfl rfl|exact zY rfl rfl) ?_;refine A0 (by first|exact z8 rfl rfl|exact z7 rfl rfl) ?_;refine A0 aP ?_;refine A0 aX ?_;refine CNQQR ?_;refine A0 mX ?_;refine A0 zaz ?_;refine CN ?_
        refine Cg ?_;refine CSQR ?_;refine A0 mP ?_
        refine zbN rfl rfl rfl rfl Tryz.func50 fn_50 rfl rfl (fun ia3 iok3=>?_)
        refine CQR ?_;refine zf zcO rfl rfl rfl rfl ?_;refine CNQ ?_
        refine zB [some 1000001,some 1000001,some 1000001,some 1000001,some 1000001,some 1000001,some 1000001,some 1000001,some 1000001,none,none] mixed (by decide +kernel) ?_
        refine XK.ga (fun _=>g_mp (.inl rfl) rfl) rfl rfl rfl ?_;refine XK.ga (fun _=>g_nc rfl rfl) rfl rfl rfl ?_;refine XK.ga (fun _=>g_fa_p rfl rfl fd_121_1 rfl) rfl rfl rfl ?_
        refine XK.gf (t:=8) rfl rfl (fun _ he=>zbe rfl rfl he rfl rfl ty_3) ⟨rfl,trivial⟩ rfl rfl rfl ?_;refine XK.ga (fun _=>g_mp (.inl rfl) rfl) rfl rfl rfl ?_;refine XK.ga (fun _=>g_nc rfl rfl) rfl rfl rfl ?_
        refine XK.ga (fun _=>g_fa_p rfl rfl fd_121_2 rfl) rfl rfl rfl ?_;refine XK.gf (t:=12) rfl rfl (fun _ he=>zbe rfl rfl he rfl rfl ty_3) ⟨rfl,trivial⟩ rfl rfl rfl ?_
        refine XK.ga (fun _=>zab rfl zn_proof bd_25 (.cons zbZ (Lens.fst _ _) ty_3 rfl (.cons zbS ((Lens.snd _ _).comp (Lens.fst _ _)) ty_3 rfl .nil)) rfl) rfl rfl rfl ?_
        refine XK.e (fun fr' hfr kk H=>by exact zf zn_proof rfl rfl rfl rfl (zG H)) ?_
        refine XK.e (x:=.idk) (fun fr' hfr kk H=>by exact za rfl rfl rfl ((hfr 3 (by decide +kernel)).trans rfl) rfl (Lens.self _) zy ((hfr 14 (by decide +kernel)).trans rfl) (zG H)) ?_
        refine XK.nilp ⟨⟨rfl,rfl,trivial⟩,⟨rfl,rfl,trivial⟩,trivial⟩ ?_;refine aw_splitb 6 (x:=(m,k,())) split_proof rfl ?_
        refine aw_nilpartL 6 58 partT [.val i64T m,.val i64T k] rfl (by intro x hx;simp only [List.mem_cons,List.not_mem_nil,or_false] at hx;rcases hx with rfl|rfl<;>trivial) ?_;refine CQQR ?_;refine A0 mP ?_;refine A0 (g_nc rfl rfl) ?_
        refine A0 (oFp fd_121_4) ?_;refine A0 (zbe rfl rfl rfl rfl rfl ty_22) ?_;refine A0 (zbi rfl rfl rfl zdm) ?_;refine A0 mV ?_;refine CNB ?_
        refine Lp (ι:=Nat) 8 (fun (i:Nat)=>((((((Fr.none).set 0 (.ptr 2 0)).set 2 (.ptr 5 0)).set 3 (.ptr 6 0)).set 18 (.own 4)).set 19 (.val i64T (PL.length:Int))).set 20 (.val i64T (i:Int))) (fun (i:Nat)=>((((((Hp.none).set 0 (.box 25 proofT zProof)).set 2 (.parts 121 ([.val (bsl blockT) l,.val i64T m,.val i64T k,.val (sl i64T) (levelsOf l)]++[.own 4]))).set 4 (.row 3 i64T PL)).set 5 (.box 25 proofT zProof)).set 6 (.parts 25 [.val i64T m,.val i64T k,.own 7])).set 7 (.row 58 partT ((PL.take i).map (prPart l)))) (fun (i:Nat)=>i≤PL.length) (fun (i:Nat)=>PL.length-i) (0) (Nat.zero_le _) ?_
        intro i hi2
        refine CQR ?_;refine A0 zC ?_;refine CNQ ?_
        refine Cf (p:=i<PL.length) (fun ht21=>?_) (fun ht21=>?_)
        ·
         obtain ⟨x,hx⟩:∃x,PL[i]?=some x:=⟨_,List.getElem?_eq_getElem ht21⟩
         have hxb:=hpm x (List.mem_of_getElem? hx)
         obtain ⟨b,hb⟩:∃b,l[x.toNat]?=some b:=⟨_,List.getElem?_eq_getElem (by omega)⟩
         refine CSQBQR ?_;refine A0 (zav (i:=i) rfl rfl rfl rfl (by first|omega|rfl) zdq (by first|assumption|omega|(simp;omega))) ?_;refine A0 (zX rfl rfl rfl rfl (by assumption) (Lens.self _) ty_3) ?_;refine A0 aV ?_
         refine CN ?_
         refine zB [some 1,some 1,some 1,some 1,some 1,some 1,some 1,some 1,some 1,some 1,some 1,some 1,some 1,some 1,some 1,some 1,some 1,some 1,some 1,some 1,some 1,none,some 1,none] mixed (by decide +kernel) ?_
         refine X0 (oFp zac) ?_;refine X0 (zbe rfl rfl rfl rfl rfl zbh) ?_;refine X0 mP ?_;refine X0 (g_nc rfl rfl) ?_;refine X0 (oFp fd_121_0) ?_;refine X0 (zbe rfl rfl rfl rfl rfl ty_46) ?_;refine X0 mV ?_
         refine X0 (zD (i:=x.toNat) rfl rfl rfl (by omega) sl_46 (by assumption)) ?_;refine X0 (oFr zbc zax) ?_;refine X0 (zg rfl rfl zai) ?_;refine X0 mP ?_;refine X0 (g_nc rfl rfl) ?_;refine X0 (oFp fd_121_0) ?_
         refine X0 (zbe rfl rfl rfl rfl rfl ty_46) ?_;refine X0 mV ?_;refine X0 (zD (i:=x.toNat) rfl rfl rfl (by omega) sl_46 (by assumption)) ?_;refine X0 (oFr zeh zco) ?_;refine X0 (zg rfl rfl zbC) ?_
         refine X0 (oCl (zw (cloneId b.l (by have:=(hl.2 b (List.mem_of_getElem? hb)).1;constructor<;>omega))) rfl fn_63 ⟨(by first|exact zI rfl|exact zW rfl|exact zQ rfl rfl|exact zU rfl|exact zJ rfl|exact zak rfl rfl|exact zV rfl),trivial⟩) ?_
         refine X0 (zab rfl ze_58 bd_58 (.cons zaU zaH zai rfl (.cons zbx zaZ zbC rfl .nil)) rfl) ?_;refine X0 (zr (T:=partT) (xs:=[_]) rfl zcf row_23 ⟨rfl,rfl,trivial⟩ rfl rfl) ?_
         refine XK.e (fun fr' hfr kk H=>by exact zu rfl rfl rfl rfl ((hfr 25 (by decide +kernel)).trans rfl) rfl ((hfr 44 (by decide +kernel)).trans rfl) row_23 (by simp;omega) (zG H)) ?_;refine X0 (oFp zac) ?_
         refine XK.e (x:=.idk) (fun fr' hfr kk H=>by exact zcY rfl rfl rfl ((hfr 46 (by decide +kernel)).trans rfl) rfl rfl ((hfr 45 (by decide +kernel)).trans rfl) rfl rfl rfl zbh (zG H)) ?_;refine XK.nil' ?_;refine CI ?_
         refine CR ?_;refine A0 zs ?_;refine A0 mV ?_;refine CN ?_;refine zaQ 8 7 9 rfl rfl rfl rfl rfl rfl ?_
         refine zO (n:=7) (y:=(PL.take (i+1)).map (prPart l)) rfl (by rw [List.take_add_one,hx,List.map_append];simp [prPart,hb]) ?_
         exact Nx (i+1) (by omega) (by omega)
        ·
         refine CE ?_;refine CQ ?_;refine zO (n:=7) (y:=PL.map (prPart l)) rfl (by rw [List.take_of_length_le (by omega)]) ?_
         refine aw_joinb 6 7 [.val i64T m,.val i64T k] (z:=(⟨m,k,PL.map (prPart l)⟩:Proof)) (R:=proofT) rfl rfl rfl join_proof ?_;refine CR ?_;refine A0 (oLs rfl rfl rfl zy) ?_
         refine za rfl rfl rfl rfl rfl (Lens.self _) zy rfl ?_;refine CN ?_;refine aw_backc1 rfl rfl rfl zy ?_;refine za rfl rfl rfl rfl rfl (Lens.self _) zy rfl ?_;refine A0 aV ?_;refine CN ?_
         exact zH rfl rfl (zE rfl rfl zy (by unfold prOf;rw [if_pos (by unfold prE;rw [if_neg (by omega),if_neg (by omega)]),hPL])) (zah (zd rfl (by unfold prE;rw [if_neg (by omega),if_neg (by omega)])))
end Go.Proofs.YtdeghaedeefooaaGreat
