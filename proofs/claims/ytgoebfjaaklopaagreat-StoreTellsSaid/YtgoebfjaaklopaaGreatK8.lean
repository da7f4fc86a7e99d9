/- Parts of the proof: the layer that reads Go values as data, and what the functions of the program tell. -/
import Derived.Test.YtgoebfjaaklopaaGreatK7
set_option linter.unusedVariables false
set_option linter.unusedSimpArgs false
set_option maxRecDepth 20000
set_option maxHeartbeats 2000000
namespace Go.Proofs.YtgoebfjaaklopaaGreat
open Go.Ab Go.RowKit
theorem find_at {l:List Block} {id:Ab.Id} (h:¬zY l id = -1):∃p:Nat,zY l id=(p:Int)∧p<l.length:=by
  have h0:0≤zY l id:=by have:=zgZ (fun c:Block=>decide (zR c.h=id)) l;unfold zY at h ⊢;omega
  obtain⟨x,hx,_⟩:=zht h0;exact⟨(zY l id).toNat,(Int.toNat_of_nonneg h0).symm,(ul.1 hx).1⟩
theorem zpv {s:Store} {b:Block} (hs:SmS s) (hb:zd8 b) (hm:¬¬mayS s=true) (h:¬zY s.b b.h.prev = -1):zeW (zcN s (zY s.b b.h.prev)++[b])∧(zcN s (zY s.b b.h.prev)).length≤40:=by
  obtain⟨p,hp,hl⟩:=find_at h;have hM:=zoe.1 (ua hm);have hn:=hM.n2;rw[hp,zhz hM.pl.symm hl];have hle:(zaT s p).length≤40:=by
    unfold zaT
    have:=zlu s.par p p (ug _)
    rw[List.length_map];omega
  exact⟨zqK (zhr hs hl) ya hb,hle⟩
section
variable {s:Store} {b:Block}
theorem putE1 (h:¬mayS s=true):putE s b=1:=by unfold putE;rw[ut h]
theorem zrY (h:¬¬mayS s=true) (h2:¬zY s.b (zR b.h) = -1):putE s b=10:=by unfold putE;rw[ur h,ut h2]
theorem putE9 (h:¬¬mayS s=true) (h2:¬¬zY s.b (zR b.h) = -1) (h3:zY s.b b.h.prev = -1):putE s b=9:=by unfold putE;rw[ur h,ur h2,ut h3]
theorem zrX (h:¬¬mayS s=true) (h2:¬¬zY s.b (zR b.h) = -1) (h3:¬zY s.b b.h.prev = -1) (h4:s.b.length=40):putE s b=11:=by unfold putE;rw[ur h,ur h2,ur h3,ut h4]
theorem zpx (h:¬¬mayS s=true) (h2:¬¬zY s.b (zR b.h) = -1) (h3:¬zY s.b b.h.prev = -1) (h4:¬s.b.length=40):putE s b=(zQ (zcN s (zY s.b b.h.prev)++[b])).2:=by unfold putE;rw[ur h,ur h2,ur h3,ur h4]
end
theorem cloneInt (l:List Int) (hl:l.length*8≤140737488355328∧l.length≤9223372036854775807):Tells P 70 [.val (bsl i64T) l] (.fresh 3 i64T l):=by
 refine zc Tryz.func70 rfl rfl rfl (fun ext w hext=>?_);refine ze (d:=0) rfl zm (fun hsl0=>?_);refine qaB ?_;refine qb2 ?_;refine zfy rfl rfl rfl rfl rfl zkb (fun c4 hc4=>?_);refine CN ?_;refine zk (p:=c4=true) rfl yx (fun ht4=>?_) (fun ht4=>?_)
 ·
  obtain rfl:=hc4 ht4;refine qaB ?_;refine CN ?_;exact za rfl rfl (zr rfl)
 refine CSQR ?_;refine zbk (T:=i64T) (xs:=[]) rfl rfl rfl rfl zcJ zfm trivial rfl rfl ?_;refine qa9 ?_;refine zo rfl rfl rfl rfl rfl rfl rfl zfm yaC ?_;refine qbK ?_;exact za rfl rfl (zf rfl rfl yx)
theorem cloneBlock (l:List Block) (hl:l.length*232≤140737488355328∧l.length≤9223372036854775807):Tells P 69 [.val (bsl zt) l] (.fresh 37 zt l):=by
 refine zc Tryz.func69 rfl rfl rfl (fun ext w hext=>?_);refine ze (d:=0) rfl zm (fun hsl0=>?_);refine qaB ?_;refine qb2 ?_;refine zfy rfl rfl rfl rfl rfl zlM (fun c4 hc4=>?_);refine CN ?_;refine zk (p:=c4=true) rfl yx (fun ht4=>?_) (fun ht4=>?_)
 ·
  obtain rfl:=hc4 ht4;refine qaB ?_;refine CN ?_;exact za rfl rfl (zr rfl)
 refine CSQR ?_;refine zbk (T:=zt) (xs:=[]) rfl rfl rfl rfl zbS zdC trivial rfl rfl ?_;refine qa9 ?_;refine zo rfl rfl rfl rfl rfl rfl rfl zdC yaC ?_;refine qbK ?_;exact za rfl rfl (zf rfl rfl yx)
theorem zn0 (s:Store) (b:Block) (hs:SmS s) (hb:zd8 b):Tells P 12 [.val zar s,.val zt b] (.tup2 (.val zar (putS s b)) (.val i64T (putE s b))):=by
 have hsb:=hs.1.1;have hsn:=hs.2.1;have hsp:=hs.2.2;refine zc Tryz.func12 rfl rfl rfl (fun ext w hext=>?_);refine qaw ?_;refine qcv ?_;refine qaj ?_;refine qaN ?_;refine zdJ rfl rfl rfl rfl Tryz.func36 fn_36 rfl rfl (fun ia1 iok1=>?_);refine qaf ?_;refine qcv ?_;refine CN ?_;refine zqm 3 (x:=s) (zqH s) rfl ?_;refine CQ ?_;refine zn [some 1,some 1,none,some 2,some 2,none,some 2,none,some 1,none] mixed yc ?_;refine X0 (oFp zcM) ?_;refine X0 (zbW rfl rfl rfl rfl rfl zh0) ?_;refine XK.e (fun fr' hfr kk H=>by exact zam (cloneBlock s.b y5) rfl fn_69 ⟨(zd ((hfr 6 yc).trans rfl)),trivial⟩ rfl rfl rfl (zp H)) ?_;refine XK.g2 (zc6 rfl rfl zeu rfl) (zc6 rfl rfl zeu rfl) rfl rfl rfl ?_;refine XK.gb (t:=8) rfl rfl (fun _ he=>zbW rfl rfl he rfl rfl zk5) rfl ybH rfl rfl rfl ?_;refine XK.e (fun fr' hfr kk H=>by exact zam (cloneInt s.par y5) rfl fn_70 ⟨(zd ((hfr 9 yc).trans rfl)),trivial⟩ rfl rfl rfl (zp H)) ?_;refine XK.g2 (zc6 rfl rfl zcM rfl) (zc6 rfl rfl zcM rfl) rfl rfl rfl ?_;refine XK.e (x:=.idk) (fun fr' hfr kk H=>by exact zcW rfl rfl rfl ((hfr 11 yc).trans rfl) rfl rfl ((hfr 7 yc).trans rfl) rfl rfl rfl zh0 (zp H)) ?_;refine X0 (oFp zeu) ?_;refine XK.e (x:=.idk) (fun fr' hfr kk H=>by exact zcW rfl rfl rfl ((hfr 12 yc).trans rfl) rfl rfl ((hfr 10 yc).trans rfl) rfl rfl rfl zk5 (zp H)) ?_;refine xc ?_;refine CQQR ?_;refine A0 (oFp zcM) ?_;refine A0 (zbW rfl rfl rfl rfl rfl zh0) ?_;refine A0 (za9 rfl rfl rfl zlM) ?_;refine qbp ?_;refine Lp (ι:=Nat) 7 (fun i=>((((Fr.none.set 1 (.ptr 3 0)).set 2 (.ptr 4 0)).set 14 (.own 5)).set 15 (.val i64T (s.b.length:Int))).set 16 (.val i64T (i:Int))) (fun i=>((((((Hp.none.set 0 (.box 25 zar s)).set 1 (.box 37 zt b)).set 2 (.box 25 zar zjX)).set 3 (.parts 25 [.own 5,.own 6])).set 4 (.box 25 zar zjX)).set 5 (.row 37 zt s.b)).set 6 (.row 3 i64T s.par)) (fun i=>i≤s.b.length) (fun i=>s.b.length-i) (0) (uf _) ?_;intro i hinv;refine qas ?_;refine Cf (p:=i<s.b.length) (fun ht17=>?_) (fun ht17=>?_)
 ·
  obtain⟨x,hx⟩:∃x,s.b[i]?=some x:=⟨_,ub ht17⟩;refine qbe ?_;refine A0 (zI (i:=i) rfl rfl rfl rfl yh zbS yd) ?_;refine A0 (zbA rfl rfl rfl rfl yj (Lens.self _) zbg) ?_;refine zP zje rfl rfl rfl rfl ?_;refine A0 aV ?_;refine qaW ?_;refine CN ?_;refine zn [some 1,some 1,some 1,some 1,some 1,some 1,none] mixed yc ?_;refine X0 (oFp zcM) ?_;refine X0 (zbW rfl rfl rfl rfl rfl zh0) ?_;refine X0 mV ?_;refine X0 (oLs rfl rfl rfl zbg) ?_;refine X0 (oCl (zil x (hs.1.2 x (ud hx))) rfl fn_38 ye) ?_;refine X0 (zI (i:=i) rfl rfl rfl rfl yh zbS yd) ?_;refine XK.e (x:=.idk) (fun fr' hfr kk H=>by exact zai rfl rfl rfl ((hfr 26 yc).trans rfl) rfl rfl yj (Lens.self _) zbg ((hfr 25 yc).trans rfl) (zp H)) ?_;refine qba ?_;refine qan ?_;refine zcP 7 ?_;refine zB (n:=5) (y:=s.b) rfl (zrK hx) ?_;exact Nx (i+1) ya ya
 refine qbQ ?_;refine A0 (g_loadcat rfl rfl rfl rfl zbu) ?_;refine zmr rfl rfl rfl rfl rfl rfl rfl rfl zbu ?_;refine CN ?_;refine aw_backcat rfl rfl rfl rfl zbu ?_;refine qcv ?_;refine zmr rfl rfl rfl rfl rfl rfl rfl rfl zbu ?_;refine CN ?_;refine zcP 3 ?_;refine zcP 4 ?_;refine CQQR ?_;refine qaN ?_;refine A0 (oCl (zkK s hs) rfl fn_24 ye) ?_;refine qaQ ?_;refine zk (p:=¬mayS s=true) rfl (by cases mayS s<;>rfl) (fun ht14=>?_) (fun ht14=>?_)
 ·
  refine CQ ?_;refine zbr 7 5 (pre:=[]) rfl rfl rfl ?_;refine x5 ?_;refine zgB 7 (zeR (s.b) (s.par)) rfl ?_;refine CR ?_;refine qcO ?_;exact zx rfl rfl (zC rfl rfl zbu (by rw[zhP (by rw[putE1 ht14];decide)])) (zX (zb rfl (by rw[putE1 ht14])))
 refine CSQR ?_;refine qa8 ?_;refine A0 (oFp zah) ?_;refine A0 (oFp zet) ?_;refine A0 (oLb (zE.comp zbz) zT) ?_;refine A0 (oCl (zsE s.b b.h.prev) rfl fn_37 yf) ?_;refine qaJ ?_;refine CB ?_;refine qaH ?_;refine G0 (oFp zcM) ?_;refine G0 (oLb zen zh0) ?_;refine G0 (oFp zah) ?_;refine G0 (oLb zE za4) ?_;refine G0 (oCl (ze5 b.h) rfl zqZ ye) ?_;refine G0 (oCl (zsE s.b (zR b.h)) rfl fn_37 yf) ?_;refine G0 zeb ?_;refine qa6 ?_;refine zk (p:=¬zY s.b (zR b.h) = -1) rfl yF (fun ht22=>?_) (fun ht22=>?_)
 ·
  refine CQ ?_;refine zbr 7 5 (pre:=[]) rfl rfl rfl ?_;refine x5 ?_;refine zgB 7 (zeR (s.b) (s.par)) rfl ?_;refine CR ?_;refine qcO ?_;exact zx rfl rfl (zC rfl rfl zbu (by rw[zhP (by rw[zrY ht14 ht22];decide)])) (zX (zb rfl (by rw[zrY ht14 ht22])))
 refine qa0 ?_;refine A0 zct ?_;refine qad ?_;refine zk (p:=zY s.b b.h.prev = -1) rfl yF (fun ht31=>?_) (fun ht31=>?_)
 ·
  refine CQ ?_;refine zbr 7 5 (pre:=[]) rfl rfl rfl ?_;refine x5 ?_;refine zgB 7 (zeR (s.b) (s.par)) rfl ?_;refine CR ?_;refine qcO ?_;exact zx rfl rfl (zC rfl rfl zbu (by rw[zhP (by rw[putE9 ht14 ht22 ht31];decide)])) (zX (zb rfl (by rw[putE9 ht14 ht22 ht31])))
 refine CQR ?_;refine qa8 ?_;refine qbf ?_;refine A0 zct ?_;refine qad ?_;refine Cf (p:=s.b.length=40) (fun ht35=>?_) (fun ht35=>?_)
 ·
  refine CQ ?_;refine zbr 7 5 (pre:=[]) rfl rfl rfl ?_;refine x5 ?_;refine zgB 7 (zeR (s.b) (s.par)) rfl ?_;refine CR ?_;refine qcO ?_;exact zx rfl rfl (zC rfl rfl zbu (by rw[zhP (by rw[zrX ht14 ht22 ht31 ht35];decide)])) (zX (zb rfl (by rw[zrX ht14 ht22 ht31 ht35])))
 have hcs:=zpv hs hb ht14 ht31;have hcl:=hcs.2;refine CS ?_;refine CI ?_;refine CQ ?_;refine CQ ?_;refine aw_drawf 10 (.box 56 tipT zTip) [some 1,some 1,none,some 2,some 2,none,some 1,some 1,some 1,some 1000001,some 1000003,none,some 1] mixed yc rfl ?_;refine XKF.gb (t:=2) rfl rfl rfl (fun _ he=>zl rfl rfl he (Lens.self _) zbu) rfl rfl rfl ybJ rfl rfl rfl ?_;refine XKF.g rfl (g_mv (.inl rfl) rfl) (g_mv (.inl rfl) rfl) rfl rfl rfl rfl ?_;refine XKF.e rfl (fun fr' hfr kk H=>by exact zam (zf3 s (zY s.b b.h.prev) hs) rfl fn_18 ⟨(zd ((hfr 42 yc).trans rfl)),(zd ((hfr 43 yc).trans rfl)),trivial⟩ rfl rfl rfl (zp H)) (EffA.conv (fun fr' hfr kk H=>by exact zam (zf3 s (zY s.b b.h.prev) hs) rfl fn_18 ⟨(zd ((hfr 42 yc).trans rfl)),(zd ((hfr 43 yc).trans rfl)),trivial⟩ rfl rfl rfl (zp H)) ybx) (by exact rfl) (by exact rfl) (by exact rfl) (by (repeat refine av_set ?_ rfl);exact fun _ _=>rfl) ?_;refine XKF.gb (t:=3) rfl rfl rfl (fun _ he=>zl rfl rfl he (Lens.self _) zbg) rfl rfl rfl ybH rfl rfl rfl ?_;refine XKF.ga rfl (fun _=>zW (T:=zt) (xs:=[_]) rfl zbS zdC yz rfl rfl) rfl rfl rfl rfl ?_;refine XKF.e rfl (fun fr' hfr kk H=>by exact zo rfl rfl rfl rfl ((hfr 44 yc).trans rfl) rfl ((hfr 46 yc).trans rfl) zdC yE (zp H)) (EffA.conv (fun fr' hfr kk H=>by exact zo rfl rfl rfl rfl ((hfr 44 yc).trans rfl) rfl ((hfr 46 yc).trans rfl) zdC yE (zp H)) ybx) (by exact rfl) (by exact rfl) (by exact rfl) (by (repeat refine av_set ?_ rfl);exact fun _ _=>rfl) ?_;refine XKF.g rfl (zb7 (zkS (zcN s (zY s.b b.h.prev)++[b]) hcs.1) rfl fn_28 ⟨(zG rfl rfl),trivial⟩ rfl) (zb7 (zkS (zcN s (zY s.b b.h.prev)++[b]) hcs.1) rfl fn_28 ⟨(zG rfl rfl),trivial⟩ rfl) rfl rfl rfl rfl ?_;refine XKF.g rfl yN yN rfl rfl rfl rfl ?_;refine XKF.g rfl yR yR rfl rfl rfl rfl ?_;refine XKF.ga rfl yB rfl rfl rfl rfl ?_;refine XKF.f rfl zep rfl rfl rfl rfl rfl rfl ?_;refine XKF.ew (x:=.idk) rfl yc (fun fr' hfr kk H=>by exact zg rfl rfl rfl ((hfr 8 yc).trans rfl) rfl (Lens.self _) zaP ((hfr 49 yc).trans rfl) (zp H)) (by exact rfl) (by (repeat refine av_set ?_ rfl);exact fun _ _=>rfl) ?_;refine XKF.gw rfl yc (g_mv (.inr rfl) rfl) rfl rfl rfl ?_;refine XKF.nilp trivial ?_;refine qa0 ?_;refine qaT ?_;refine zk (p:=¬(zQ (zcN s (zY s.b b.h.prev)++[b])).2=0) rfl yF (fun ht52=>?_) (fun ht52=>?_)
 ·
  refine CQ ?_;refine zbr 7 5 (pre:=[]) rfl rfl rfl ?_;refine x5 ?_;refine zgB 7 (zeR (s.b) (s.par)) rfl ?_;refine CR ?_;refine qaN ?_;refine qa9 ?_;refine qaA ?_;refine qad ?_;exact zx rfl rfl (zC rfl rfl zbu (by rw[zhP (by rw[zpx ht14 ht22 ht31 ht35];exact ht52)])) (zX (zb rfl (by rw[zpx ht14 ht22 ht31 ht35])))
 refine CS ?_;refine CQ ?_;refine zn [some 1,some 1,some 1,some 1,some 1,none,some 2,some 2,some 2,some 2,none,some 2,none,some 1,none] mixed yc ?_;refine X0 (oFp zcM) ?_;refine X0 (zbW rfl rfl rfl rfl rfl zh0) ?_;refine X0 (oLs rfl rfl rfl zbg) ?_;refine X0 (oCl (zil b hb) rfl fn_38 ye) ?_;refine X0 (zW (T:=zt) (xs:=[_]) rfl zbS zdC yz rfl rfl) ?_;refine XK.e (fun fr' hfr kk H=>by exact zo rfl rfl rfl rfl ((hfr 56 yc).trans rfl) rfl ((hfr 59 yc).trans rfl) zdC yE (zp H)) ?_;refine XK.g2 (zc6 rfl rfl zeu rfl) (zc6 rfl rfl zeu rfl) rfl rfl rfl ?_;refine XK.g2 (zbW rfl rfl rfl rfl rfl zk5) (zbW rfl rfl rfl rfl rfl zk5) rfl rfl rfl ?_;refine xN ?_;refine XK.g2 (zW (T:=i64T) (xs:=[_]) rfl zcJ zfm yz rfl rfl) (zW (T:=i64T) (xs:=[_]) rfl zcJ zfm yz rfl rfl) rfl rfl rfl ?_;refine XK.e (fun fr' hfr kk H=>by exact zo rfl rfl rfl rfl ((hfr 62 yc).trans rfl) rfl ((hfr 64 yc).trans rfl) zfm yE (zp H)) ?_;refine XK.g2 (zc6 rfl rfl zcM rfl) (zc6 rfl rfl zcM rfl) rfl rfl rfl ?_;refine XK.e (x:=.idk) (fun fr' hfr kk H=>by exact zcW rfl rfl rfl ((hfr 66 yc).trans rfl) rfl rfl ((hfr 60 yc).trans rfl) rfl rfl rfl zh0 (zp H)) ?_;refine X0 (oFp zeu) ?_;refine XK.e (x:=.idk) (fun fr' hfr kk H=>by exact zcW rfl rfl rfl ((hfr 67 yc).trans rfl) rfl rfl ((hfr 65 yc).trans rfl) rfl rfl rfl zk5 (zp H)) ?_;refine xc ?_;refine CQ ?_;refine zbr 7 11 (pre:=[]) rfl rfl rfl ?_;refine zbr 7 12 (pre:=[.val (sl zt) (s.b++[b])]) rfl rfl rfl ?_;refine zgB 7 (zeR (s.b++[b]) (s.par++[zY s.b b.h.prev])) rfl ?_;refine CR ?_;refine qcO ?_;exact zx rfl rfl (zC rfl rfl zbu (by unfold putS;rw[ut (by rw[zpx ht14 ht22 ht31 ht35];exact ua ht52)])) (zX (zb rfl (by rw[zpx ht14 ht22 ht31 ht35];exact(ua ht52).symm)))
theorem zmn (s:Store) (hs:SmS s):Tells P 26 [.val zar s] (.val i64T (zmM s)):=by
 refine zc Tryz.func26 rfl rfl rfl (fun ext w hext=>?_);refine qaf ?_;refine qaj ?_;refine qaN ?_;refine zam (zk7 s hs) rfl fn_21 ye rfl rfl rfl ?_;refine A0 aO ?_;refine CNQQR ?_;refine A0 mO ?_;refine A0 (za9 rfl rfl rfl zkb) ?_;refine qcC ?_;refine Cf (p:=(zd6 s).length=0) (fun ht8=>?_) (fun ht8=>?_)
 ·
  refine qaq ?_;exact za rfl rfl (zb rfl (by unfold zmM;rw[List.eq_nil_of_length_eq_zero ht8]))
 obtain⟨x,hx⟩:∃x,(zd6 s)[0]?=some x:=yq;refine CSQR ?_;refine A0 mO ?_;refine A0 (zI (i:=0) rfl rfl rfl rfl yh zcJ yd) ?_;refine A0 (zbA rfl rfl rfl rfl yj (Lens.self _) ty_3) ?_;refine qad ?_;exact za rfl rfl (zb rfl yaV)
set_option maxRecDepth 20000
set_option maxHeartbeats 2000000
def fewS (s:Store):Bool:=fewC s.b&&decide ((s.b.length:Int)≤42)&&decide ((s.par.length:Int)≤42)
theorem few_smS {s:Store} (h:¬¬fewS s=true):SmS s:=by
  have h:=ua h;unfold fewS at h;rw[uk,uk,uj,uj] at h;exact⟨znv h.1.1,by omega,by omega⟩
def zeh:Store:=⟨[zcg],[-1]⟩
def zg3:Store:=⟨[zcg,zb4],[-1,0]⟩
theorem zij:SmS zeh:=⟨zj0,by decide,by decide⟩
theorem zqb:SmS zg3:=⟨zlb,by decide,by decide⟩
theorem znA:zaT zeh 0=[zcg]:=by
  unfold zaT;rw[zbq (by show ¬(0≤(-1:Int)∧_);omega)];rfl
theorem zmd:zcN zeh 0=[zcg]:=(zhz (i:=0) (s:=zeh) rfl yp).trans znA
theorem zp8:mayS zeh=true:=by
  refine may_yes (n:=1) ⟨by decide,by decide,rfl,rfl⟩ (ug _) (fun i hi=>?_);rw[show i=0 by omega];unfold okS;rw[znA,ze9];rfl
theorem easy_find0:zY [zcg] (zR zb4.h) = -1:=by
  unfold zY;rw[idx];have e:decide (zR zcg.h=zR zb4.h)=false:=easy_two;simp only[e];simp[idx]
theorem zq5:zR zcg.h=zb4.h.prev:=zoz.trans rfl
theorem znC:zY [zcg] zb4.h.prev=0:=by
  unfold zY;rw[idx];have e:decide (zR zcg.h=zb4.h.prev)=true:=ui zq5;simp only[e];rfl
theorem ziZ:putE zeh zb4=0:=by
  unfold putE;rw[ur (fun h=>h zp8),ur (fun h=>h (show zY [zcg] _ = -1 from easy_find0))];rw[show zY zeh.b zb4.h.prev=0 from znC,ur yp,ur yp,zmd];exact congrArg (·.2) zq7
theorem zeg:putS zeh zb4=zg3:=by
  unfold putS;rw[ut ziZ,show zY zeh.b zb4.h.prev=0 from znC];rfl
theorem zp9:mayS zg3=true:=by rw[←zeg];exact zoe.2 (put_may ziZ)
theorem easy_put2:putE zg3 zb4=10:=by rw[←zeg];exact put_twice ziZ
theorem zrA {s:Store} {x:STip} (h:mayS s=true) (hx:zc1 s=[x]):zd6 s=[x.at_]:=by
  obtain⟨h1,h2⟩:=ziW zcn (zc1 s);have h3:=(zoA zcn zlJ _ _ rfl h1).1.trans h2;unfold zd6;rw[ut h];rw[hx] at h3 ⊢;rw[List.perm_singleton.1 h3];rfl
theorem easy_tips:zd6 zeh=[0]:=zrA zp8 (x:=zjj zeh 0) (by
  unfold zc1;rw[show(List.range zeh.b.length).filter (tipB zeh)=[0] from by decide +kernel];rfl)
theorem znx:zd6 zg3=[1]:=zrA zp9 (x:=zjj zg3 1) (by
  unfold zc1;rw[show(List.range zg3.b.length).filter (tipB zg3)=[1] from by decide +kernel];rfl)
theorem easy_best:zmM zeh=0:=by unfold zmM;rw[easy_tips]
theorem easy_best2:zmM zg3=1:=by unfold zmM;rw[znx]
theorem zq6:zcN zg3 1=[zcg,zb4]:=by
  rw[show(1:Int)=((1:Nat):Int) from rfl,zhz rfl yp];unfold zaT;rw[zgk (by show 0≤(0:Int)∧(0:Int)<1;decide)];rw[show(zg3.par.getD 1 0).toNat=0 from rfl,zbq (by show ¬(0≤(-1:Int)∧_);omega)];rfl
theorem fewS_ok (s:Store):Tells P 10 [.val zar s] (.val zu (fewS s)):=by
 refine zc Tryz.func10 rfl rfl rfl (fun ext w hext=>?_);refine qaf ?_;refine qaj ?_;refine qa8 ?_;refine A0 (oCl (fewC_ok s.b) rfl fn_11 ye) ?_;refine qbW ?_;refine zad (d:=8) (p:=fewC s.b=true) rfl (by cases fewC s.b<;>rfl) (fun g8=>?_) (fun g8=>?_)
 ·
  refine qbn ?_;refine A1 zhK ?_;refine qat ?_;refine Sp (d:=14) (p:=(s.b.length:Int)≤42) (fun g14=>?_) (fun g14=>?_)
  ·
   refine qby ?_;refine A1 (zaZ rfl rfl zkb) ?_;refine A1 zhK ?_;refine qbi ?_;exact za rfl rfl (zb rfl (by unfold fewS;rw[g8,ui g14];simp[IntL.toI]))
  refine qac ?_;refine A2 ?_;refine qbi ?_;exact za rfl rfl (zb rfl (by unfold fewS;rw[g8,uh g14];simp))
 refine qam ?_;refine qbi ?_;exact za rfl rfl (zb rfl (by unfold fewS;simp[g8]))
theorem awake13_ok:Tells P 9 [] (.val zu true):=by
 refine zc Tryz.func9 rfl rfl rfl (fun ext w hext=>?_);have hw2:([zcg,zb4]:List Block)[1]?=some zb4:=rfl;have hps:SmS (putS zeh zb4):=by rw[zeg];exact zqb
 have hpb:zd8 zb4:=zlb.2 _ yx;refine CQR ?_;refine qaj ?_;refine A0 (oCl (zr9 545259519) rfl fn_14 ye) ?_;refine A0 mX ?_;refine A0 yR ?_;refine zi (d:=11) (y:=zeh) rfl (by rw[ut zmb,easy_newOf];rfl) ?_;refine A0 yZ ?_;refine zi (d:=12) (y:=true) rfl zmb ?_;refine qcv ?_;refine qaA ?_;refine qaj ?_;refine qaN ?_;refine zam (zf3 zeh 0 zij) rfl fn_18 yf rfl rfl rfl ?_;refine zB (n:=1) (y:=[zcg]) rfl zmd ?_;refine A0 (oCl (zdP (growC_ok [zcg] [] 0 zj0 ⟨by decide,fun t ht=>by cases ht⟩)) rfl fn_34 ⟨(zG rfl rfl),yb,yl,trivial⟩) ?_;refine A0 mX ?_;refine A0 yR ?_;refine zi (d:=17) (y:=[zcg,zb4]) rfl easy_grown ?_;refine A0 yZ ?_;refine zi (d:=18) (y:=(0:Int)) rfl znB ?_;refine A0 aV ?_;refine qah ?_;refine A0 oN ?_;refine qa9 ?_;refine zgG (d:=21) rfl (rfl) ?_;refine A1 mV ?_;refine A1 (zaZ rfl rfl zlM) ?_;refine A1 zeb ?_;refine qat ?_;refine zgG (d:=26) rfl (rfl) ?_;refine x6 ?_;refine A1 (oCl (zmn zeh zij) rfl fn_26 ye) ?_;refine A1 zeb ?_;refine A0 oK ?_;refine zgG (d:=30) rfl (by rw[easy_best];rfl) ?_;refine CN ?_;refine Cg ?_;refine CS ?_;refine CQ ?_;refine xv ?_;refine XK.gf (t:=1) rfl rfl (fun _ he=>zl rfl rfl he (Lens.self _) zbu) ybJ rfl rfl rfl ?_;refine XK.ga (fun _=>g_mv (.inl rfl) rfl) rfl rfl rfl ?_;refine XK.ga (fun _=>zD (i:=1) rfl rfl rfl ya zbS yj) rfl rfl rfl ?_;refine XK.ga (fun _=>zh rfl rfl zbg) rfl rfl rfl ?_;refine XK.ga (fun _=>zb7 (zn0 zeh zb4 zij hpb) rfl fn_12 ybG rfl) rfl rfl rfl ?_;refine xw ?_;refine xx ?_;refine xq ?_;refine XK.e (fun fr' hfr kk H=>by exact zP zo2 rfl rfl rfl rfl (zp H)) ?_;refine XK.e (x:=.idk) (fun fr' hfr kk H=>by exact zg rfl rfl rfl ((hfr 5 yc).trans rfl) rfl (Lens.self _) zbu ((hfr 37 yc).trans rfl) (zp H)) ?_;refine X0 aV ?_;refine XK.nilp ⟨ybH,trivial⟩ ?_;refine CQ ?_;refine xv ?_;refine XK.gf (t:=5) rfl rfl (fun _ he=>zl rfl rfl he (Lens.self _) zbu) ybJ rfl rfl rfl ?_;refine XK.ga (fun _=>g_mv (.inl rfl) rfl) rfl rfl rfl ?_;refine XK.ga (fun _=>zD (i:=1) rfl rfl rfl ya zbS yj) rfl rfl rfl ?_;refine XK.ga (fun _=>zh rfl rfl zbg) rfl rfl rfl ?_;refine XK.ga (fun _=>zb7 (zn0 (putS zeh zb4) zb4 hps hpb) rfl fn_12 ybG rfl) rfl rfl rfl ?_;refine xw ?_;refine xx ?_;refine xq ?_;refine XK.e (fun fr' hfr kk H=>by exact zP zo2 rfl rfl rfl rfl (zp H)) ?_;refine XK.e (x:=.idk) (fun fr' hfr kk H=>by exact zg rfl rfl rfl ((hfr 7 yc).trans rfl) rfl (Lens.self _) zbu ((hfr 45 yc).trans rfl) (zp H)) ?_;refine X0 aV ?_;refine XK.nilp ⟨ybH,trivial⟩ ?_;refine qa0 ?_;refine A0 zct ?_;refine qa9 ?_;refine zmt (d:=49) rfl (by rw[ziZ];rfl) ?_;refine A1 mV ?_;refine A1 zct ?_;refine qat ?_;refine zmt (d:=53) rfl (by rw[zeg,easy_put2];rfl) ?_;refine x6 ?_;refine A1 (oCl (zkK (putS zeh zb4) hps) rfl fn_24 ye) ?_;refine qat ?_;refine zmt (d:=57) rfl (by rw[zeg,zp9]) ?_;refine x6 ?_;refine A1 (oCl (zmn (putS zeh zb4) hps) rfl fn_26 ye) ?_;refine A1 zct ?_;refine qat ?_;refine zmt (d:=62) rfl (by rw[zeg,easy_best2];rfl) ?_;refine x6 ?_;refine zhC rfl rfl rfl rfl rfl rfl ?_;refine zam (zk7 (putS zeh zb4) hps) rfl fn_21 ye rfl rfl rfl ?_;refine A1 (za9 rfl rfl rfl zkb) ?_;refine A1 zct ?_;refine qat ?_;refine zmt (d:=68) rfl (by rw[zeg,znx];rfl) ?_;refine x6 ?_;refine zhC rfl rfl rfl rfl rfl rfl ?_;refine zam (zf3 (putS zeh zb4) 1 hps) rfl fn_18 yf rfl rfl rfl ?_;refine A1 (za9 rfl rfl rfl zlM) ?_;refine A1 zct ?_;refine qat ?_;refine zmt (d:=74) rfl (by rw[zeg,zq6];rfl) ?_
 refine x6 ?_;refine x6 ?_;refine A1 (oCl (zpj (putS zeh zb4) (putS zeh zb4)) rfl fn_25 yf) ?_;refine qbi ?_;exact za rfl rfl (zb rfl yx)
theorem few_one {b:Block} (h:¬¬fewC [b]=true):zd8 b:=(znv (ua h)).2 b yx
def upS (s:Store) (i:Nat):List Block:=if 0≤s.par.getD i 0∧s.par.getD i 0<(i:Int) then zaT s (s.par.getD i 0).toNat else []
theorem zsf {s:Store} {i:Nat}:zaT s i=upS s i++[blkS s i]:=by
  by_cases h:0≤s.par.getD i 0∧s.par.getD i 0<(i:Int)
  · unfold upS
    rw[ut h];unfold zaT;rw[zgk h,List.map_append];rfl
  unfold upS;rw[ur h];unfold zaT;rw[zbq h];rfl
theorem upS_go {s:Store} {i:Nat} {p:Int} (hp:s.par[i]?=some p) (h0:¬p<0) (h:p<(i:Int)) {out L:List Block} {b:Block} (hb:s.b[p.toNat]?=some b) (hL:L=upS s i++out):L=upS s p.toNat++([b]++out):=by
  have e:s.par.getD i 0=p:=by rw[uq,hp];rfl
  have e2:upS s i=zaT s p.toNat:=by unfold upS;rw[e,ut ya]
  have e3:blkS s p.toNat=b:=yb1;rw[hL,e2,zsf,e3,List.append_assoc]
theorem upS_end {s:Store} {i:Nat} {p:Int} (hp:s.par[i]?=some p) (h:p<0∨(i:Int)≤p) {out L:List Block} (hL:L=upS s i++out):out=L:=by
  have e:s.par.getD i 0=p:=by rw[uq,hp];rfl
  have e2:upS s i=[]:=by unfold upS;rw[e,ur ya]
  rw[hL,e2,List.nil_append]
theorem ins_cut {s:Store} {i:Nat}:∀{D:List Nat} {n:Nat},n≤D.length→(∀k j,k<n→D[k]?=some j→0≤cmpW (zbJ s j) (zbJ s i))→(∀j,D[n]?=some j→¬0≤cmpW (zbJ s j) (zbJ s i))→insS s i D=D.take n++i::D.drop n
  | [],n,h1,_,_=>by
    rw[show n=0 from Nat.le_zero.1 h1];rfl
  | d::r,0,_,_,h3=>by
    have h:=h3 d rfl;unfold insS;rw[List.takeWhile_cons,ur (by rw[uj];exact h),List.dropWhile_cons,ur (by rw[uj];exact h)];rfl
  | d::r,n+1,h1,h2,h3=>by
    have h:=h2 0 d (Nat.succ_pos _) rfl;have ih:=ins_cut (s:=s) (i:=i) (D:=r) (n:=n) (Nat.le_of_succ_le_succ h1) (fun k j hk hj=>h2 (k+1) j (Nat.succ_lt_succ hk) hj) (fun j hj=>h3 j hj);have e:insS s i (d::r)=d::insS s i r:=by
      unfold insS;rw[List.takeWhile_cons,ut (by rw[uj];exact h),List.dropWhile_cons,ut (by rw[uj];exact h)];rfl
    rw[e,ih];rfl
def docI (s:Store) (n:Nat):List Int:=(zby s n).map (fun i:Nat=>(i:Int))
theorem doc_lt {s:Store} {n j:Nat} (h:j∈zby s n):j<n:=by
  have:=(zhx s n).subset h
  rw[List.mem_filter,List.mem_range] at this;exact this.1
theorem doc_len {s:Store} {n:Nat}:(zby s n).length≤n:=by
  rw[(zhx s n).length_eq];exact Nat.le_trans (List.length_filter_le _ _) yx
theorem docI_len {s:Store} {n:Nat}:(docI s n).length=(zby s n).length:=by unfold docI;simp
theorem docI_at {s:Store} {n k j:Nat} (h:(zby s n)[k]?=some j):(docI s n)[k]?=some (j:Int):=by unfold docI;rw[List.getElem?_map,h];rfl
theorem docI_no {s:Store} {n:Nat} (h:¬tipB s n=true):docI s (n+1)=docI s n:=by unfold docI;rw[doc_no h]
theorem zsM {s:Store} {n k:Nat} (h:tipB s n=true) (h1:k≤(zby s n).length) (h2:∀q j,q<k→(zby s n)[q]?=some j→0≤cmpW (zbJ s j) (zbJ s n)) (h3:∀j,(zby s n)[k]?=some j→¬0≤cmpW (zbJ s j) (zbJ s n)):(docI s n).take k++[(n:Int)]++(docI s n).drop k=docI s (n+1):=by
  unfold docI;rw[zq9 h,ins_cut h1 h2 h3,List.map_append,List.map_cons,←List.map_take,←List.map_drop,List.append_assoc];rfl
theorem docI_all {s:Store} (h:mayS s=true):docI s s.b.length=zd6 s:=doc_tips h
theorem at_blk {s:Store} {i:Nat} {b:Block} (h:s.b[i]?=some b):blkS s i=b:=by unfold blkS;rw[uq,h];rfl
theorem mem_tip {s:Store} {i k:Nat} {x:Int} (hx:s.par[k]?=some x) (e:x=(i:Int)):tipB s i=false:=by
  unfold tipB;rw[ui (e▸ud hx)];rfl
theorem no_tip {s:Store} {i n:Nat} (hn:s.par.length≤n) (h:¬(i:Int)∈s.par.take n):tipB s i=true:=by
  rw[uc hn] at h;unfold tipB;rw[uh h];rfl
theorem doc_out {s:Store} {i:Nat} (h:(mayS s=true∧i=s.b.length)∨(¬mayS s=true∧i=0)):docI s i=zd6 s:=by
  rcases h with ⟨h,rfl⟩|⟨h,rfl⟩
  · exact docI_all h
  unfold zd6;rw[ur h];rfl
theorem zgi (s:Store) (i:Int) (hs:SmS s):Tells P 19 [.val zar s,.val i64T i] (.fresh 37 zt (zcN s i)):=by
 obtain⟨hsb,hsn,hsp⟩:=hs;refine zc Tryz.func19 rfl rfl rfl (fun ext w hext=>?_);refine ze (d:=1) rfl zab (fun hin1=>?_);refine qbO ?_;refine CNQQR ?_;refine qa8 ?_;refine qbf ?_;refine qaX ?_;refine qcA ?_;refine A0 zeb ?_;refine qa9 ?_;refine zad (d:=13) (p:=¬s.b.length=s.par.length) rfl yaq (fun g13=>?_) (fun g13=>?_)
 ·
  refine qcI ?_;refine qbH ?_;refine qc1 ?_;refine Ct ?_;refine qaB ?_;refine CN ?_;exact za rfl rfl yau
 refine A1 mV ?_;refine A1 zbK ?_;refine qat ?_;refine Sp (d:=17) (p:=i<0) (fun g17=>?_) (fun g17=>?_)
 ·
  refine qac ?_;refine qc1 ?_;refine Ct ?_;refine qaB ?_;refine CN ?_;exact za rfl rfl yau
 refine A1 mV ?_;refine qbn ?_;refine A1 zec ?_;refine qar ?_;refine Cf (p:=(s.b.length:Int)≤i) (fun ht23=>?_) (fun ht23=>?_)
 ·
  refine qaB ?_;refine CN ?_;exact za rfl rfl yau
 obtain⟨I,rfl⟩:∃I:Nat,i=I:=⟨i.toNat,by omega⟩;have hbp:s.b.length=s.par.length:=ua g13;obtain⟨L,hL⟩:∃L,L=zaT s I:=⟨_,rfl⟩;have hcL:zcN s I=L:=by rw[zhz hbp ya,hL]
 obtain⟨b0,hb0⟩:∃b,s.b[I]?=some b:=yq;refine CSQR ?_;refine qa8 ?_;refine qa9 ?_;refine A0 (zD (i:=I) rfl rfl rfl ya zbS yj) ?_;refine A0 (zh rfl rfl zbg) ?_;refine zbk (T:=zt) (xs:=[_]) rfl rfl rfl rfl zbS zdC yz rfl rfl ?_;refine A0 aO ?_;refine CNQ ?_;refine CB ?_;refine Lp (ι:=Nat×List Block) 2 (fun(j,out)=>((Fr.none.set 1 (.val i64T (j:Int))).set 2 (.ptr 0 0)).set 5 (.own 1)) (fun(j,out)=>(Hp.none.set 0 (.box 25 zar s)).set 1 (.row 37 zt out)) (fun(j,out)=>j<s.b.length∧out.length+j≤s.b.length∧L=upS s j++out) (fun(j,out)=>j) ((I,[b0])) (⟨by omega,by simp;omega,by rw[hL,zsf,at_blk hb0]⟩) ?_;intro⟨j,out⟩ hinv;dsimp only at hinv;obtain⟨p,hp⟩:∃p,s.par[j]?=some p:=yq;have hbl:=hsb.1;refine CQQR ?_;refine qaX ?_;refine qa9 ?_;refine A0 (zD (i:=j) rfl rfl rfl ya zcJ yj) ?_;refine qbB ?_;refine A0 zec ?_;refine qa9 ?_;refine Sp (d:=36) (p:=0≤p) (fun g36=>?_) (fun g36=>?_)
 ·
  refine qby ?_;refine A1 mV ?_;refine A1 (zD (i:=j) rfl rfl rfl ya zcJ yj) ?_;refine A1 (zh rfl rfl ty_3) ?_;refine A1 mV ?_;refine A1 zbK ?_;refine qar ?_;refine Cf (p:=p<(j:Int)) (fun ht44=>?_) (fun ht44=>?_)
  ·
   obtain⟨b,hb⟩:∃b,s.b[p.toNat]?=some b:=yq;refine zfx (d:=5) rfl rfl ?_;refine CS ?_;refine CB ?_;refine CQR ?_;refine qaX ?_;refine qa9 ?_;refine A0 (zD (i:=j) rfl rfl rfl ya zcJ yj) ?_;refine qbB ?_;refine A0 aX ?_;refine CNR ?_;refine qa8 ?_;refine A0 mX ?_;refine A0 (zD (i:=p.toNat) rfl rfl rfl ya zbS yj) ?_;refine A0 (zh rfl rfl zbg) ?_;refine zbk (T:=zt) (xs:=[_]) rfl rfl rfl rfl zbS zdC yz rfl rfl ?_;refine qa9 ?_;refine zo rfl rfl rfl rfl rfl rfl rfl zdC yE ?_;refine qbK ?_;refine CI ?_;refine xz ?_;refine zi (d:=1) (y:=((p.toNat:Nat):Int)) rfl ya ?_;exact Nx ((p.toNat,[b]++out)) (⟨by omega,by simp;omega,upS_go hp ya ht44 hb hinv.2.2⟩) (by show p.toNat<j;omega)
  refine qa7 ?_;exact za rfl rfl (zf rfl rfl (by rw[hcL];exact upS_end hp ya hinv.2.2))
 refine qcT ?_;refine qaZ ?_;refine Cg ?_;refine qa7 ?_;exact za rfl rfl (zf rfl rfl (by rw[hcL];exact upS_end hp ya hinv.2.2))
theorem zlo (s:Store) (hs:SmS s):Tells P 23 [.val zar s] (.val zu (mayS s)):=by
 have hsb:=hs.1;have hsn:=hs.2.1;refine zc Tryz.func23 rfl rfl rfl (fun ext w hext=>?_);refine qaf ?_;refine qcH ?_;refine qa8 ?_;refine qbf ?_;refine A0 zbK ?_;refine qa9 ?_;refine Sp (d:=10) (p:=s.b.length<1) (fun g10=>?_) (fun g10=>?_)
 ·
  refine qac ?_;refine A2 ?_;refine qbH ?_;refine qam ?_;refine qaZ ?_;refine Ct ?_;refine qaq ?_;exact za rfl rfl (zb rfl (yU))
 refine qbn ?_;refine A1 zcm ?_;refine qat ?_;refine Sp (d:=16) (p:=40<s.b.length) (fun g16=>?_) (fun g16=>?_)
 ·
  refine qac ?_;refine qam ?_;refine qaZ ?_;refine Ct ?_;refine qaq ?_;exact za rfl rfl (zb rfl (yU))
 refine qby ?_;refine A1 (zaZ rfl rfl zkb) ?_;refine qbn ?_;refine A1 zeb ?_;refine qat ?_;refine zad (d:=25) (p:=¬s.par.length=s.b.length) rfl yaq (fun g25=>?_) (fun g25=>?_)
 ·
  refine qac ?_;refine qc1 ?_;refine Ct ?_;refine qaq ?_;exact za rfl rfl (zb rfl (yU))
 obtain⟨p0,hp0⟩:∃p,s.par[0]?=some p:=yq;refine qby ?_;refine A1 (zD (i:=0) rfl rfl rfl ya zcJ yj) ?_;refine A1 (zh rfl rfl ty_3) ?_;refine A1 zeb ?_;refine qar ?_;refine zk (p:=¬p0 = -1) rfl yF (fun ht31=>?_) (fun ht31=>?_)
 ·
  refine qaq ?_;exact za rfl rfl (zb rfl (yU))
 have hp0e:p0 = -1:=ua ht31;rw[hp0e] at hp0;have hc0:0<s.b.length∧s.b.length≤40∧s.par.length=s.b.length∧s.par[0]?=some (-1):=⟨by omega,by omega,by omega,hp0⟩;refine CSQQR ?_;refine qcn ?_;refine Lp (ι:=Nat) 1 (fun (i:Nat)=>((Fr.none).set 1 (.ptr 0 0)).set 3 (.val i64T (i:Int))) (fun (i:Nat)=>(Hp.none).set 0 (.box 25 zar s)) (fun (i:Nat)=>i≤s.b.length∧∀j,j<i→okS s j=true) (fun (i:Nat)=>s.b.length-i) (0) (⟨uf _,fun j hj=>by omega⟩) ?_;intro i hinv;refine qaK ?_;refine qa8 ?_;refine qbf ?_;refine qa1 ?_;refine Cf (p:=i<s.b.length) (fun ht36=>?_) (fun ht36=>?_)
 ·
  obtain⟨b,hb⟩:∃b,s.b[i]?=some b:=⟨_,ub ht36⟩;obtain⟨p,hpp⟩:∃p,s.par[i]?=some p:=yq;have hbe:blkS s i=b:=at_blk hb;have hpe:parS s i=p:=by unfold parS;rw[uq,hpp];rfl
  have hci:zcN s (i:Int)=zaT s i:=zhz ya ht36;refine qaD ?_;refine qaK ?_;refine A0 zcm ?_;refine qa9 ?_;refine Sp (d:=41) (p:=0<i) (fun g41=>?_) (fun g41=>?_)
  ·
   refine qby ?_;refine A1 mV ?_;refine A1 (zD (i:=i) rfl rfl rfl ya zcJ yj) ?_;refine A1 (zh rfl rfl ty_3) ?_;refine A1 zbK ?_;refine A1 mV ?_;refine Sp (d:=48) (p:=p<0) (fun g48=>?_) (fun g48=>?_)
   ·
    refine qcT ?_;refine A2 ?_;refine A1 oK ?_;refine qar ?_;refine Ct ?_;refine qaq ?_;exact za rfl rfl (zb rfl ((by symm;exact zdD ht36 (zr5 ya ybt))))
   refine qby ?_;refine A1 mV ?_;refine A1 (zD (i:=i) rfl rfl rfl ya zcJ yj) ?_;refine A1 (zh rfl rfl ty_3) ?_;refine A1 mV ?_;refine A1 zec ?_;refine A1 oK ?_;refine qar ?_;refine Cf (p:=(i:Int)≤p) (fun ht57=>?_) (fun ht57=>?_)
   ·
    refine qaq ?_;exact za rfl rfl (zb rfl ((by symm;exact zdD ht36 (zr5 ya ybt))))
   refine CSQR ?_;refine qaN ?_;refine qa9 ?_;refine A0 (oCl (zF (zgi s (i:Int) hs)) rfl fn_19 yf) ?_;refine zi (d:=61) (y:=zaT s i) rfl (hci) ?_;refine A0 (oCl (zlr (zaT s i) (zhr hs ht36)) rfl fn_41 ye) ?_;refine qbE ?_;refine qb5 ?_;refine G0 mV ?_;refine G0 zeb ?_;refine G0 mV ?_;refine zaq (d:=67) (p:=¬(zQ (zaT s i)).2=0) rfl yF (fun g67=>?_) (fun g67=>?_)
   ·
    refine qaa ?_;refine qaE ?_;refine G2 ?_;refine qbV ?_;refine Ct ?_;refine qaq ?_;exact za rfl rfl (zb rfl ((by symm;exact zdD ht36 (zkI g67))))
   refine qcF ?_;refine qcF ?_;refine G1 mV ?_;refine G1 (zD (i:=i) rfl rfl rfl ya zbS yj) ?_;refine G1 (oFr zah zE) ?_;refine G1 (zh rfl rfl za4) ?_;refine G1 (oCl (zdq b.h) rfl zpY ybD) ?_;refine G1 (oCl (ziG s.b (zR b.h)) rfl fn_39 yf) ?_;refine G1 mV ?_;refine G1 zeb ?_;refine qbV ?_;refine zk (p:=¬zY s.b (zR b.h)=(i:Int)) rfl yF (fun ht80=>?_) (fun ht80=>?_)
   ·
    refine qaq ?_;exact za rfl rfl (zb rfl (ybl))
   refine qbZ ?_;have hoki:okS s i=true:=(zr6 ht36).2 ⟨.inr ybt,ua g67,by rw[hbe];exact ua ht80⟩;refine zcP 1 ?_;exact Nx (i+1) (⟨by omega,fun j hj=>by by_cases e:j=i;rw[e];exact hoki;exact hinv.2 j ya⟩) ya
  refine qcT ?_;refine A2 ?_;refine qcx ?_;refine A3 ?_;refine A3 ?_;refine A3 ?_;refine qaZ ?_;refine Cg ?_;refine CSQR ?_;refine qaN ?_;refine qa9 ?_;refine A0 (oCl (zF (zgi s (i:Int) hs)) rfl fn_19 yf) ?_;refine zi (d:=61) (y:=zaT s i) rfl (hci) ?_;refine A0 (oCl (zlr (zaT s i) (zhr hs ht36)) rfl fn_41 ye) ?_;refine qbE ?_;refine qb5 ?_;refine G0 mV ?_;refine G0 zeb ?_;refine G0 mV ?_;refine zaq (d:=67) (p:=¬(zQ (zaT s i)).2=0) rfl yF (fun g67=>?_) (fun g67=>?_)
  ·
   refine qaa ?_;refine qaE ?_;refine G2 ?_;refine qbV ?_;refine Ct ?_;refine qaq ?_;exact za rfl rfl (zb rfl ((by symm;exact zdD ht36 (zkI g67))))
  refine qcF ?_;refine qcF ?_;refine G1 mV ?_;refine G1 (zD (i:=i) rfl rfl rfl ya zbS yj) ?_;refine G1 (oFr zah zE) ?_;refine G1 (zh rfl rfl za4) ?_;refine G1 (oCl (zdq b.h) rfl zpY ybD) ?_;refine G1 (oCl (ziG s.b (zR b.h)) rfl fn_39 yf) ?_;refine G1 mV ?_;refine G1 zeb ?_;refine qbV ?_;refine zk (p:=¬zY s.b (zR b.h)=(i:Int)) rfl yF (fun ht80=>?_) (fun ht80=>?_)
  ·
   refine qaq ?_;exact za rfl rfl (zb rfl (ybl))
  refine qbZ ?_;have hoki:okS s i=true:=(zr6 ht36).2 ⟨.inl ya,ua g67,by rw[hbe];exact ua ht80⟩;refine zcP 1 ?_;exact Nx (i+1) (⟨by omega,fun j hj=>by by_cases e:j=i;rw[e];exact hoki;exact hinv.2 j ya⟩) ya
 refine qcc ?_;exact za rfl rfl (zb rfl ((by symm;exact zpH hc0 (fun j hj=>hinv.2 j (by have:=hinv.1;omega)))))
theorem rtip13_ok (s:Store) (i:Nat) (hs:SmS s):Tells P 50 [.val zar s,.val i64T (i:Int)] (.val zu (tipB s i)):=by
 have hsp:=hs.2.2;refine zc Tryz.func50 rfl rfl rfl (fun ext w hext=>?_);refine ze (d:=1) rfl zab (fun hin1=>?_);refine qaf ?_;refine qbR ?_;refine Lp (ι:=Nat) 1 (fun (k:Nat)=>(((Fr.none).set 1 (.val i64T (i:Int))).set 2 (.ptr 0 0)).set 5 (.val i64T (k:Int))) (fun (k:Nat)=>(Hp.none).set 0 (.box 25 zar s)) (fun (k:Nat)=>k≤s.par.length∧¬(i:Int)∈s.par.take k) (fun (k:Nat)=>s.par.length-k) (0) (⟨uf _,by simp⟩) ?_;intro k hinv;refine qaK ?_;refine qaX ?_;refine qcA ?_;refine qa1 ?_;refine Cf (p:=k<s.par.length) (fun ht10=>?_) (fun ht10=>?_)
 ·
  obtain⟨x,hx⟩:∃x,s.par[k]?=some x:=⟨_,ub ht10⟩;refine CSQBQR ?_;refine qaX ?_;refine qa9 ?_;refine A0 (zD (i:=k) rfl rfl rfl ya zcJ yj) ?_;refine qbB ?_;refine qa9 ?_;refine qcC ?_;refine Cf (p:=x=(i:Int)) (fun ht19=>?_) (fun ht19=>?_)
  ·
   refine qaq ?_;exact za rfl rfl (zb rfl ((mem_tip hx ht19).symm))
  refine qbZ ?_;exact Nx (k+1) (⟨by omega,by rw[un,hx,List.mem_append];rintro (h|h);exact hinv.2 h;exact ht19 (List.mem_singleton.1 h).symm⟩) ya
 refine qcc ?_;exact za rfl rfl (zb rfl ((no_tip ya hinv.2).symm))
theorem zm3 (b:Block):Tells P 52 [.val zt b] (.val zL (addW b.h.work (zcF b.h))):=by
 refine zc Tryz.func52 rfl rfl rfl (fun ext w hext=>?_);refine qaf ?_;refine qau ?_;refine CNQ ?_;refine zn [some 1000001,some 1000001,some 1000001,some 1000001,some 1000001,some 1000001,some 1000001,some 1000001,some 1000001,some 1000001,none,none,some 1] mixed yc ?_;refine XK.ga (fun _=>zc6 rfl rfl zah rfl) rfl rfl rfl ?_;refine XK.ga (fun _=>zc6 rfl rfl zfF rfl) rfl rfl rfl ?_;refine XK.gf (t:=7) rfl rfl (fun _ he=>zl rfl rfl he (zE.comp zcq) zV) ybJ rfl rfl rfl ?_;refine XK.ga (fun _=>zc6 rfl rfl zah rfl) rfl rfl rfl ?_;refine XK.gf (t:=9) rfl rfl (fun _ he=>zl rfl rfl he zE za4) ybJ rfl rfl rfl ?_;refine XK.ga (fun _=>zb7 (zj3 b.h) rfl fn_87 ye rfl) rfl rfl rfl ?_;refine XK.ga (fun _=>zb7 (zcR b.h.work (zcF b.h)) rfl zjI yf rfl) rfl rfl rfl ?_;refine xw ?_;refine xx ?_;refine xq ?_;refine XK.e (fun fr' hfr kk H=>by exact zP zf7 rfl rfl rfl rfl (zp H)) ?_;refine XK.e (x:=.idk) (fun fr' hfr kk H=>by exact zg rfl rfl rfl ((hfr 3 yc).trans rfl) rfl (Lens.self _) zV ((hfr 13 yc).trans rfl) (zp H)) ?_;refine X0 aV ?_;refine XK.nilp ⟨ybH,ybH,trivial⟩ ?_;refine qbs ?_;exact zq rfl rfl rfl rfl zV (rfl)
theorem zm9 (s:Store) (hs:SmS s):Tells P 22 [.val zar s] (.val (sl i64T) (zd6 s)):=by
 have hsn:=hs.2.1;refine zc Tryz.func22 rfl rfl rfl (fun ext w hext=>?_);refine qbO ?_;refine CNQR ?_;refine qaN ?_;refine A0 (oCl (zlo s hs) rfl fn_23 ye) ?_;refine qaj ?_;refine A0 aL ?_;refine qa2 ?_;refine zcw (T:=i64T) (d:=4) 3 rfl ?_;refine zfx (d:=4) rfl rfl ?_;refine Lp (ι:=Nat) 1 (fun (i:Nat)=>((((Fr.none).set 1 (.ptr 0 0)).set 3 (.val zu (mayS s))).set 4 (.val (sl i64T) (docI s i))).set 5 (.val i64T (i:Int))) (fun (i:Nat)=>(Hp.none).set 0 (.box 25 zar s)) (fun (i:Nat)=>i≤s.b.length∧(mayS s=true∨i=0)) (fun (i:Nat)=>s.b.length-i) (0) (⟨uf _,.inr rfl⟩) ?_;intro i hinv;refine qaK ?_;refine qa8 ?_;refine qbf ?_;refine A0 zbK ?_;refine qa9 ?_;refine Sp (d:=16) (p:=i<s.b.length) (fun g16=>?_) (fun g16=>?_)
 ·
  refine A1 mV ?_;refine qar ?_;refine zk (p:=mayS s=true) rfl (by cases mayS s<;>rfl) (fun ht18=>?_) (fun ht18=>?_)
  ·
   have hdl:=doc_len (s:=s) (n:=i);have hdi:=docI_len (s:=s) (n:=i);refine CSQBQR ?_;refine qaN ?_;refine qa9 ?_;refine A0 (oCl (rtip13_ok s i hs) rfl fn_50 yf) ?_;refine qah ?_;refine qaQ ?_;refine zk (p:=¬tipB s i=true) rfl (by cases tipB s i<;>rfl) (fun ht25=>?_) (fun ht25=>?_)
   ·
    refine CE ?_;refine CR ?_;refine qak ?_;refine zi (d:=4) (y:=docI s (i+1)) rfl (docI_no ht25).symm ?_;exact Nx (i+1) (⟨by omega,.inl ht18⟩) ya
   refine CSQR ?_;refine qaJ ?_;refine CB ?_;refine Lp (ι:=Nat) 1 (fun (n:Nat)=>(((((Fr.none).set 1 (.ptr 0 0)).set 3 (.val zu (mayS s))).set 4 (.val (sl i64T) (docI s i))).set 5 (.val i64T (i:Int))).set 7 (.val i64T (n:Int))) (fun (n:Nat)=>(Hp.none).set 0 (.box 25 zar s)) (fun (n:Nat)=>n≤(zby s i).length∧∀q j,q<n→(zby s i)[q]?=some j→0≤cmpW (zbJ s j) (zbJ s i)) (fun (n:Nat)=>(zby s i).length-n) (0) (⟨uf _,fun q j hq _=>by omega⟩) ?_;intro n hin;refine CQ ?_;refine qaH ?_;refine qbk ?_;refine G0 (zaZ rfl rfl zkb) ?_;refine G0 zbK ?_;refine G0 mV ?_;refine zaq (d:=30) (p:=n<(docI s i).length) rfl yr (fun g30=>?_) (fun g30=>?_)
   ·
    obtain⟨j,hj⟩:∃j,(zby s i)[n]?=some j:=yq;have hoj:=docI_at hj;have hji:=doc_lt (ud hj);have hbj:=znH (s:=s) (i:=j) ya;have hbi:=znH (s:=s) (i:=i) ya;refine qcF ?_;refine G1 mV ?_;refine G1 mV ?_;refine G1 (zD (i:=n) rfl rfl rfl ya zcJ yj) ?_;refine G1 (zh rfl rfl ty_3) ?_;refine G1 (zD (i:=j) rfl rfl rfl ya zbS yj) ?_;refine G1 (zh rfl rfl zbg) ?_;refine G1 (oCl (zm3 (blkS s j)) rfl fn_52 ybD) ?_;refine qcF ?_;refine G1 mV ?_;refine G1 (zD (i:=i) rfl rfl rfl ya zbS yj) ?_;refine G1 (zh rfl rfl zbg) ?_;refine G1 (oCl (zm3 (blkS s i)) rfl fn_52 ybD) ?_;refine G1 (oCl (ziI (zbJ s j) (zbJ s i)) rfl fn_51 yf) ?_;refine G1 zec ?_;refine qbV ?_;refine Cf (p:=0≤cmpW (zbJ s j) (zbJ s i)) (fun ht48=>?_) (fun ht48=>?_)
    ·
     refine CS ?_;refine CB ?_;refine CR ?_;refine qak ?_;refine CI ?_;exact Nx (n+1) (⟨by omega,fun q k hq hk=>by by_cases e:q=n;rw[e,hj] at hk;injection hk with hk;rw[←hk];exact ht48;exact hin.2 q k ya hk⟩) ya
    refine qbQ ?_;refine qai ?_;refine A0 yaP ?_;refine qcQ ?_;refine qbd ?_;refine qai ?_;refine A0 (ziT rfl rfl rfl zcJ yd) ?_;refine zo rfl rfl rfl rfl rfl rfl rfl zfm yE ?_;refine A0 aO ?_;refine CNR ?_;refine A0 mO ?_;refine A0 aO ?_;refine qb3 ?_;have hnew:(docI s i).take n++[(i:Int)]++(docI s i).drop n=docI s (i+1):=zsM (ua ht25) hin.1 hin.2 (fun k hk=>by rw[hj] at hk;injection hk with hk;rw[←hk];exact ht48);refine zB (n:=3) (y:=docI s (i+1)) rfl hnew ?_;refine zfx (d:=4) rfl rfl ?_;exact Nx (i+1) (⟨by omega,.inl ht18⟩) ya
   refine qaa ?_;refine qaa ?_;refine G2 ?_;refine qbV ?_;refine Cg ?_;refine qbQ ?_;refine qai ?_;refine A0 yaP ?_;refine qcQ ?_;refine qbd ?_;refine qai ?_;refine A0 (ziT rfl rfl rfl zcJ yd) ?_;refine zo rfl rfl rfl rfl rfl rfl rfl zfm yE ?_;refine A0 aO ?_;refine CNR ?_;refine A0 mO ?_;refine A0 aO ?_;refine qb3 ?_;have hnew:(docI s i).take n++[(i:Int)]++(docI s i).drop n=docI s (i+1):=zsM (ua ht25) hin.1 hin.2 (fun k hk=>by rw[List.getElem?_eq_none ya] at hk;cases hk);refine zB (n:=3) (y:=docI s (i+1)) rfl hnew ?_;refine zfx (d:=4) rfl rfl ?_;exact Nx (i+1) (⟨by omega,.inl ht18⟩) ya
  refine CE ?_;refine qcg ?_;exact za rfl rfl (zb rfl (doc_out (.inr ⟨ht18,hinv.2.resolve_left ht18⟩)))
 refine qaZ ?_;refine Cg ?_;refine CE ?_;refine qcg ?_;exact za rfl rfl (zb rfl (doc_out (by by_cases c:mayS s=true;exact .inl ⟨c,by omega⟩;exact .inr ⟨c,hinv.2.resolve_left c⟩)))
theorem rbest13_ok (s:Store) (hs:SmS s):Tells P 27 [.val zar s] (.val i64T (zmM s)):=by
 refine zc Tryz.func27 rfl rfl rfl (fun ext w hext=>?_);refine qaf ?_;refine qaj ?_;refine qaN ?_;refine A0 (oCl (zm9 s hs) rfl fn_22 ye) ?_;refine qah ?_;refine qcA ?_;refine qcC ?_;refine Cf (p:=(zd6 s).length=0) (fun ht8=>?_) (fun ht8=>?_)
 ·
  refine qaq ?_;exact za rfl rfl (zb rfl (by unfold zmM;rw[List.eq_nil_of_length_eq_zero ht8]))
 obtain⟨x,hx⟩:∃x,(zd6 s)[0]?=some x:=yq;refine qbL ?_;refine A0 (zD (i:=0) rfl rfl rfl ya zcJ yj) ?_;refine qbB ?_;refine A0 aX ?_;refine CN ?_;exact za rfl rfl (zb rfl yaV)
theorem zjs (a b:Store):Tells P 16 [.val zar a,.val zar b] (.val zu (decide (a=b))):=by
 refine zc Tryz.func16 rfl rfl rfl (fun ext w hext=>?_);refine qaw ?_;refine qaj ?_;refine qa8 ?_;refine qa8 ?_;refine A0 (oCl (zpo a.b b.b) rfl fn_17 yf) ?_;refine qaj ?_;refine qaX ?_;refine qaX ?_;refine A0 (oCl (znd a.par b.par) rfl fn_20 yf) ?_;refine qbW ?_;refine Sp (d:=18) (p:=a.b=b.b) (fun g18=>?_) (fun g18=>?_)
 ·
  refine A1 mV ?_;refine qbi ?_;exact za rfl rfl (zb rfl (y4))
 refine A2 ?_;refine qbi ?_;exact za rfl rfl (zb rfl ((by symm;apply uh;intro h;exact g18 (by rw[h]))))
theorem rnew13_ok (bits:UInt32):Tells P 15 [.val u32T bits] (.tup2 (.val zar (if zay bits=true then ⟨zkt bits,[-1]⟩ else zjX)) (.val zu (zay bits))):=by
 refine zc Tryz.func15 rfl rfl rfl (fun ext w hext=>?_);refine CQR ?_;refine qcv ?_;refine qaS ?_;refine A0 (oCl (rnewC_ok bits) rfl fn_43 ye) ?_;refine qcz ?_;refine zk (p:=¬zay bits=true) rfl ya7 (fun ht12=>?_) (fun ht12=>?_)
 ·
  refine CQR ?_;refine A0 (z7 rfl zo2 bd_25 .nil rfl) ?_;refine qaA ?_;refine qad ?_;exact zx rfl rfl (zC rfl rfl zbu (by rw[ur ht12])) (zX (zb rfl (by cases h:zay bits<;>simp_all)))
 refine qbL ?_;refine A0 (zW (T:=i64T) (xs:=[_]) rfl zcJ zfm yz rfl rfl) ?_;refine xQ ?_;refine qaA ?_;refine qad ?_;exact zx rfl rfl (zC rfl rfl zbu (by rw[ut (ua ht12)])) (zX (zb rfl ((ua ht12).symm)))
theorem rput13_ok (s:Store) (b:Block) (hs:SmS s) (hb:zd8 b):Tells P 13 [.val zar s,.val zt b] (.tup2 (.val zar (putS s b)) (.val i64T (putE s b))):=by
 have hsb:=hs.1.1;have hsn:=hs.2.1;have hsp:=hs.2.2;have hf1:-1≤zY s.b (zR b.h):=zgZ _ _;have hf2:-1≤zY s.b b.h.prev:=zgZ _ _;refine zc Tryz.func13 rfl rfl rfl (fun ext w hext=>?_);refine qaw ?_;refine qcv ?_;refine qaj ?_;refine qaN ?_;refine A0 (oCl (zlo s hs) rfl fn_23 ye) ?_;refine qah ?_;refine qaQ ?_;refine zk (p:=¬mayS s=true) rfl (by cases mayS s<;>rfl) (fun ht16=>?_) (fun ht16=>?_)
 ·
  refine CQR ?_;refine qcO ?_;exact zx rfl rfl (zC rfl rfl zbu (by rw[zhP (by rw[putE1 ht16];decide)])) (zX (zb rfl (by rw[putE1 ht16])))
 refine CS ?_;refine CQ ?_;refine qaH ?_;refine G0 (oFp zcM) ?_;refine G0 (oLb zen zh0) ?_;refine G0 (oFp zah) ?_;refine G0 (oLb zE za4) ?_;refine G0 (oCl (zdq b.h) rfl zpY ye) ?_;refine G0 (oCl (ziG s.b (zR b.h)) rfl fn_39 yf) ?_;refine G0 zec ?_;refine GK.nil ?_;refine Cf (p:=0≤zY s.b (zR b.h)) (fun ht24=>?_) (fun ht24=>?_)
 ·
  refine CQR ?_;refine qcO ?_;exact zx rfl rfl (zC rfl rfl zbu (by rw[zhP (by rw[zrY ht16 ya];decide)])) (zX (zb rfl (by rw[zrY ht16 ya])))
 have h22:¬¬zY s.b (zR b.h) = -1:=fun h=>h ya
 refine CSQR ?_;refine qa8 ?_;refine A0 (oFp zah) ?_;refine A0 (oFp zet) ?_;refine A0 (oLb (zE.comp zbz) zT) ?_;refine A0 (oCl (ziG s.b b.h.prev) rfl fn_39 yf) ?_;refine qah ?_;refine qa1 ?_;refine Cf (p:=zY s.b b.h.prev = -1) (fun ht33=>?_) (fun ht33=>?_)
 ·
  refine CQR ?_;refine qcO ?_;exact zx rfl rfl (zC rfl rfl zbu (by rw[zhP (by rw[putE9 ht16 h22 ht33];decide)])) (zX (zb rfl (by rw[putE9 ht16 h22 ht33])))
 refine CSQQR ?_;refine qa8 ?_;refine qbf ?_;refine qcC ?_;refine Cf (p:=s.b.length=40) (fun ht38=>?_) (fun ht38=>?_)
 ·
  refine CQR ?_;refine qcO ?_;exact zx rfl rfl (zC rfl rfl zbu (by rw[zhP (by rw[zrX ht16 h22 ht33 ht38];decide)])) (zX (zb rfl (by rw[zrX ht16 h22 ht33 ht38])))
 have hcs:=zpv hs hb ht16 ht33;have hcl:=hcs.2;refine CS ?_;refine CQ ?_;refine zn [some 1,some 1,none,some 2,some 2,none,some 1] mixed yc ?_;refine X0 (oLs rfl rfl rfl zbu) ?_;refine X0 mV ?_;refine XK.e (fun fr' hfr kk H=>by exact zam (zgi s (zY s.b b.h.prev) hs) rfl fn_19 ⟨(zd ((hfr 40 yc).trans rfl)),(zd ((hfr 41 yc).trans rfl)),trivial⟩ rfl rfl rfl (zp H)) ?_;refine XK.gb (t:=3) rfl rfl (fun _ he=>zl rfl rfl he (Lens.self _) zbg) rfl ybH rfl rfl rfl ?_;refine XK.g2 (zW (T:=zt) (xs:=[_]) rfl zbS zdC yz rfl rfl) (zW (T:=zt) (xs:=[_]) rfl zbS zdC yz rfl rfl) rfl rfl rfl ?_;refine XK.e (fun fr' hfr kk H=>by exact zo rfl rfl rfl rfl ((hfr 42 yc).trans rfl) rfl ((hfr 44 yc).trans rfl) zdC yE (zp H)) ?_;refine X0 aO ?_;refine xc ?_;refine CQR ?_;refine A0 mO ?_;refine A0 (oCl (zlr (zcN s (zY s.b b.h.prev)++[b]) hcs.1) rfl fn_41 ⟨(zG rfl rfl),trivial⟩) ?_;refine qbE ?_;refine qah ?_;refine qaT ?_;refine zk (p:=¬(zQ (zcN s (zY s.b b.h.prev)++[b])).2=0) rfl yF (fun ht52=>?_) (fun ht52=>?_)
 ·
  refine CQR ?_;refine qaN ?_;refine qa9 ?_;refine qaA ?_;refine qad ?_;exact zx rfl rfl (zC rfl rfl zbu (by rw[zhP (by rw[zpx ht16 h22 ht33 ht38];exact ht52)])) (zX (zb rfl (by rw[zpx ht16 h22 ht33 ht38])))
 refine CSQR ?_;refine qa8 ?_;refine zcA rfl rfl rfl rfl rfl rfl zdC yE ?_;refine qbd ?_;refine qc4 ?_;refine qbv ?_;refine zo rfl rfl rfl rfl rfl rfl rfl zdC yE ?_;refine zfx (d:=61) rfl rfl ?_;refine qaj ?_;refine qaX ?_;refine qcQ ?_;refine zfx (d:=68) rfl rfl ?_;refine qbW ?_;refine xQ ?_;refine qaA ?_;refine qad ?_;exact zx rfl rfl (zC rfl rfl zbu (by unfold putS;rw[ut (by rw[zpx ht16 h22 ht33 ht38];exact ua ht52)])) (zX (zb rfl (by rw[zpx ht16 h22 ht33 ht38];exact(ua ht52).symm)))
theorem zoY (s t:Store) (b:Block) (i:Int) (bits:UInt32):Tells P 3 [.val zar s,.val zar t,.val zt b,.val i64T i,.val u32T bits] (.val zu true):=by
 refine zc Tryz.func3 rfl rfl rfl (fun ext w hext=>?_);refine ze (d:=3) rfl zab (fun hin3=>?_);refine qaw ?_;refine zmu rfl rfl rfl rfl rfl ?_;refine qaj ?_;refine A0 (oCl (awake13_ok) rfl fn_9 trivial) ?_;refine qaj ?_;refine qaN ?_;refine A0 (oCl (fewS_ok s) rfl fn_10 ye) ?_;refine qaj ?_;refine qaN ?_;refine A0 (oCl (fewS_ok t) rfl fn_10 ye) ?_;refine qaj ?_;refine qc4 ?_;refine qbv ?_;refine A0 (oCl (fewC_ok [b]) rfl fn_11 ye) ?_;refine qah ?_;refine A0 oN ?_;refine qa9 ?_;refine zgG (d:=39) rfl (rfl) ?_;refine A1 mV ?_;refine A1 oN ?_;refine qat ?_;refine zad (d:=43) (p:=¬fewS s=true) rfl (by cases fewS s<;>rfl) (fun g43=>?_) (fun g43=>?_)
 ·
  refine qcI ?_;refine qat ?_;refine qc1 ?_;refine Ct ?_;refine qcg ?_;exact za rfl rfl (zb rfl rfl)
 refine A1 mV ?_;refine A1 oN ?_;refine qat ?_;refine zad (d:=47) (p:=¬fewS t=true) rfl (by cases fewS t<;>rfl) (fun g47=>?_) (fun g47=>?_)
 ·
  refine qc1 ?_;refine Ct ?_;refine qcg ?_;exact za rfl rfl (zb rfl rfl)
 refine A1 mV ?_;refine A1 oN ?_;refine qar ?_;refine zk (p:=¬fewC [b]=true) rfl (by cases fewC [b]<;>rfl) (fun ht50=>?_) (fun ht50=>?_)
 ·
  refine qcg ?_;exact za rfl rfl (zb rfl rfl)
 have hs:=few_smS g43;have hb:=few_one ht50;refine CSQR ?_;refine qaN ?_;refine qc4 ?_;refine A0 (oCl (zn0 s b hs hb) rfl fn_12 yf) ?_;refine qaM ?_;refine qcv ?_;refine qaA ?_;refine qaj ?_;refine qaN ?_;refine qc4 ?_;refine A0 (oCl (rput13_ok s b hs hb) rfl fn_13 yf) ?_;refine qaM ?_;refine qcv ?_;refine qaA ?_;refine qaS ?_;refine A0 (oCl (zr9 bits) rfl fn_14 ye) ?_;refine qaM ?_;refine qcv ?_;refine qaA ?_;refine qaS ?_;refine A0 (oCl (rnew13_ok bits) rfl fn_15 ye) ?_;refine qaM ?_;refine qcv ?_;refine qaA ?_;refine qaj ?_;refine qaN ?_;refine qaN ?_;refine A0 (oCl (zjs (putS s b) (putS s b)) rfl fn_16 yf) ?_;refine qaj ?_;refine qaN ?_;refine qaN ?_;refine A0 (oCl (zjs (if zay bits=true then ⟨zkt bits,[-1]⟩ else zjX) (if zay bits=true then ⟨zkt bits,[-1]⟩ else zjX)) rfl fn_16 yf) ?_;refine qb5 ?_;refine G0 (oLs rfl rfl rfl zbu) ?_;refine G0 mV ?_;refine G0 (oCl (zF (zf3 s i hs)) rfl fn_18 yf) ?_;refine G0 (oLs rfl rfl rfl zbu) ?_;refine G0 mV ?_;refine G0 (oCl (zF (zgi s i hs)) rfl fn_19 yf) ?_;refine G0 (oCl (zpo (zcN s i) (zcN s i)) rfl fn_17 yf) ?_;refine qa6 ?_;refine qaH ?_;refine G0 (oLs rfl rfl rfl zbu) ?_;refine G0 (oCl (zF (zk7 s hs)) rfl fn_21 ye) ?_;refine G0 (oLs rfl rfl rfl zbu) ?_;refine G0 (oCl (zm9 s hs) rfl fn_22 ye) ?_;refine G0 (oCl (znd (zd6 s) (zd6 s)) rfl fn_20 yf) ?_;refine qa6 ?_;refine CQR ?_;refine qaN ?_;refine A0 (oCl (zlo s hs) rfl fn_23 ye) ?_;refine qaj ?_;refine qaN ?_;refine qaN ?_;refine A0 (oCl (zjs s t) rfl fn_16 yf) ?_;refine qb5 ?_;refine qbk ?_;refine zkl (d:=98) rfl yx ?_;refine G1 mV ?_;refine G1 mV ?_;refine G1 zct ?_;refine G0 oK ?_;refine G0 mV ?_;refine zkl (d:=103) rfl yx ?_;refine G1 mV ?_;refine G0 oK ?_;refine G0 mV ?_;refine zkl (d:=106) rfl yx ?_;refine G1 mV ?_;refine G1 mV ?_;refine G1 (g_eqlB rfl rfl rfl ub_4) ?_;refine G0 oK ?_;refine G0 mV ?_;refine zkl (d:=111) rfl yx ?_;refine G1 mV ?_;refine G0 oK ?_;refine G0 mV ?_;refine zkl (d:=114) rfl yx ?_;refine G1 mV ?_;refine G0 oK ?_;refine G0 mV ?_;refine zkl (d:=117) rfl yx ?_;refine G1 (oLs rfl rfl rfl zbu) ?_;refine G1 (oCl (zkK s hs) rfl fn_24 ye) ?_;refine G1 mV ?_;refine G1 (g_eqlB rfl rfl rfl ub_4) ?_;refine G0 oK ?_;refine G0 mV ?_;refine zkl (d:=123) rfl yx ?_;refine G1 (oLs rfl rfl rfl zbu) ?_;refine G1 (oLs rfl rfl rfl zbu) ?_;refine G1 (oCl (zpj s t) rfl fn_25 yf) ?_;refine G1 mV ?_;refine G1 (g_eqlB rfl rfl rfl ub_4) ?_;refine G0 oK ?_;refine G0 mV ?_;refine zkl (d:=130) rfl yx ?_;refine G1 (oLs rfl rfl rfl zbu) ?_;refine G1 (oCl (zmn s hs) rfl fn_26 ye) ?_;refine G1 (oLs rfl rfl rfl zbu) ?_;refine G1 (oCl (rbest13_ok s hs) rfl fn_27 ye) ?_;refine G1 zct ?_;refine G0 oK ?_;refine qa6 ?_;exact za rfl rfl (zb rfl yx)
end Go.Proofs.YtgoebfjaaklopaaGreat
