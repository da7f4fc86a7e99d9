/- Parts of the proof: the layer that reads Go values as data, and what the functions of the program tell. -/
import Derived.Test.YtjjlfapfjjkomaaGreatK5
set_option linter.unusedVariables false
set_option linter.unusedSimpArgs false
set_option maxRecDepth 20000
namespace Go.Proofs.YtjjlfapfjjkomaaGreat
open Go.Ab Go.RowKit
theorem znO (l m:List Ab.Id):Tells P 99 [.val (bsl idT) l,.val (bsl idT) m] (.val zs (decide (l=m))):=by
 refine zc Tryz.func99 rfl rfl rfl (fun ext w hext=>?_);refine ze (d:=0) rfl zi (fun hsl0=>?_);refine ze (d:=1) rfl zi (fun hsl1=>?_);refine CQR ?_;refine qaj ?_;refine qb3 ?_;refine qau ?_;refine qb3 ?_;refine qaO ?_;refine zq (p:=¬l.length=m.length) rfl y9 (fun ht10=>?_) (fun ht10=>?_)
 ·
  refine qay ?_;exact zd rfl rfl (za rfl (uh (fun e=>ht10 ybE)).symm)
 refine CSQQR ?_;refine qbQ ?_;refine Lp (ι:=Nat) 0 (fun (k:Nat)=>(((Fr.none).set 0 (.val (bsl idT) l)).set 1 (.val (bsl idT) m)).set 5 (.val i64T (k:Int))) (fun (k:Nat)=>Hp.none) (fun (k:Nat)=>k≤l.length∧l.take k=m.take k) (fun (k:Nat)=>l.length-k) (0) (⟨uf _,rfl⟩) ?_;intro k hinv;refine qaW ?_;refine qb3 ?_;refine qav ?_;refine Cf (p:=k<l.length) (fun ht14=>?_) (fun ht14=>?_)
 ·
  obtain⟨x,hx⟩:∃x,l[k]?=some x:=⟨_,ub ht14⟩;obtain⟨y,hy⟩:∃y,m[k]?=some y:=yq;refine qdi ?_;refine qbv ?_;refine G0 (zr (i:=k) rfl rfl rfl ya zek yh) ?_;refine G0 (zh rfl rfl zab) ?_;refine qbv ?_;refine G0 (zr (i:=k) rfl rfl rfl ya zek yh) ?_;refine G0 (zh rfl rfl zab) ?_;refine G0 (zgg rfl rfl rfl (zjH)) ?_;refine GK.nil ?_;refine zq (p:=¬x=y) rfl yw (fun ht25=>?_) (fun ht25=>?_)
  ·
   refine qay ?_;exact zd rfl rfl (za rfl (uh (zes hx hy ht25)).symm)
  refine qbN ?_;exact Nx (k+1) (⟨by omega,zb3 hx hy hinv.2 (ua ht25)⟩) ya
 refine qcT ?_;exact zd rfl rfl (za rfl (ui yR).symm)
theorem refTx_ok (a b:Tx):Tells P 249 [.val txT a,.val txT b] (.val zs (decide (a=b))):=by
 refine zc Tryz.func249 rfl rfl rfl (fun ext w hext=>?_);refine ze (d:=0) rfl zm1 (fun htl=>?_);refine qa3 ?_;refine qc8 ?_;refine qa9 ?_;refine qa9 ?_;refine A0 zgB ?_;refine zX (d:=13) (p:=¬a.ins.length=b.ins.length) rfl y9 (fun g13=>?_) (fun g13=>?_)
 ·
  refine qau ?_;refine qbc ?_;refine A2 ?_;refine qao ?_;refine Ct ?_;refine qay ?_;exact zd rfl rfl (za rfl (uh (fun e=>g13 ybE)).symm)
 refine qau ?_;refine qbo ?_;refine qbo ?_;refine A1 zgB ?_;refine qao ?_;refine zq (p:=¬a.outs.length=b.outs.length) rfl y9 (fun ht22=>?_) (fun ht22=>?_)
 ·
  refine qay ?_;exact zd rfl rfl (za rfl (uh (fun e=>ht22 ybE)).symm)
 refine CSQQR ?_;refine qbQ ?_;refine Lp (ι:=Nat) 2 (fun (k:Nat)=>(((Fr.none).set 2 (.ptr 0 0)).set 3 (.ptr 1 0)).set 5 (.val i64T (k:Int))) (fun (k:Nat)=>((Hp.none).set 0 (.box 133 txT a)).set 1 (.box 133 txT b)) (fun (k:Nat)=>k≤a.ins.length∧a.ins.take k=b.ins.take k) (fun (k:Nat)=>a.ins.length-k) (0) (⟨uf _,rfl⟩) ?_;intro k hinv;refine qaF ?_;refine qa9 ?_;refine qav ?_;refine Cf (p:=k<a.ins.length) (fun ht27=>?_) (fun ht27=>?_)
 ·
  obtain⟨x,hx⟩:∃x,a.ins[k]?=some x:=⟨_,ub ht27⟩;obtain⟨y,hy⟩:∃y,b.ins[k]?=some y:=yq;refine qdi ?_;refine G0 (oFp zcy) ?_;refine G0 (oLb zcS zfz) ?_;refine G0 mV ?_;refine G0 (zr (i:=k) rfl rfl rfl ya ze5 yh) ?_;refine G0 (zh rfl rfl zcc) ?_;refine G0 (oFp zcy) ?_;refine G0 (oLb zcS zfz) ?_;refine G0 mV ?_;refine G0 (zr (i:=k) rfl rfl rfl ya ze5 yh) ?_;refine G0 (zh rfl rfl zcc) ?_;refine G0 (zgg rfl rfl rfl (zoA)) ?_;refine GK.nil ?_;refine zq (p:=¬x=y) rfl yw (fun ht40=>?_) (fun ht40=>?_)
  ·
   refine qay ?_;exact zd rfl rfl (za rfl (uh (fun e=>zes hx hy ht40 ybE)).symm)
  refine qbN ?_;exact Nx (k+1) (⟨by omega,zb3 hx hy hinv.2 (ua ht40)⟩) ya
 have hins:a.ins=b.ins:=by have h:=hinv.2;rw[uc ya,uc ya] at h;exact h
 refine CE ?_;refine CQQR ?_;refine qbQ ?_;refine Lp (ι:=Nat) 2 (fun (k:Nat)=>(((Fr.none).set 2 (.ptr 0 0)).set 3 (.ptr 1 0)).set 6 (.val i64T (k:Int))) (fun (k:Nat)=>((Hp.none).set 0 (.box 133 txT a)).set 1 (.box 133 txT b)) (fun (k:Nat)=>k≤a.outs.length∧a.outs.take k=b.outs.take k) (fun (k:Nat)=>a.outs.length-k) (0) (⟨uf _,rfl⟩) ?_;intro k hinv;refine qaF ?_;refine qaU ?_;refine qav ?_;refine Cf (p:=k<a.outs.length) (fun ht45=>?_) (fun ht45=>?_)
 ·
  obtain⟨x,hx⟩:∃x,a.outs[k]?=some x:=⟨_,ub ht45⟩;obtain⟨y,hy⟩:∃y,b.outs[k]?=some y:=yq;refine qdi ?_;refine G0 (oFp zcb) ?_;refine G0 (oLb zbJ zeO) ?_;refine G0 mV ?_;refine G0 (zr (i:=k) rfl rfl rfl ya zf7 yh) ?_;refine G0 (zh rfl rfl zf3) ?_;refine G0 (oFp zcb) ?_;refine G0 (oLb zbJ zeO) ?_;refine G0 mV ?_;refine G0 (zr (i:=k) rfl rfl rfl ya zf7 yh) ?_;refine G0 (zh rfl rfl zf3) ?_;refine G0 (zgg rfl rfl rfl (eqt_221)) ?_;refine GK.nil ?_;refine zq (p:=¬x=y) rfl yw (fun ht58=>?_) (fun ht58=>?_)
  ·
   refine qay ?_;exact zd rfl rfl (za rfl (uh (fun e=>zes hx hy ht58 ybE)).symm)
  refine qbN ?_;exact Nx (k+1) (⟨by omega,zb3 hx hy hinv.2 (ua ht58)⟩) ya
 refine qcT ?_;exact zd rfl rfl (za rfl (ui (by have h:=hinv.2;rw[uc ya,uc ya] at h;cases a;cases b;simp_all)).symm)
theorem refTxs_ok (l m:List Tx):Tells P 189 [.val (bsl txT) l,.val (bsl txT) m] (.val zs (decide (l=m))):=by
 refine zc Tryz.func189 rfl rfl rfl (fun ext w hext=>?_);refine ze (d:=0) rfl zi (fun hsl0=>?_);refine ze (d:=1) rfl zi (fun hsl1=>?_);refine CQR ?_;refine qaj ?_;refine qbZ ?_;refine qau ?_;refine qbZ ?_;refine qaO ?_;refine zq (p:=¬l.length=m.length) rfl y9 (fun ht11=>?_) (fun ht11=>?_)
 ·
  refine qay ?_;exact zd rfl rfl (za rfl (uh (fun e=>ht11 ybE)).symm)
 refine CSQQR ?_;refine qbQ ?_;refine Lp (ι:=Nat) 0 (fun (k:Nat)=>(((Fr.none).set 0 (.val (bsl txT) l)).set 1 (.val (bsl txT) m)).set 5 (.val i64T (k:Int))) (fun (k:Nat)=>Hp.none) (fun (k:Nat)=>k≤l.length∧l.take k=m.take k) (fun (k:Nat)=>l.length-k) (0) (⟨uf _,rfl⟩) ?_;intro k hinv;refine qaW ?_;refine qbZ ?_;refine qav ?_;refine Cf (p:=k<l.length) (fun ht15=>?_) (fun ht15=>?_)
 ·
  obtain⟨x,hx⟩:∃x,l[k]?=some x:=⟨_,ub ht15⟩;obtain⟨y,hy⟩:∃y,m[k]?=some y:=yq;refine qdi ?_;refine qbv ?_;refine G0 (zr (i:=k) rfl rfl rfl ya zkq yh) ?_;refine G0 (zh rfl rfl zfy) ?_;refine qbv ?_;refine G0 (zr (i:=k) rfl rfl rfl ya zkq yh) ?_;refine G0 (zh rfl rfl zfy) ?_;refine G0 (oCl (refTx_ok _ _) rfl fn_249 ⟨yb,yb,trivial⟩) ?_;refine qaV ?_;refine qa7 ?_;refine qaJ ?_;refine zq (p:=¬x=y) rfl yw (fun ht28=>?_) (fun ht28=>?_)
  ·
   refine qay ?_;exact zd rfl rfl (za rfl (uh (zes hx hy ht28)).symm)
  refine qbN ?_;exact Nx (k+1) (⟨by omega,zb3 hx hy hinv.2 (ua ht28)⟩) ya
 refine qcT ?_;exact zd rfl rfl (za rfl (ui yR).symm)
theorem refB_ok (a b:Block):Tells P 129 [.val zU a,.val zU b] (.val zs (decide (a=b))):=by
 refine zc Tryz.func129 rfl rfl rfl (fun ext w hext=>?_);refine qa3 ?_;refine qah ?_;refine A0 (oFp zcO) ?_;refine A0 (oLb zbv zcG) ?_;refine A0 (oFp zcO) ?_;refine A0 (oLb zbv zcG) ?_;refine A0 (oCl (znO _ _) rfl fn_99 ye) ?_;refine qah ?_;refine qda ?_;refine qda ?_;refine A0 (oCl (refTxs_ok _ _) rfl fn_189 ye) ?_;refine qaA ?_;refine Sp (d:=17) (p:=a.l=b.l) (fun g17=>?_) (fun g17=>?_)
 ·
  refine qbR ?_;refine A0 oK ?_;refine Sp (d:=20) (p:=a.t=b.t) (fun g20=>?_) (fun g20=>?_)
  ·
   refine qau ?_;refine A1 (oFp zaR) ?_;refine A1 (oLb zY zaM) ?_;refine A1 (oFp zaR) ?_;refine A1 (oLb zY zaM) ?_;refine A1 (zim rfl rfl rfl (zpX)) ?_;refine qaS ?_;exact zd rfl rfl (za rfl yas)
  refine qau ?_;refine qab ?_;refine qbB ?_;refine qaS ?_;exact zd rfl rfl (za rfl (by symm;apply uh;intro h;exact g20 (by rw[h])))
 refine qau ?_;refine A2 ?_;refine qas ?_;refine A2 ?_;refine qaS ?_;exact zd rfl rfl (za rfl (by symm;apply uh;intro h;exact g17 (by rw[h])))
set_option maxRecDepth 20000
theorem half_of {n p:Nat} (h:2≤n) (hp:∃j,p=2^j) (h1:p=1∨p<n) (h2:¬2*p<n):p=halfN n:=by
  obtain⟨j,rfl⟩:=hp;unfold halfN zas;rw[ur ya,Nat.add_sub_cancel];congr 1;symm;refine(Nat.log2_eq_iff ya).2 ⟨by omega,?_⟩;rw[Nat.pow_succ];omega
theorem rhalfN_ok (n:Nat) (h:2≤n) (hn:n<4398046511104):Tells P 293 [.val i64T (n:Int)] (.val i64T (halfN n:Nat)):=by
 refine zc Tryz.func293 rfl rfl rfl (fun ext w hext=>?_);refine ze (d:=0) rfl zu (fun hin0=>?_);refine CQR ?_;refine qah ?_;refine qaY ?_;refine CB ?_;refine Lp (ι:=Nat) 0 (fun (p:Nat)=>((Fr.none).set 0 (.val i64T (n:Int))).set 3 (.val i64T (p:Int))) (fun (p:Nat)=>Hp.none) (fun (p:Nat)=>(∃j,p=2^j)∧1≤p∧(p=1∨p<n)) (fun (p:Nat)=>n-p) (1) (⟨⟨0,rfl⟩,ug _,.inl rfl⟩) ?_;intro p hinv;refine qaF ?_;refine A0 (g_mul rfl rfl rfl (show _=(((2*p:Nat):Int):Int) from(zah ya).trans ya)) ?_;refine qau ?_;refine qav ?_;refine Cf (p:=2*p<n) (fun ht7=>?_) (fun ht7=>?_)
 ·
  refine CS ?_;refine CB ?_;refine CR ?_;refine qau ?_;refine A0 (g_mul rfl rfl rfl (show _=(((2*p:Nat):Int):Int) from(zah ya).trans ya)) ?_;refine qac ?_;refine CI ?_;exact Nx (2*p) (⟨let ⟨j,hj⟩:=hinv.1;⟨j+1,by rw[hj,Nat.pow_succ,Nat.mul_comm]⟩,by omega,.inr ht7⟩) ya
 refine qcu ?_;refine qac ?_;exact zd rfl rfl (za rfl (by rw[half_of h hinv.1 hinv.2.2 ht7]))
theorem zsl (a b:Ab.Id) (ha:a.length=32) (hb:b.length=32):Tells P 322 [.val idT a,.val idT b] (.fresh 5 u8T (zfP a b)):=by
 refine zc Tryz.func322 rfl rfl rfl (fun ext w hext=>?_);refine qa3 ?_;refine A0 aL ?_;refine CNQ ?_;refine zeF (d:=2) rfl rfl (Lens.self _) ?_;refine zeF (d:=3) rfl rfl (Lens.self _) ?_;refine CR ?_;refine zbm (T:=u8T) (xs:=[_]) rfl rfl rfl rfl zb4 zaE yx rfl rfl ?_;refine qbH ?_;refine zo rfl rfl rfl rfl rfl rfl rfl zaE (by simp[ha,hb]) ?_;refine qby ?_;refine qbH ?_;refine zo rfl rfl rfl rfl rfl rfl rfl zaE (by simp[ha,hb]) ?_;refine qbJ ?_;exact zd rfl rfl (zf rfl rfl (by simp[zfP]))
theorem rnode_ok (a b:Ab.Id):Tells P 294 [.val idT a,.val idT b] (.val idT (nodeOf a b)):=by
 refine zc Tryz.func294 rfl rfl rfl (fun ext w hext=>?_);refine ze (d:=0) rfl zid (fun ha=>?_);refine ze (d:=1) rfl zid (fun hb=>?_);refine qa3 ?_;refine qaB ?_;refine CNQR ?_;refine qb4 ?_;refine qb4 ?_;refine A0 (oCl (zC (zsl a b ha hb)) rfl fn_322 ye) ?_;refine A0 (oCl (zmF (zfP a b) (by unfold zfP;simp;omega)) rfl zv5 yc) ?_;refine qaq ?_;exact zF rfl rfl rfl rfl zab (rfl)
theorem zmH (l:List Ab.Id) (hl:l.length<4398046511104):Tells P 242 [.val (bsl idT) l] (.val idT (zfC l)):=by
 refine zc Tryz.func242 rfl rfl rfl (fun ext w hext=>?_);refine ze (d:=0) rfl zi (fun hsl0=>?_);refine CQR ?_;refine qaB ?_;refine qbe ?_;refine qb3 ?_;refine A0 zbZ ?_;refine CN ?_;refine Cf (p:=l.length=0) (fun ht6=>?_) (fun ht6=>?_)
 ·
  refine CQR ?_;refine qa5 ?_;refine A0 (oCl (zmF [2] yn) rfl zv5 yc) ?_;refine qaq ?_;exact zF rfl rfl rfl rfl zab (by rw[zfC,ut ht6])
 refine qbP ?_;refine qb3 ?_;refine A0 zbZ ?_;refine CN ?_;refine Cf (p:=l.length=1) (fun ht11=>?_) (fun ht11=>?_)
 ·
  obtain⟨x,hx⟩:∃x,l[0]?=some x:=yq;refine qa7 ?_;refine A0 (zr (i:=0) rfl rfl rfl ya zek yh) ?_;refine A0 (zh rfl rfl zab) ?_;refine qaq ?_;exact zF rfl rfl rfl rfl zab ybs
 have hp:=zrh l.length;have hh:=zug (n:=l.length) ya;refine qbw ?_;refine qb3 ?_;refine A0 (oCl (rhalfN_ok l.length ya ya) rfl fn_293 yc) ?_;refine qaY ?_;refine xo ?_;refine qbG ?_;refine qcI ?_;refine X0 (oCl (zmH (l.take (halfN l.length)) yy) rfl zv7 yc) ?_;refine qbG ?_;refine X0 (ziT rfl rfl rfl zek yg) ?_;refine X0 (oCl (zmH (l.drop (halfN l.length)) yy) rfl zv7 yc) ?_;refine X0 (oCl (rnode_ok _ _) rfl fn_294 ye) ?_;refine XK.e (x:=.idk) (fun fr' hfr kk H=>by exact zg rfl rfl rfl ((hfr 2 yd).trans rfl) rfl (Lens.self _) zab ((hfr 26 yd).trans rfl) (zM H)) ?_;refine XK.nil' ?_;exact zF rfl rfl rfl rfl zab (by conv=>rhs;rw[zfC,ur ht6,dif_neg ya])
termination_by l.length
decreasing_by
  all_goals (simp;omega)
theorem rtxIds_ok (l:List Tx) (hl:l.length≤4000000000000):Tells P 244 [.val (bsl txT) l] (.fresh 46 idT (l.map idOf)):=by
 refine zc Tryz.func244 rfl rfl rfl (fun ext w hext=>?_);refine ze (d:=0) rfl zi (fun hsl0=>?_);refine qb0 ?_;refine A0 aL ?_;refine qaw ?_;refine zbd (T:=idT) (d:=3) 46 rfl ?_;refine Lp (ι:=Nat) 1 (fun (k:Nat)=>(((Fr.none).set 0 (.val (bsl txT) l)).set 3 (.own 0)).set 4 (.val i64T (k:Int))) (fun (k:Nat)=>(Hp.none).set 0 (.row 46 idT ((l.take k).map idOf))) (fun (k:Nat)=>k≤l.length) (fun (k:Nat)=>l.length-k) (0) (uf _) ?_;intro k hinv;refine qaW ?_;refine qbZ ?_;refine qav ?_;refine Cf (p:=k<l.length) (fun ht8=>?_) (fun ht8=>?_)
 ·
  obtain⟨x,hx⟩:∃x,l[k]?=some x:=⟨_,ub ht8⟩;refine qa8 ?_;refine qbE ?_;refine qad ?_;refine A0 (zr (i:=k) rfl rfl rfl ya zkq yh) ?_;refine A0 (zh rfl rfl zfy) ?_;refine A0 (oCl (zvn _) rfl zv6 ycg) ?_;refine qbf ?_;refine qcH ?_;refine qbx ?_;refine zl (n:=0) (y:=(l.take (k+1)).map idOf) rfl (by rw[un,hx];simp) ?_;exact Nx (k+1) ya ya
 refine qa0 ?_;exact zd rfl rfl (zf rfl rfl yO)
theorem zpw (l:List Tx) (hl:l.length≤4000000000000):Tells P 185 [.val (bsl txT) l] (.val idT (zpj l)):=by
 refine zc Tryz.func185 rfl rfl rfl (fun ext w hext=>?_);refine ze (d:=0) rfl zi (fun hsl0=>?_);refine qbD ?_;refine qau ?_;refine A0 (oCl (zC (rtxIds_ok l hl)) rfl fn_244 yc) ?_;refine A0 (oCl (zmH (l.map idOf) yy) rfl zv7 yc) ?_;refine qaq ?_;exact zF rfl rfl rfl rfl zab (rfl)
theorem fact_idsL {l:List Ab.Id} {ρ:Nat→Value} {B:Nat→Prop} {U N:Nat→Prop} {w:World} {v:Value} (h:(AV.val (bsl idT) l).rel ρ B U N w v):∀x∈l,x.length=32:=fun x hx=>by
  obtain⟨cs,⟨ad,cap,_,_,_,h3⟩,_⟩:=h;obtain⟨_,ds,_,_,hr,_⟩:=h3 (List.ne_nil_of_mem hx);obtain⟨c,hc⟩:=zjm hr x hx;exact hc.1
theorem rleaf_ok (b:List UInt8) (hb:b.length≤1000000):Tells P 295 [.val (bsl u8T) b] (.val idT (zpN b)):=by
 refine zc Tryz.func295 rfl rfl rfl (fun ext w hext=>?_);refine ze (d:=0) rfl zi (fun hsl0=>?_);refine qbD ?_;refine qa5 ?_;refine zfx (S:=bsl u8T) (d:=3) rfl ?_;refine qau ?_;refine qcd ?_;refine A0 (oCl (zvj [[0],b] yy) rfl zv9 yc) ?_;refine qaq ?_;exact zF rfl rfl rfl rfl zab (by unfold zpN;simp)
theorem rleaves_ok (l:List Ab.Id) (hl:l.length≤4000000000000):Tells P 243 [.val (bsl idT) l] (.fresh 46 idT (l.map zfS)):=by
 refine zc Tryz.func243 rfl rfl rfl (fun ext w hext=>?_);refine ze (d:=0) rfl zi (fun hsl0=>?_);refine ze (d:=0) rfl fact_idsL (fun hids=>?_);refine qb0 ?_;refine A0 aL ?_;refine qaw ?_;refine zbd (T:=idT) (d:=3) 46 rfl ?_;refine Lp (ι:=Nat) 1 (fun (k:Nat)=>(((Fr.none).set 0 (.val (bsl idT) l)).set 3 (.own 0)).set 4 (.val i64T (k:Int))) (fun (k:Nat)=>(Hp.none).set 0 (.row 46 idT ((l.take k).map zfS))) (fun (k:Nat)=>k≤l.length) (fun (k:Nat)=>l.length-k) (0) (uf _) ?_;intro k hinv;refine qaW ?_;refine qb3 ?_;refine qav ?_;refine Cf (p:=k<l.length) (fun ht8=>?_) (fun ht8=>?_)
 ·
  obtain⟨x,hx⟩:∃x,l[k]?=some x:=⟨_,ub ht8⟩;have hx32:=hids x (ud hx);refine qa8 ?_;refine qbE ?_;refine qad ?_;refine A0 (zr (i:=k) rfl rfl rfl ya zek yh) ?_;refine qbH ?_;refine A0 (oCl (rleaf_ok x ya) rfl fn_295 yc) ?_;refine qbf ?_;refine qcH ?_;refine qbx ?_;refine zl (n:=0) (y:=(l.take (k+1)).map zfS) rfl (by rw[un,hx];simp[zfS]) ?_;exact Nx (k+1) ya ya
 refine qa0 ?_;exact zd rfl rfl (zf rfl rfl yO)
theorem zl7 (l:List Ab.Id) (hl:l.length≤4000000000000):Tells P 184 [.val (bsl idT) l] (.val idT (zfR l)):=by
 refine zc Tryz.func184 rfl rfl rfl (fun ext w hext=>?_);refine ze (d:=0) rfl zi (fun hsl0=>?_);refine qbD ?_;refine qau ?_;refine A0 (oCl (zC (rleaves_ok l hl)) rfl fn_243 yc) ?_;refine A0 (oCl (zmH (l.map zfS) yy) rfl zv7 yc) ?_;refine qaq ?_;exact zF rfl rfl rfl rfl zab (rfl)
def nW (a:Wide):Nat:=(a.getD 0 0).toNat+18446744073709551616*(a.getD 1 0).toNat+340282366920938463463374607431768211456*(a.getD 2 0).toNat+6277101735386680763835789423207666416102355444464034512896*(a.getD 3 0).toNat
abbrev W256:Nat:=115792089237316195423570985008687907853269984665640564039457584007913129639936
theorem ztJ (a b c:UInt64):(addS a b c).toNat=(a.toNat+b.toNat+c.toNat)%18446744073709551616:=by unfold addS;rw[UInt64.toNat_ofNat']
theorem ztK (a b:UInt64) {c:UInt64} (h:c.toNat≤1):(addC a b c).toNat=(a.toNat+b.toNat+c.toNat)/18446744073709551616:=by
  have ha:a.toNat<18446744073709551616:=a.toNat_lt;have hb:b.toNat<18446744073709551616:=b.toNat_lt;unfold addC;rw[UInt64.toNat_ofNat_of_lt' yV]
theorem ztt (a0 a1 a2 a3 b0 b1 b2 b3:UInt64):zbz addS addC [a0,a1,a2,a3] [b0,b1,b2,b3] 4=([addS a0 b0 0,addS a1 b1 (addC a0 b0 0),addS a2 b2 (addC a1 b1 (addC a0 b0 0)),addS a3 b3 (addC a2 b2 (addC a1 b1 (addC a0 b0 0)))],addC a3 b3 (addC a2 b2 (addC a1 b1 (addC a0 b0 0)))):=rfl
theorem zq3 {a:Wide} (_h:a.length=4):nW a<W256:=by
  have h0:(a.getD 0 0).toNat<18446744073709551616:=UInt64.toNat_lt _;have h1:(a.getD 1 0).toNat<18446744073709551616:=UInt64.toNat_lt _;have h2:(a.getD 2 0).toNat<18446744073709551616:=UInt64.toNat_lt _;have h3:(a.getD 3 0).toNat<18446744073709551616:=UInt64.toNat_lt _;unfold nW W256;omega
theorem zhu {a b:Wide} (ha:a.length=4) (hb:b.length=4) (h:nW a=nW b):a=b:=by
  match a,ha with
  | [a0,a1,a2,a3],_=>match b,hb with
    | [b0,b1,b2,b3],_ =>
      have h0:a0.toNat<18446744073709551616:=a0.toNat_lt;have h1:a1.toNat<18446744073709551616:=a1.toNat_lt;have h2:a2.toNat<18446744073709551616:=a2.toNat_lt;have h3:a3.toNat<18446744073709551616:=a3.toNat_lt;have k0:b0.toNat<18446744073709551616:=b0.toNat_lt;have k1:b1.toNat<18446744073709551616:=b1.toNat_lt;have k2:b2.toNat<18446744073709551616:=b2.toNat_lt;have k3:b3.toNat<18446744073709551616:=b3.toNat_lt;have h:a0.toNat+18446744073709551616*a1.toNat+340282366920938463463374607431768211456*a2.toNat+6277101735386680763835789423207666416102355444464034512896*a3.toNat=b0.toNat+18446744073709551616*b1.toNat+340282366920938463463374607431768211456*b2.toNat+6277101735386680763835789423207666416102355444464034512896*b3.toNat:=h;rw[UInt64.toNat_inj.1 (show a0.toNat=b0.toNat by omega),UInt64.toNat_inj.1 (show a1.toNat=b1.toNat by omega),UInt64.toNat_inj.1 (show a2.toNat=b2.toNat by omega),UInt64.toNat_inj.1 (show a3.toNat=b3.toNat by omega)]
theorem za6 {a b:Wide} (ha:a.length=4) (hb:b.length=4):(addW a b).length=4:=by
  match a,ha with
  | [a0,a1,a2,a3],_=>match b,hb with
    | [b0,b1,b2,b3],_=>unfold addW;rw[ztt];rfl
theorem zt9 {a b:Wide} (ha:a.length=4) (hb:b.length=4):nW (addW a b)=(nW a+nW b)%W256∧(zhG a b=true↔nW a+nW b<W256):=by
  match a,ha with
  | [a0,a1,a2,a3],_=>match b,hb with
    | [b0,b1,b2,b3],_ =>
      have h0:a0.toNat<18446744073709551616:=a0.toNat_lt;have h1:a1.toNat<18446744073709551616:=a1.toNat_lt;have h2:a2.toNat<18446744073709551616:=a2.toNat_lt;have h3:a3.toNat<18446744073709551616:=a3.toNat_lt;have k0:b0.toNat<18446744073709551616:=b0.toNat_lt;have k1:b1.toNat<18446744073709551616:=b1.toNat_lt;have k2:b2.toNat<18446744073709551616:=b2.toNat_lt;have k3:b3.toNat<18446744073709551616:=b3.toNat_lt;have z:(0:UInt64).toNat≤1:=yn;have z0:(0:UInt64).toNat=0:=rfl;have c1:=ztK a0 b0 z;have l1:=zkd a0 b0 z;have c2:=ztK a1 b1 l1;have l2:=zkd a1 b1 l1;have c3:=ztK a2 b2 l2;have l3:=zkd a2 b2 l2;have c4:=ztK a3 b3 l3;have s0:=ztJ a0 b0 0;have s1:=ztJ a1 b1 (addC a0 b0 0);have s2:=ztJ a2 b2 (addC a1 b1 (addC a0 b0 0));have s3:=ztJ a3 b3 (addC a2 b2 (addC a1 b1 (addC a0 b0 0)));unfold addW zhG;rw[ztt];unfold nW W256;simp only[List.getD_cons_zero,List.getD_cons_succ,uj];rw[z0] at c1 s0;generalize addC a3 b3 (addC a2 b2 (addC a1 b1 (addC a0 b0 0)))=x4 at *;generalize addS a3 b3 (addC a2 b2 (addC a1 b1 (addC a0 b0 0)))=y3 at *;generalize addS a2 b2 (addC a1 b1 (addC a0 b0 0))=y2 at *;generalize addC a2 b2 (addC a1 b1 (addC a0 b0 0))=x3 at *;generalize addS a1 b1 (addC a0 b0 0)=y1 at *;generalize addC a1 b1 (addC a0 b0 0)=x2 at *;generalize addS a0 b0 0=y0 at *;generalize addC a0 b0 0=x1 at *
      constructor
      · omega
      constructor<;>intro h<;>omega
theorem zjE {a b:Wide} (ha:a.length=4) (hb:b.length=4):nW (addW a b)=(nW a+nW b)%W256:=(zt9 ha hb).1
theorem zgb {r:Nat} (h:r≤64):2^r*2^(64-r)=18446744073709551616:=by
  rw[←Nat.pow_add,show r+(64-r)=64 by omega]
theorem shl_n {x:UInt64} {r:Nat} (h:r<64):(zg1 x r).toNat=x.toNat*2^r%18446744073709551616:=by
  unfold zg1;rw[UInt64.toNat_ofNat',Nat.min_eq_left ya]
theorem shr_n {x:UInt64} {r:Nat} (h:r<64):(zaF x r).toNat=x.toNat/2^r:=by
  unfold zaF;have hx:x.toNat<18446744073709551616:=x.toNat_lt;rw[Nat.min_eq_left ya,UInt64.toNat_ofNat_of_lt' (by show _<18446744073709551616;have:=Nat.div_le_self x.toNat (2^r);omega)]
def upU (x y:UInt64) (r:Nat):UInt64:=zg1 x r|||zaF (zaF y 1) (63-r)
def zmw (x y:UInt64) (r:Nat):UInt64:=zaF x r|||zg1 (zg1 y 1) (63-r)
theorem zvy {a b i:Nat} (h:b<2^i):(a*2^i)|||b=a*2^i+b:=by
  rw[←Nat.shiftLeft_eq,Nat.shiftLeft_add_eq_or_of_lt h]
theorem upU_n {x y:UInt64} {r:Nat} (h:r<64):(upU x y r).toNat=x.toNat%2^(64-r)*2^r+y.toNat/2^(64-r):=by
  have hy:y.toNat<18446744073709551616:=y.toNat_lt;unfold upU;rw[UInt64.toNat_or,shl_n h,shr_n ya,shr_n ya,Nat.div_div_eq_div_mul,←Nat.pow_add,show 1+(63-r)=64-r by omega];have e:x.toNat*2^r%18446744073709551616=x.toNat%2^(64-r)*2^r:=by
    rw[←zgb (r:=r) ya,Nat.mul_comm (2^r) (2^(64-r)),Nat.mul_mod_mul_right]
  rw[e,zvy];rw[Nat.div_lt_iff_lt_mul (Nat.two_pow_pos _),zgb ya];exact hy
theorem zrv {x y:UInt64} {r:Nat} (h:r<64):(zmw x y r).toNat=x.toNat/2^r+y.toNat%2^r*2^(64-r):=by
  have hx:x.toNat<18446744073709551616:=x.toNat_lt;unfold zmw;rw[UInt64.toNat_or,shr_n h,shl_n ya,shl_n ya];have e:y.toNat*2^1%18446744073709551616*2^(63-r)%18446744073709551616=y.toNat%2^r*2^(64-r):=by
    rw[Nat.mod_mul_mod,Nat.mul_assoc,←Nat.pow_add,show 1+(63-r)=64-r by omega,←zgb (r:=r) ya,Nat.mul_mod_mul_right]
  rw[e,Nat.or_comm,zvy,Nat.add_comm];rw[Nat.div_lt_iff_lt_mul (Nat.two_pow_pos _),Nat.mul_comm,zgb ya];exact hx
theorem up_small {a0 a1 a2 a3:UInt64} {r:Nat} (h:r<64):nW [upU a0 0 r,upU a1 a0 r,upU a2 a1 r,upU a3 a2 r]=nW [a0,a1,a2,a3]*2^r%W256:=by
  have hs:=zgb (r:=r) ya;unfold nW;simp only[List.getD_cons_zero,List.getD_cons_succ];rw[upU_n h,upU_n h,upU_n h,upU_n h];have hz:(0:UInt64).toNat=0:=rfl;rw[hz,Nat.zero_div];obtain⟨p,hp⟩:∃p,p=2^r:=⟨_,rfl⟩;obtain⟨s,hs'⟩:∃s,s=2^(64-r):=⟨_,rfl⟩;rw[←hp,←hs'] at hs ⊢;have key:∀x:UInt64,∃t c:Nat,x.toNat*p=t+18446744073709551616*c∧x.toNat%s*p=t∧x.toNat/s=c∧c<18446744073709551616:=fun x=>by
    have hx:x.toNat<18446744073709551616:=x.toNat_lt;refine⟨_,_,?_,rfl,rfl,?_⟩
    · have e:=Nat.mod_add_div x.toNat s
      conv=>lhs;rw[←e]
      rw[Nat.add_mul,←hs,Nat.mul_comm s (x.toNat/s),Nat.mul_assoc,Nat.mul_comm s p,Nat.mul_comm (x.toNat/s)]
    exact Nat.lt_of_le_of_lt (Nat.div_le_self _ _) hx
  obtain⟨t0,c0,e0,f0,g0,l0⟩:=key a0;obtain⟨t1,c1,e1,f1,g1,l1⟩:=key a1;obtain⟨t2,c2,e2,f2,g2,l2⟩:=key a2;obtain⟨t3,c3,e3,f3,g3,l3⟩:=key a3;have b3:t3<18446744073709551616:=by
    rw[←f3,←hs,Nat.mul_comm p s];exact Nat.mul_lt_mul_of_pos_right (Nat.mod_lt _ ybx) (by rw[hp];exact Nat.two_pow_pos _)
  have b:∀{x:UInt64} {t:Nat},x.toNat%s*p=t→t<18446744073709551616:=fun {x t} f=>by
    rw[←f,←hs,Nat.mul_comm p s];exact Nat.mul_lt_mul_of_pos_right (Nat.mod_lt _ ybx) (by rw[hp];exact Nat.two_pow_pos _)
  have b0:=b f0;have b1:=b f1;have b2:=b f2;have hd:∀{x:UInt64} {c:Nat},x.toNat/s=c→c<p:=fun {x c} f=>by
    rw[←f,Nat.div_lt_iff_lt_mul ybx,hs];exact x.toNat_lt
  have hm:∀{x:UInt64} {t:Nat},x.toNat%s*p=t→t+p≤18446744073709551616:=fun {x t} f=>by
    rw[←f,←hs,Nat.mul_comm p s];have h1:x.toNat%s+1≤s:=Nat.mod_lt _ ybx;have h2:=Nat.mul_le_mul_right p h1;rw[Nat.add_mul,Nat.one_mul] at h2;exact h2
  have d0:=hd g0;have d1:=hd g1;have d2:=hd g2;have m1:=hm f1;have m2:=hm f2;have m3:=hm f3;rw[f0,f1,f2,f3,g0,g1,g2];have e:(a0.toNat+18446744073709551616*a1.toNat+340282366920938463463374607431768211456*a2.toNat+6277101735386680763835789423207666416102355444464034512896*a3.toNat)*p=a0.toNat*p+18446744073709551616*(a1.toNat*p)+340282366920938463463374607431768211456*(a2.toNat*p)+6277101735386680763835789423207666416102355444464034512896*(a3.toNat*p):=by
    rw[Nat.add_mul,Nat.add_mul,Nat.add_mul,Nat.mul_assoc,Nat.mul_assoc,Nat.mul_assoc]
  rw[e,e0,e1,e2,e3];unfold W256;omega
theorem down_small {a0 a1 a2 a3:UInt64} {r:Nat} (h:r<64):nW [zmw a0 a1 r,zmw a1 a2 r,zmw a2 a3 r,zmw a3 0 r]=nW [a0,a1,a2,a3]/2^r:=by
  have hs:=zgb (r:=r) ya;unfold nW;simp only[List.getD_cons_zero,List.getD_cons_succ];rw[zrv h,zrv h,zrv h,zrv h];have hz:(0:UInt64).toNat=0:=rfl;rw[hz,Nat.zero_mod,Nat.zero_mul];have hpos:=Nat.two_pow_pos r;obtain⟨p,hp⟩:∃p,p=2^r:=⟨_,rfl⟩;obtain⟨s,hs'⟩:∃s,s=2^(64-r):=⟨_,rfl⟩;rw[←hp,←hs'] at hs ⊢;rw[←hp] at hpos;have key:∀x:UInt64,∃c d:Nat,x.toNat=p*c+d∧x.toNat/p=c∧x.toNat%p=d∧d<p:=fun x=>⟨_,_,(Nat.div_add_mod _ _).symm,rfl,rfl,Nat.mod_lt _ hpos⟩
  obtain⟨c0,d0,e0,f0,g0,l0⟩:=key a0;obtain⟨c1,d1,e1,f1,g1,l1⟩:=key a1;obtain⟨c2,d2,e2,f2,g2,l2⟩:=key a2;obtain⟨c3,d3,e3,f3,g3,l3⟩:=key a3;rw[f0,f1,f2,f3,g1,g2,g3];symm;have e:a0.toNat+18446744073709551616*a1.toNat+340282366920938463463374607431768211456*a2.toNat+6277101735386680763835789423207666416102355444464034512896*a3.toNat=d0+p*(c0+d1*s+18446744073709551616*(c1+d2*s)+340282366920938463463374607431768211456*(c2+d3*s)+6277101735386680763835789423207666416102355444464034512896*(c3+0)):=by
    rw[e0,e1,e2,e3];simp only[Nat.mul_add,Nat.mul_left_comm p,hs];omega
  rw[e,Nat.add_mul_div_left _ _ hpos,Nat.div_eq_of_lt l0,Nat.zero_add]
theorem zgz {a:Wide} (h:a.length=4):∃a0 a1 a2 a3,a=[a0,a1,a2,a3]:=by
  match a,h with
  | [a0,a1,a2,a3],_=>exact⟨a0,a1,a2,a3,rfl⟩
theorem zjM {a:Wide} {n:Int} (h:a.length=4):(upW a n).length=4:=by
  unfold upW;split
  · exact h
  split
  · rfl
  simp
theorem zeA {a:Wide} {n:Int} (h:a.length=4):(zdG a n).length=4:=by
  unfold zdG;split
  · exact h
  split
  · rfl
  simp
theorem nW_up {a:Wide} {n:Nat} (h:a.length=4) (hn:n<256):nW (upW a n)=nW a*2^n%W256:=by
  obtain⟨a0,a1,a2,a3,rfl⟩:=zgz h;obtain⟨q,r,rfl,hr⟩:∃q r,n=64*q+r∧r<64:=⟨n/64,n%64,by omega,by omega⟩;have h1:((64*q+r:Nat):Int)/64=q:=ya;have h2:(((64*q+r:Nat):Int)%64).toNat=r:=ya;have hz:=UInt64.toNat_lt a0;have h3:q<4:=ya;have h4:(63-((64*q+r:Nat):Int)%64).toNat=63-r:=ya;have e:∀b:Wide,b.length=4→(∀i:Nat,i<4→atW [a0,a1,a2,a3] ((i:Int)-q)=b.getD i 0∧atW [a0,a1,a2,a3] ((i:Int)-q-1)=if i=0 then 0 else b.getD (i-1) 0)→nW b=nW [a0,a1,a2,a3]*18446744073709551616^q%W256→nW (upW [a0,a1,a2,a3] ((64*q+r:Nat):Int))=nW [a0,a1,a2,a3]*2^(64*q+r)%W256:=fun b hb hat hnb=>by
    obtain⟨b0,b1,b2,b3,rfl⟩:=zgz hb;unfold upW;rw[ur ya,ur ya];have hF:(List.range 4).map (upF [a0,a1,a2,a3] ((64*q+r:Nat):Int))=[upU b0 0 r,upU b1 b0 r,upU b2 b1 r,upU b3 b2 r]:=by
      have hu:∀i,upF [a0,a1,a2,a3] ((64*q+r:Nat):Int) i=upU (atW [a0,a1,a2,a3] ((i:Int)-q)) (atW [a0,a1,a2,a3] ((i:Int)-q-1)) r:=fun i=>by unfold upF upU;rw[h1,h2,h4]
      show [upF _ _ 0,upF _ _ 1,upF _ _ 2,upF _ _ 3]=_;rw[hu,hu,hu,hu,(hat 0 yn).1,(hat 0 yn).2,(hat 1 yn).1,(hat 1 yn).2,(hat 2 yn).1,(hat 2 yn).2,(hat 3 yn).1,(hat 3 yn).2];rfl
    rw[hF,up_small hr,hnb,Nat.mod_mul_mod,Nat.pow_add,Nat.pow_mul,Nat.mul_assoc]
  have hb0:a0.toNat<18446744073709551616:=a0.toNat_lt;have hb1:a1.toNat<18446744073709551616:=a1.toNat_lt;have hb2:a2.toNat<18446744073709551616:=a2.toNat_lt;have hb3:a3.toNat<18446744073709551616:=a3.toNat_lt;have hq:q=0∨q=1∨q=2∨q=3:=ya;rcases hq with rfl|rfl|rfl|rfl
  · refine e [a0,a1,a2,a3] rfl (fun i hi=>?_) ?_
    · match i,hi with
      | 0,_=>exact⟨rfl,rfl⟩
      | 1,_=>exact⟨rfl,rfl⟩
      | 2,_=>exact⟨rfl,rfl⟩
      | 3,_=>exact⟨rfl,rfl⟩
    rw[Nat.pow_zero,Nat.mul_one,Nat.mod_eq_of_lt (zq3 h)]
  · refine e [0,a0,a1,a2] rfl (fun i hi=>?_) ?_
    · match i,hi with
      | 0,_=>exact⟨rfl,rfl⟩
      | 1,_=>exact⟨rfl,rfl⟩
      | 2,_=>exact⟨rfl,rfl⟩
      | 3,_=>exact⟨rfl,rfl⟩
    unfold nW W256;simp only[List.getD_cons_zero,List.getD_cons_succ];have:(0:UInt64).toNat=0:=rfl;omega
  · refine e [0,0,a0,a1] rfl (fun i hi=>?_) ?_
    · match i,hi with
      | 0,_=>exact⟨rfl,rfl⟩
      | 1,_=>exact⟨rfl,rfl⟩
      | 2,_=>exact⟨rfl,rfl⟩
      | 3,_=>exact⟨rfl,rfl⟩
    unfold nW W256;simp only[List.getD_cons_zero,List.getD_cons_succ];have:(0:UInt64).toNat=0:=rfl;omega
  refine e [0,0,0,a0] rfl (fun i hi=>?_) ?_
  · match i,hi with
    | 0,_=>exact⟨rfl,rfl⟩
    | 1,_=>exact⟨rfl,rfl⟩
    | 2,_=>exact⟨rfl,rfl⟩
    | 3,_=>exact⟨rfl,rfl⟩
  unfold nW W256;simp only[List.getD_cons_zero,List.getD_cons_succ];have:(0:UInt64).toNat=0:=rfl;omega
theorem zjZ {a:Wide} {n:Nat} (h:a.length=4) (hn:n<256):nW (zdG a n)=nW a/2^n:=by
  obtain⟨a0,a1,a2,a3,rfl⟩:=zgz h;obtain⟨q,r,rfl,hr⟩:∃q r,n=64*q+r∧r<64:=⟨n/64,n%64,by omega,by omega⟩;have h1:((64*q+r:Nat):Int)/64=q:=ya;have h2:(((64*q+r:Nat):Int)%64).toNat=r:=ya;have h3:q<4:=ya;have h4:(63-((64*q+r:Nat):Int)%64).toNat=63-r:=ya;have e:∀b:Wide,b.length=4→(∀i:Nat,i<4→atW [a0,a1,a2,a3] ((i:Int)+q)=b.getD i 0∧atW [a0,a1,a2,a3] ((i:Int)+q+1)=if i=3 then 0 else b.getD (i+1) 0)→nW b=nW [a0,a1,a2,a3]/18446744073709551616^q→nW (zdG [a0,a1,a2,a3] ((64*q+r:Nat):Int))=nW [a0,a1,a2,a3]/2^(64*q+r):=fun b hb hat hnb=>by
    obtain⟨b0,b1,b2,b3,rfl⟩:=zgz hb;unfold zdG;rw[ur ya,ur ya];have hF:(List.range 4).map (zpa [a0,a1,a2,a3] ((64*q+r:Nat):Int))=[zmw b0 b1 r,zmw b1 b2 r,zmw b2 b3 r,zmw b3 0 r]:=by
      have hu:∀i,zpa [a0,a1,a2,a3] ((64*q+r:Nat):Int) i=zmw (atW [a0,a1,a2,a3] ((i:Int)+q)) (atW [a0,a1,a2,a3] ((i:Int)+q+1)) r:=fun i=>by unfold zpa zmw;rw[h1,h2,h4]
      show [zpa _ _ 0,zpa _ _ 1,zpa _ _ 2,zpa _ _ 3]=_;rw[hu,hu,hu,hu,(hat 0 yn).1,(hat 0 yn).2,(hat 1 yn).1,(hat 1 yn).2,(hat 2 yn).1,(hat 2 yn).2,(hat 3 yn).1,(hat 3 yn).2];rfl
    rw[hF,down_small hr,hnb,Nat.div_div_eq_div_mul,Nat.pow_add,Nat.pow_mul]
  have hb0:a0.toNat<18446744073709551616:=a0.toNat_lt;have hb1:a1.toNat<18446744073709551616:=a1.toNat_lt;have hb2:a2.toNat<18446744073709551616:=a2.toNat_lt;have hb3:a3.toNat<18446744073709551616:=a3.toNat_lt;have hq:q=0∨q=1∨q=2∨q=3:=ya;rcases hq with rfl|rfl|rfl|rfl
  · refine e [a0,a1,a2,a3] rfl (fun i hi=>?_) (by rw[Nat.pow_zero,Nat.div_one])
    match i,hi with
      | 0,_=>exact⟨rfl,rfl⟩
      | 1,_=>exact⟨rfl,rfl⟩
      | 2,_=>exact⟨rfl,rfl⟩
      | 3,_=>exact⟨rfl,rfl⟩
  · refine e [a1,a2,a3,0] rfl (fun i hi=>?_) ?_
    · match i,hi with
      | 0,_=>exact⟨rfl,rfl⟩
      | 1,_=>exact⟨rfl,rfl⟩
      | 2,_=>exact⟨rfl,rfl⟩
      | 3,_=>exact⟨rfl,rfl⟩
    unfold nW;simp only[List.getD_cons_zero,List.getD_cons_succ];have:(0:UInt64).toNat=0:=rfl;omega
  · refine e [a2,a3,0,0] rfl (fun i hi=>?_) ?_
    · match i,hi with
      | 0,_=>exact⟨rfl,rfl⟩
      | 1,_=>exact⟨rfl,rfl⟩
      | 2,_=>exact⟨rfl,rfl⟩
      | 3,_=>exact⟨rfl,rfl⟩
    unfold nW;simp only[List.getD_cons_zero,List.getD_cons_succ];have:(0:UInt64).toNat=0:=rfl;omega
  refine e [a3,0,0,0] rfl (fun i hi=>?_) ?_
  · match i,hi with
    | 0,_=>exact⟨rfl,rfl⟩
    | 1,_=>exact⟨rfl,rfl⟩
    | 2,_=>exact⟨rfl,rfl⟩
    | 3,_=>exact⟨rfl,rfl⟩
  unfold nW;simp only[List.getD_cons_zero,List.getD_cons_succ];have:(0:UInt64).toNat=0:=rfl;omega
theorem zp4 {a b:Wide} (ha:a.length=4) (hb:b.length=4):cmpW a b=if nW a<nW b then -1 else if nW b<nW a then 1 else 0:=by
  obtain⟨a0,a1,a2,a3,rfl⟩:=zgz ha;obtain⟨b0,b1,b2,b3,rfl⟩:=zgz hb;have h0:a0.toNat<18446744073709551616:=a0.toNat_lt;have h1:a1.toNat<18446744073709551616:=a1.toNat_lt;have h2:a2.toNat<18446744073709551616:=a2.toNat_lt;have h3:a3.toNat<18446744073709551616:=a3.toNat_lt;have k0:b0.toNat<18446744073709551616:=b0.toNat_lt;have k1:b1.toNat<18446744073709551616:=b1.toNat_lt;have k2:b2.toNat<18446744073709551616:=b2.toNat_lt;have k3:b3.toNat<18446744073709551616:=b3.toNat_lt;show orL [cmpU a3 b3,cmpU a2 b2,cmpU a1 b1,cmpU a0 b0]=if a0.toNat+18446744073709551616*a1.toNat+340282366920938463463374607431768211456*a2.toNat+6277101735386680763835789423207666416102355444464034512896*a3.toNat<b0.toNat+18446744073709551616*b1.toNat+340282366920938463463374607431768211456*b2.toNat+6277101735386680763835789423207666416102355444464034512896*b3.toNat then -1 else if b0.toNat+18446744073709551616*b1.toNat+340282366920938463463374607431768211456*b2.toNat+6277101735386680763835789423207666416102355444464034512896*b3.toNat<a0.toNat+18446744073709551616*a1.toNat+340282366920938463463374607431768211456*a2.toNat+6277101735386680763835789423207666416102355444464034512896*a3.toNat then 1 else 0
  have c:∀x y:UInt64,cmpU x y=if x.toNat<y.toNat then -1 else if y.toNat<x.toNat then 1 else 0:=fun x y=>by unfold cmpU;simp only[UInt64.lt_iff_toNat_lt]
  rw[c,c,c,c];by_cases d3:a3.toNat=b3.toNat
  · by_cases d2:a2.toNat=b2.toNat
    · by_cases d1:a1.toNat=b1.toNat
      · rw[d3,d2,d1,ur (Nat.lt_irrefl _),ur (Nat.lt_irrefl _),ur (Nat.lt_irrefl _),ur (Nat.lt_irrefl _),ur (Nat.lt_irrefl _),ur (Nat.lt_irrefl _)]
        by_cases l:a0.toNat<b0.toNat
        · rw[ut l];show(-1:Int)=_;rw[ut ya]
        rw[ur l];by_cases l2:b0.toNat<a0.toNat
        · rw[ut l2];show(1:Int)=_;rw[ur ya,ut ya]
        rw[ur l2];show(0:Int)=_;rw[ur ya,ur ya]
      rw[d3,d2,ur (Nat.lt_irrefl _),ur (Nat.lt_irrefl _),ur (Nat.lt_irrefl _),ur (Nat.lt_irrefl _)];by_cases l:a1.toNat<b1.toNat
      · rw[ut l];show(-1:Int)=_;rw[ut ya]
      rw[ur l,ut (show b1.toNat<a1.toNat by omega)];show(1:Int)=_;rw[ur ya,ut ya]
    rw[d3,ur (Nat.lt_irrefl _),ur (Nat.lt_irrefl _)];by_cases l:a2.toNat<b2.toNat
    · rw[ut l];show(-1:Int)=_;rw[ut ya]
    rw[ur l,ut (show b2.toNat<a2.toNat by omega)];show(1:Int)=_;rw[ur ya,ut ya]
  by_cases l:a3.toNat<b3.toNat
  · rw[ut l];show(-1:Int)=_;rw[ut ya]
  rw[ur l,ut (show b3.toNat<a3.toNat by omega)];show(1:Int)=_;rw[ur ya,ut ya]
theorem zu6 (a b:UInt64) {c:UInt64} (h:c.toNat≤1):(subS a b c).toNat=(a.toNat+18446744073709551616-b.toNat-c.toNat)%18446744073709551616:=by unfold subS;rw[UInt64.toNat_ofNat']
theorem zu7 (a b c:UInt64):(subC a b c).toNat=if a.toNat<b.toNat+c.toNat then 1 else 0:=by unfold subC;split<;>rfl
theorem zts (a0 a1 a2 a3 b0 b1 b2 b3:UInt64):zbz subS subC [a0,a1,a2,a3] [b0,b1,b2,b3] 4=([subS a0 b0 0,subS a1 b1 (subC a0 b0 0),subS a2 b2 (subC a1 b1 (subC a0 b0 0)),subS a3 b3 (subC a2 b2 (subC a1 b1 (subC a0 b0 0)))],subC a3 b3 (subC a2 b2 (subC a1 b1 (subC a0 b0 0)))):=rfl
theorem zmB {a b:Wide} (ha:a.length=4) (hb:b.length=4):(subW a b).length=4:=by
  obtain⟨a0,a1,a2,a3,rfl⟩:=zgz ha;obtain⟨b0,b1,b2,b3,rfl⟩:=zgz hb;unfold subW;rw[zts];rfl
theorem zvF {a b:Wide} (ha:a.length=4) (hb:b.length=4):nW (subW a b)=(nW a+W256-nW b)%W256∧(zsb a b=true↔nW b≤nW a):=by
  obtain⟨a0,a1,a2,a3,rfl⟩:=zgz ha;obtain⟨b0,b1,b2,b3,rfl⟩:=zgz hb;have h0:a0.toNat<18446744073709551616:=a0.toNat_lt;have h1:a1.toNat<18446744073709551616:=a1.toNat_lt;have h2:a2.toNat<18446744073709551616:=a2.toNat_lt;have h3:a3.toNat<18446744073709551616:=a3.toNat_lt;have k0:b0.toNat<18446744073709551616:=b0.toNat_lt;have k1:b1.toNat<18446744073709551616:=b1.toNat_lt;have k2:b2.toNat<18446744073709551616:=b2.toNat_lt;have k3:b3.toNat<18446744073709551616:=b3.toNat_lt;have z0:(0:UInt64).toNat=0:=rfl;have c1:=zu7 a0 b0 0;have c2:=zu7 a1 b1 (subC a0 b0 0);have c3:=zu7 a2 b2 (subC a1 b1 (subC a0 b0 0));have c4:=zu7 a3 b3 (subC a2 b2 (subC a1 b1 (subC a0 b0 0)));have s0:=zu6 a0 b0 (show(0:UInt64).toNat≤1 by decide);have s1:=zu6 a1 b1 (zqw a0 b0 0);have s2:=zu6 a2 b2 (zqw a1 b1 (subC a0 b0 0));have s3:=zu6 a3 b3 (zqw a2 b2 (subC a1 b1 (subC a0 b0 0)));unfold subW zsb;rw[zts];unfold nW W256;simp only[List.getD_cons_zero,List.getD_cons_succ,uj];rw[z0] at c1 s0;generalize subC a3 b3 (subC a2 b2 (subC a1 b1 (subC a0 b0 0)))=x4 at *;generalize subS a3 b3 (subC a2 b2 (subC a1 b1 (subC a0 b0 0)))=y3 at *;generalize subS a2 b2 (subC a1 b1 (subC a0 b0 0))=y2 at *;generalize subC a2 b2 (subC a1 b1 (subC a0 b0 0))=x3 at *;generalize subS a1 b1 (subC a0 b0 0)=y1 at *;generalize subC a1 b1 (subC a0 b0 0)=x2 at *;generalize subS a0 b0 0=y0 at *;generalize subC a0 b0 0=x1 at *;have e0:y0.toNat+b0.toNat=a0.toNat+18446744073709551616*x1.toNat:=by split at c1<;>omega
  have e1:y1.toNat+b1.toNat+x1.toNat=a1.toNat+18446744073709551616*x2.toNat:=by split at c1<;>split at c2<;>omega
  have e2:y2.toNat+b2.toNat+x2.toNat=a2.toNat+18446744073709551616*x3.toNat:=by split at c2<;>split at c3<;>omega
  have e3:y3.toNat+b3.toNat+x3.toNat=a3.toNat+18446744073709551616*x4.toNat:=by split at c3<;>split at c4<;>omega
  have l0:y0.toNat<18446744073709551616:=y0.toNat_lt;have l1:y1.toNat<18446744073709551616:=y1.toNat_lt;have l2:y2.toNat<18446744073709551616:=y2.toNat_lt;have l3:y3.toNat<18446744073709551616:=y3.toNat_lt;have l4:x4.toNat≤1:=by split at c4<;>omega
  clear c1 c2 c3 c4 s0 s1 s2 s3
  constructor
  · omega
  constructor<;>intro h<;>omega
theorem limb_n {a:Wide} {q:Nat} (h:a.length=4) (hq:q<4):(a.getD q 0).toNat=nW a/18446744073709551616^q%18446744073709551616:=by
  obtain⟨a0,a1,a2,a3,rfl⟩:=zgz h;have h0:a0.toNat<18446744073709551616:=a0.toNat_lt;have h1:a1.toNat<18446744073709551616:=a1.toNat_lt;have h2:a2.toNat<18446744073709551616:=a2.toNat_lt;have h3:a3.toNat<18446744073709551616:=a3.toNat_lt;unfold nW;simp only[List.getD_cons_zero,List.getD_cons_succ]
  match q,hq with
  | 0,_=>simp only[List.getD_cons_zero];omega
  | 1,_=>simp only[List.getD_cons_zero,List.getD_cons_succ];omega
  | 2,_=>simp only[List.getD_cons_zero,List.getD_cons_succ];omega
  | 3,_=>simp only[List.getD_cons_zero,List.getD_cons_succ];omega
theorem set_n {a:Wide} {q:Nat} {v:UInt64} (h:a.length=4) (hq:q<4):nW (a.set q v)+(a.getD q 0).toNat*18446744073709551616^q=nW a+v.toNat*18446744073709551616^q:=by
  obtain⟨a0,a1,a2,a3,rfl⟩:=zgz h;unfold nW
  match q,hq with
  | 0,_=>simp only[List.set_cons_zero,List.getD_cons_zero,List.getD_cons_succ];omega
  | 1,_=>simp only[List.set_cons_zero,List.set_cons_succ,List.getD_cons_zero,List.getD_cons_succ];omega
  | 2,_=>simp only[List.set_cons_zero,List.set_cons_succ,List.getD_cons_zero,List.getD_cons_succ];omega
  | 3,_=>simp only[List.set_cons_zero,List.set_cons_succ,List.getD_cons_zero,List.getD_cons_succ];omega
theorem orBit_n {a:Wide} {n K:Nat} (h:a.length=4) (hn:n<256) (hd:nW a=K*2^(n+1)):nW (zkG a n)=nW a+2^n:=by
  obtain⟨q,r,rfl,hr⟩:∃q r,n=64*q+r∧r<64:=⟨n/64,n%64,by omega,by omega⟩;have hq:q<4:=ya;have e1:(64*q+r)/64=q:=ya;have e2:(64*q+r)%64=r:=ya;unfold zkG;rw[e1,e2];have hs:=set_n (v:=a.getD q default|||zg1 1 r) h hq;have hl:=limb_n h hq;have ep:2^(64*q+r+1)=18446744073709551616^q*2^(r+1):=by rw[Nat.add_assoc,Nat.pow_add,Nat.pow_mul]
  have epn:2^(64*q+r)=18446744073709551616^q*2^r:=by rw[Nat.pow_add,Nat.pow_mul]
  have hb:0<18446744073709551616^q:=Nat.pow_pos yn;have hl2:(a.getD q 0).toNat=K%2^(63-r)*2^(r+1):=by
    rw[hl,hd,ep,Nat.mul_left_comm,Nat.mul_div_cancel_left _ hb,←zgb (r:=r+1) ya,show 64-(r+1)=63-r by omega,Nat.mul_comm (2^(r+1)) (2^(63-r)),Nat.mul_mod_mul_right]
  have hv:(a.getD q default|||zg1 1 r).toNat=(a.getD q 0).toNat+2^r:=by
    have h1:(zg1 1 r).toNat=2^r:=by
      rw[shl_n hr];show 1*2^r%_=_;rw[Nat.one_mul,Nat.mod_eq_of_lt];exact Nat.pow_lt_pow_right yn hr
    rw[UInt64.toNat_or,h1];show(a.getD q 0).toNat|||2^r=_
    rw[hl2,zvy (Nat.pow_lt_pow_right yn ya)]
  rw[hv,Nat.add_mul,Nat.mul_comm (2^r),←epn] at hs;omega
theorem bitLen_n (n:Nat):n<2^zas n∧(0<n→2^(zas n-1)≤n):=by
  unfold zas
  split
  · rename_i h;subst h;exact⟨by decide,fun h=>absurd h yn⟩
  rename_i h;exact⟨Nat.lt_log2_self,fun _=>by rw[Nat.add_sub_cancel];exact Nat.log2_self_le h⟩
theorem longW_n {a:Wide} (h:a.length=4):nW a<2^longW a∧(0<nW a→1≤longW a∧2^(longW a-1)≤nW a):=by
  obtain⟨a0,a1,a2,a3,rfl⟩:=zgz h;have h0:a0.toNat<18446744073709551616:=a0.toNat_lt;have h1:a1.toNat<18446744073709551616:=a1.toNat_lt;have h2:a2.toNat<18446744073709551616:=a2.toNat_lt;have h3:a3.toNat<18446744073709551616:=a3.toNat_lt;have key:∀(x k R:Nat) ,0<x→R<18446744073709551616^k→R+18446744073709551616^k*x<2^(k*64+zas x)∧1≤k*64+zas x∧2^(k*64+zas x-1)≤R+18446744073709551616^k*x:=fun x k R hx hR=>by
    obtain⟨b1,b2⟩:=bitLen_n x;have b2:=b2 hx;have b3:1≤zas x:=zqc hx;have e:2^(k*64+zas x)=18446744073709551616^k*2^zas x:=by rw[Nat.mul_comm k 64,Nat.pow_add,Nat.pow_mul]
    have e':2^(k*64+zas x-1)=18446744073709551616^k*2^(zas x-1):=by rw[Nat.add_sub_assoc b3,Nat.mul_comm k 64,Nat.pow_add,Nat.pow_mul]
    refine⟨?_,by omega,?_⟩
    · rw[e]
      have:=Nat.mul_le_mul_left (18446744073709551616^k) (show x+1≤2^zas x from b1)
      rw[Nat.mul_add,Nat.mul_one] at this;omega
    rw[e']
    have:=Nat.mul_le_mul_left (18446744073709551616^k) b2
    omega
  unfold longW;simp only[zmv,List.getD_cons_succ,List.getD_cons_zero];unfold nW;simp only[List.getD_cons_succ,List.getD_cons_zero];by_cases c3:0<a3.toNat
  · rw[ut c3]
    obtain⟨x,y,z⟩:=key a3.toNat 3 (a0.toNat+18446744073709551616*a1.toNat+340282366920938463463374607431768211456*a2.toNat) c3 ya;exact⟨x,fun _=>⟨y,z⟩⟩
  rw[ur c3];have z3:a3.toNat=0:=ya;rw[z3];by_cases c2:0<a2.toNat
  · rw[ut c2]
    obtain⟨x,y,z⟩:=key a2.toNat 2 (a0.toNat+18446744073709551616*a1.toNat) c2 ya;exact⟨x,fun _=>⟨y,z⟩⟩
  rw[ur c2];have z2:a2.toNat=0:=ya;rw[z2];by_cases c1:0<a1.toNat
  · rw[ut c1]
    obtain⟨x,y,z⟩:=key a1.toNat 1 a0.toNat c1 ya;rw[Nat.pow_one] at x z;exact⟨x,fun _=>⟨y,z⟩⟩
  rw[ur c1];have z1:a1.toNat=0:=ya;rw[z1];by_cases c0:0<a0.toNat
  · rw[ut c0]
    obtain⟨x,y,z⟩:=key a0.toNat 0 0 c0 yn;exact⟨by simpa using x,fun _=>⟨y,by simpa using z⟩⟩
  rw[ur c0];have z0:a0.toNat=0:=ya;rw[z0];exact⟨by decide,fun h=>absurd h yn⟩
theorem divN_n {b:Wide} (hb:b.length=4) {A:Nat}:∀(n:Nat) (x:Wide×Wide),x.1.length=4→x.2.length=4→nW b*2^n≤2*W256→n≤256→A=nW x.2*nW b+nW x.1→nW x.1<nW b*2^n→(∃K,nW x.2=K*2^n)→(∀k,k<n→nW b*2^k<W256)→
    (divN b n x).1.length=4∧(divN b n x).2.length=4∧A=nW (divN b n x).2*nW b+nW (divN b n x).1∧nW (divN b n x).1<nW b
  | 0,x,h1,h2,_,_,h3,h4,_,_=>⟨h1,h2,h3,by rw[Nat.pow_zero,Nat.mul_one] at h4;exact h4⟩
  | n+1,x,h1,h2,h5,h6,h3,h4,⟨K,hK⟩,h8=>by
    have hup:=nW_up (a:=b) (n:=n) hb ya;have hlt:=h8 n ya;rw[Nat.mod_eq_of_lt hlt] at hup;have hul:=zjM (n:=(n:Int)) hb;obtain⟨s1,s2⟩:=zvF h1 hul;have hx1:=zq3 h1;have ep:2^(n+1)=2*2^n:=by rw[Nat.pow_succ,Nat.mul_comm]
    have eb:nW b*2^(n+1)=2*(nW b*2^n):=by rw[ep,Nat.mul_left_comm]
    rw[divN];unfold zi0;by_cases c:zsb x.1 (upW b n)=true
    · rw[ut c]
      have hle:=s2.1 c;rw[hup] at hle s1;have e1:nW (subW x.1 (upW b n))=nW x.1-nW b*2^n:=by rw[s1,show nW x.1+W256-nW b*2^n=(nW x.1-nW b*2^n)+W256 by omega,Nat.add_mod_right,Nat.mod_eq_of_lt ya]
      have e2:=orBit_n h2 (show n<256 by omega) hK;refine divN_n hb n (subW x.1 (upW b n),zkG x.2 n) (show(subW x.1 (upW b n)).length=4 from zmB h1 hul) (by show(zkG x.2 n).length=4;unfold zkG;rw[List.length_set];exact h2) ya ya ?_ ?_ ⟨2*K+1,?_⟩ (fun k hk=>h8 k ya)
      · show A=nW (zkG x.2 n)*nW b+nW (subW x.1 (upW b n))
        rw[e1,e2,Nat.add_mul,Nat.mul_comm (2^n)];omega
      · show nW (subW x.1 (upW b n))<_
        rw[e1];omega
      show nW (zkG x.2 n)=_;rw[e2,hK,ep,Nat.add_mul,Nat.one_mul,Nat.mul_comm 2 K,Nat.mul_assoc]
    rw[ur c];have hgt:nW x.1<nW b*2^n:=by
      rw[←hup];exact Nat.lt_of_not_le fun hh=>c (s2.2 hh)
    exact divN_n hb n x h1 h2 ya ya h3 hgt ⟨K*2,by rw[hK,ep,Nat.mul_assoc]⟩ (fun k hk=>h8 k ya)
theorem zq2:nW zaP=0:=rfl
theorem nW_pos {b:Wide} (hb:b.length=4) (h:b≠zaP):0<nW b:=by
  refine Nat.pos_of_ne_zero fun e=>h (zhu hb rfl (by rw[e];rfl))
theorem nW_div {a b:Wide} (ha:a.length=4) (hb:b.length=4) (h:b≠zaP):(divW a b).length=4∧(remW a b).length=4∧nW (divW a b)=nW a/nW b∧nW (remW a b)=nW a%nW b:=by
  have hp:=nW_pos hb h;obtain⟨la,_⟩:=longW_n ha;obtain⟨lb,lb2⟩:=longW_n hb;obtain⟨lb3,lb4⟩:=lb2 hp;have wa:=zq8 a;have pw:2^256=W256:=yn;have hn:longW a+1-longW b≤256:=ya;have hover:∀k,k<longW a+1-longW b→nW b*2^k<W256:=fun k hk=>by
    have h1:nW b*2^k<2^longW b*2^k:=Nat.mul_lt_mul_of_pos_right lb (Nat.two_pow_pos k);rw[←Nat.pow_add] at h1;have h2:2^(longW b+k)≤2^256:=Nat.pow_le_pow_right yn ya;rw[pw] at h2;omega
  have hstart:nW a<nW b*2^(longW a+1-longW b):=by
    have h1:2^(longW b-1)*2^(longW a+1-longW b)≤nW b*2^(longW a+1-longW b):=Nat.mul_le_mul_right _ lb4;rw[←Nat.pow_add] at h1;have h2:2^longW a≤2^(longW b-1+(longW a+1-longW b)):=Nat.pow_le_pow_right yn ya;omega
  obtain⟨N,hN⟩:∃N,N=longW a+1-longW b:=⟨_,rfl⟩;unfold divW remW divP;rw[ur h];rw[←hN] at hn hover hstart ⊢;show(divN b N (a,zaP)).2.length=4∧(divN b N (a,zaP)).1.length=4∧nW (divN b N (a,zaP)).2=_∧nW (divN b N (a,zaP)).1=_;have hbound:nW b*2^N≤2*W256:=by
    cases N with
    | zero=>rw[Nat.pow_zero,Nat.mul_one];have:=zq3 hb;omega
    | succ n=>have:=hover n ya;rw[Nat.pow_succ,←Nat.mul_assoc];omega
  obtain⟨g1,g2,g3,g4⟩:=divN_n hb (A:=nW a) N (a,zaP) ha rfl hbound hn (by show nW a=nW zaP*nW b+nW a;rw[zq2,Nat.zero_mul,Nat.zero_add]) hstart ⟨0,by rw[Nat.zero_mul];rfl⟩ hover;refine⟨g2,g1,?_,?_⟩
  · conv=>rhs;rw[g3]
    rw[Nat.add_comm,Nat.add_mul_div_right _ _ hp,Nat.div_eq_of_lt g4,Nat.zero_add]
  conv=>rhs;rw[g3]
  rw[Nat.add_comm,Nat.add_mul_mod_self_right,Nat.mod_eq_of_lt g4]
def rcmp (a b:Wide):Nat→Int
  | 0=>0
  | k+1=>if cmpU (a.getD k default) (b.getD k default)=0 then rcmp a b k else cmpU (a.getD k default) (b.getD k default)
theorem rcmp_all (a b:Wide):cmpW a b=rcmp a b 4:=rfl
theorem rcmp_lt {a b:Wide} {k:Nat} (hk:0<k) (h:a.getD (k-1) default<b.getD (k-1) default):rcmp a b k = -1:=by
  obtain⟨j,rfl⟩:∃j,k=j+1:=⟨k-1,by omega⟩;rw[Nat.add_sub_cancel] at h;rw[rcmp];have e:cmpU (a.getD j default) (b.getD j default) = -1:=by unfold cmpU;rw[ut h]
  rw[e];rfl
theorem rcmp_gt {a b:Wide} {k:Nat} (hk:0<k) (h1:¬a.getD (k-1) default<b.getD (k-1) default) (h:b.getD (k-1) default<a.getD (k-1) default):rcmp a b k=1:=by
  obtain⟨j,rfl⟩:∃j,k=j+1:=⟨k-1,by omega⟩;rw[Nat.add_sub_cancel] at h h1;rw[rcmp];have e:cmpU (a.getD j default) (b.getD j default)=1:=by unfold cmpU;rw[ur h1,ut h]
  rw[e];rfl
theorem rcmp_eq {a b:Wide} {k:Nat} (hk:0<k) (h1:¬a.getD (k-1) default<b.getD (k-1) default) (h:¬b.getD (k-1) default<a.getD (k-1) default):rcmp a b k=rcmp a b (k-1):=by
  obtain⟨j,rfl⟩:∃j,k=j+1:=⟨k-1,by omega⟩;rw[Nat.add_sub_cancel] at h h1 ⊢;rw[rcmp];have e:cmpU (a.getD j default) (b.getD j default)=0:=by unfold cmpU;rw[ur h1,ur h]
  rw[e,ut rfl]
def radF (a b:Wide) (i:Nat):UInt64:=addS (a.getD i default) (b.getD i default) (zbz addS addC a b i).2
theorem radF_all {a b:Wide} (ha:a.length=4) (hb:b.length=4):(List.range 4).map (radF a b)=addW a b:=by
  obtain⟨a0,a1,a2,a3,rfl⟩:=zgz ha;obtain⟨b0,b1,b2,b3,rfl⟩:=zgz hb;rfl
theorem zih {a b:Wide} {k:Nat} (ha:a.length=4) (hb:b.length=4) (hk:k<4):(zbz addS addC a b (k+1)).2=addC (a.getD k default) (b.getD k default) (zbz addS addC a b k).2:=by
  obtain⟨a0,a1,a2,a3,rfl⟩:=zgz ha;obtain⟨b0,b1,b2,b3,rfl⟩:=zgz hb
  match k,hk with
  | 0,_=>rfl
  | 1,_=>rfl
  | 2,_=>rfl
  | 3,_=>rfl
theorem zuN (x y c:UInt64):addS x y c=x+y+c:=by
  apply UInt64.toNat_inj.1;rw[ztJ,UInt64.toNat_add,UInt64.toNat_add];omega
theorem add_over {x y c:UInt64} (hc:c.toNat≤1):addC x y c=if x+y<x∨x+y+c<x+y then 1 else 0:=by
  have hx:x.toNat<18446744073709551616:=x.toNat_lt;have hy:y.toNat<18446744073709551616:=y.toNat_lt;apply UInt64.toNat_inj.1;rw[ztK _ _ hc];simp only[UInt64.lt_iff_toNat_lt,UInt64.toNat_add]
  split
  · show _=1;omega
  show _=0;omega
theorem zlu (n:UInt64):Tells P 197 [.val u64T n] (.val z7 (ofW n)):=by
 refine zc Tryz.func197 rfl rfl rfl (fun ext w hext=>?_);refine CQR ?_;refine qaz ?_;refine qcZ ?_;refine A0 (zh7 (T:=u64T) (xs:=[_,_,_,_]) rfl zbf ziy yaZ rfl) ?_;refine qag ?_;refine CN ?_;exact zF rfl rfl rfl rfl zal (rfl)
theorem zmM (a b:Wide):Tells P 198 [.val z7 a,.val z7 b] (.val i64T (cmpW a b)):=by
 refine zc Tryz.func198 rfl rfl rfl (fun ext w hext=>?_);refine ze (d:=0) rfl zaS (fun ha=>?_);refine ze (d:=1) rfl zaS (fun hb=>?_);refine qa3 ?_;refine qcc ?_;refine Lp (ι:=Nat) 2 (fun (k:Nat)=>(((Fr.none).set 2 (.ptr 0 0)).set 3 (.ptr 1 0)).set 5 (.val i64T ((k:Int)-1))) (fun (k:Nat)=>((Hp.none).set 0 (.box 49 z7 a)).set 1 (.box 49 z7 b)) (fun (k:Nat)=>k≤4∧cmpW a b=rcmp a b k) (fun (k:Nat)=>k) (4) (⟨ug _,rcmp_all a b⟩) ?_;intro k hinv;refine qaF ?_;refine qb9 ?_;refine Cf (p:=0<k) (fun ht7=>?_) (fun ht7=>?_)
 ·
  refine qa8 ?_;refine CQ ?_;refine qaG ?_;refine G0 mV ?_;refine G0 (zG (i:=k-1) rfl rfl rfl yi zbf ya) ?_;refine xG ?_;refine G0 mV ?_;refine G0 (zG (i:=k-1) rfl rfl rfl yi zbf ya) ?_;refine xG ?_;refine G0 zbb ?_;refine GK.nil ?_;refine zq (p:=a.getD (k-1) default<b.getD (k-1) default) rfl yba (fun ht16=>?_) (fun ht16=>?_)
  ·
   refine qay ?_;exact zd rfl rfl (za rfl (by rw[hinv.2,rcmp_lt ht7 ht16]))
  refine CS ?_;refine qaG ?_;refine G0 mV ?_;refine G0 (zG (i:=k-1) rfl rfl rfl yi zbf ya) ?_;refine xG ?_;refine G0 mV ?_;refine G0 (zG (i:=k-1) rfl rfl rfl yi zbf ya) ?_;refine xG ?_;refine G0 zjC ?_;refine GK.nil ?_;refine zq (p:=b.getD (k-1) default<a.getD (k-1) default) rfl yba (fun ht23=>?_) (fun ht23=>?_)
  ·
   refine qay ?_;exact zd rfl rfl (za rfl (by rw[hinv.2,rcmp_gt ht7 ht16 ht23]))
  refine CSIR ?_;refine qbS ?_;refine qac ?_;refine zj (d:=5) (y:=((k-1:Nat):Int)-1) rfl ya ?_;exact Nx (k-1) (⟨by omega,by rw[hinv.2,rcmp_eq ht7 ht16 ht23]⟩) ya
 obtain rfl:k=0:=ya;refine qcT ?_;exact zd rfl rfl (za rfl (by rw[hinv.2];rfl))
theorem zdX (a b:Wide):Tells P 258 [.val z7 a,.val z7 b] (.tup2 (.val z7 (addW a b)) (.val zs (zhG a b))):=by
 refine zc Tryz.func258 rfl rfl rfl (fun ext w hext=>?_);refine ze (d:=0) rfl zaS (fun ha=>?_);refine ze (d:=1) rfl zaS (fun hb=>?_);refine qa3 ?_;refine qaz ?_;refine qah ?_;refine qaz ?_;refine CNQR ?_;refine qcc ?_;refine Lp (ι:=Nat) 4 (fun (k:Nat)=>((((((Fr.none).set 2 (.ptr 0 0)).set 3 (.ptr 1 0)).set 4 (.ptr 2 0)).set 6 (.ptr 3 0)).set 7 (.val u64T (zbz addS addC a b k).2)).set 8 (.val i64T (k:Int))) (fun (k:Nat)=>((((Hp.none).set 0 (.box 49 z7 a)).set 1 (.box 49 z7 b)).set 2 (.box 49 z7 zaP)).set 3 (.box 49 z7 (setN (radF a b) zaP k))) (fun (k:Nat)=>k≤4∧(zbz addS addC a b k).2.toNat≤1) (fun (k:Nat)=>4-k) (0) (⟨uf _,uf 1⟩) ?_;intro k hinv;refine qaF ?_;refine qav ?_;refine Cf (p:=k<4) (fun ht12=>?_) (fun ht12=>?_)
 ·
  have hc2:=(zih ha hb ht12).trans (add_over hinv.2);refine qdi ?_;refine G0 mV ?_;refine G0 (zG (i:=k) rfl rfl rfl yi zbf ya) ?_;refine G0 (zy rfl rfl rfl (Lens.elem (i:=k) ya u64T) za9) ?_;refine G0 mV ?_;refine G0 (zG (i:=k) rfl rfl rfl yi zbf ya) ?_;refine G0 (zy rfl rfl rfl (Lens.elem (i:=k) ya u64T) za9) ?_;refine G0 (zgj rfl rfl rfl) ?_;refine qaV ?_;refine CQR ?_;refine qad ?_;refine xd ?_;refine qah ?_;refine qc8 ?_;refine qad ?_;refine xH ?_;refine A0 (zy rfl rfl rfl (Lens.elem (i:=k) ya u64T) za9) ?_;refine A0 zbb ?_;refine qau ?_;refine zX (d:=30) (p:=a.getD k default+b.getD k default<a.getD k default) rfl (uo.2 (by rw[UInt64.lt_iff_toNat_lt];exact Int.ofNat_lt)) (fun g30=>?_) (fun g30=>?_)
  ·
   refine qab ?_;refine qao ?_;refine Ct ?_;refine CR ?_;refine qbX ?_;refine qad ?_;refine xH ?_;refine xI ?_;refine qaK ?_;refine zJ (n:=3) (y:=setN (radF a b) zaP (k+1)) rfl (by rw[←zf9];unfold radF;rw[zuN]) ?_;refine zj (d:=7) (y:=(zbz addS addC a b (k+1)).2) rfl (by rw[hc2,ut (.inl g30)];rfl) ?_;exact Nx (k+1) (⟨by omega,by rw[zih ha hb ht12];exact zkd _ _ hinv.2⟩) ya
  refine A1 mV ?_;refine A1 mV ?_;refine A1 zbb ?_;refine qao ?_;refine zq (p:=a.getD k default+b.getD k default+(zbz addS addC a b k).2<a.getD k default+b.getD k default) rfl (uo.2 (by rw[UInt64.lt_iff_toNat_lt];exact Int.ofNat_lt)) (fun ht34=>?_) (fun ht34=>?_)
  ·
   refine CR ?_;refine qbX ?_;refine qad ?_;refine xH ?_;refine xI ?_;refine qaK ?_;refine zJ (n:=3) (y:=setN (radF a b) zaP (k+1)) rfl (by rw[←zf9];unfold radF;rw[zuN]) ?_;refine zj (d:=7) (y:=(zbz addS addC a b (k+1)).2) rfl (by rw[hc2,ut (.inr ht34)];rfl) ?_;exact Nx (k+1) (⟨by omega,by rw[zih ha hb ht12];exact zkd _ _ hinv.2⟩) ya
  refine CS ?_;refine CR ?_;refine qad ?_;refine xH ?_;refine xI ?_;refine qaK ?_;refine zJ (n:=3) (y:=setN (radF a b) zaP (k+1)) rfl (by rw[←zf9];unfold radF;rw[zuN]) ?_;refine zj (d:=7) (y:=(zbz addS addC a b (k+1)).2) rfl (by rw[hc2,ur (fun h=>h.elim g30 ht34)];rfl) ?_;exact Nx (k+1) (⟨by omega,by rw[zih ha hb ht12];exact zkd _ _ hinv.2⟩) ya
 obtain rfl:k=4:=ya;refine qdl ?_;refine qa4 ?_;refine qau ?_;refine A0 zbZ ?_;refine qag ?_;refine qac ?_;exact zn rfl rfl (zt rfl rfl zal ((zkt (k:=4) rfl).trans (radF_all ha hb))) (zS (za rfl (by unfold zhG;rw[uo];simp[IntL.toI])))
def maxU:UInt64:=UInt64.ofNat (Int.toNat 18446744073709551615)
def zs1:UInt64:=UInt64.ofNat (Int.toNat 9223372036854775808)
theorem maxU_n:maxU.toNat=18446744073709551615:=by unfold maxU;rw[show Int.toNat 18446744073709551615=18446744073709551615 from rfl];exact UInt64.toNat_ofNat_of_lt' yn
theorem highU_n:zs1.toNat=9223372036854775808:=by unfold zs1;rw[show Int.toNat 9223372036854775808=9223372036854775808 from rfl];exact UInt64.toNat_ofNat_of_lt' yn
def compF (b:Wide) (i:Nat):UInt64:=maxU-b.getD i default
def compW (b:Wide):Wide:=(List.range 4).map (compF b)
theorem compW_n {b:Wide} (hb:b.length=4):(compW b).length=4∧nW (compW b)=W256-1-nW b:=by
  obtain⟨b0,b1,b2,b3,rfl⟩:=zgz hb;have e:∀x:UInt64,(maxU-x).toNat=18446744073709551615-x.toNat:=fun x=>by
    have hx:x.toNat<18446744073709551616:=x.toNat_lt;rw[UInt64.toNat_sub_of_le _ _ (by rw[UInt64.le_iff_toNat_le,maxU_n];omega),maxU_n]
  refine⟨rfl,?_⟩;show nW [maxU-b0,maxU-b1,maxU-b2,maxU-b3]=_;have k0:b0.toNat<18446744073709551616:=b0.toNat_lt;have k1:b1.toNat<18446744073709551616:=b1.toNat_lt;have k2:b2.toNat<18446744073709551616:=b2.toNat_lt;have k3:b3.toNat<18446744073709551616:=b3.toNat_lt;unfold nW W256;simp only[List.getD_cons_zero,List.getD_cons_succ,e];omega
theorem rsub_eq {a b:Wide} (ha:a.length=4) (hb:b.length=4):addW (addW a (compW b)) (ofW 1)=subW a b:=by
  obtain⟨c1,c2⟩:=compW_n hb;refine zhu (za6 (za6 ha c1) rfl) (zmB ha hb) ?_;rw[zjE (za6 ha c1) rfl,zjE ha c1,c2,(zvF ha hb).1];have h1:=zq3 ha;have h2:=zq3 hb;have h3:nW (ofW 1)=1:=rfl;rw[h3];unfold W256 at *;omega
theorem rsub_ok {a b:Wide} (ha:a.length=4) (hb:b.length=4):decide (0≤cmpW a b)=zsb a b:=by
  rw[Bool.eq_iff_iff,decide_eq_true_iff,(zvF ha hb).2,zp4 ha hb]
  split
  · omega
  split<;>omega
def hafF (a:Wide) (i:Nat):UInt64:=a.getD i default/2+(if i=3 then 0 else a.getD (i+1) default%2*zs1)
def hafN (a:Wide) (j:Nat):Wide:=(List.range j).foldl (fun l i=>l.set (3-i) (hafF a (3-i))) zaP
theorem hafN_succ {a:Wide} {j:Nat}:(hafN a j).set (3-j) (hafF a (3-j))=hafN a (j+1):=(zcZ (f:=fun (l:List UInt64) i=>l.set (3-i) (hafF a (3-i)))).symm
theorem haf_all {a:Wide} (ha:a.length=4):hafN a 4=zdG a 1:=by
  obtain⟨a0,a1,a2,a3,rfl⟩:=zgz ha;refine zhu rfl (zeA rfl) ?_;have h:=zjZ (a:=[a0,a1,a2,a3]) (n:=1) rfl yn;rw[show((1:Nat):Int)=1 from rfl] at h;rw[h];show nW [a0/2+a1%2*zs1,a1/2+a2%2*zs1,a2/2+a3%2*zs1,a3/2+0]=_;have h0:a0.toNat<18446744073709551616:=a0.toNat_lt;have h1:a1.toNat<18446744073709551616:=a1.toNat_lt;have h2:a2.toNat<18446744073709551616:=a2.toNat_lt;have h3:a3.toNat<18446744073709551616:=a3.toNat_lt;have t2:(2:UInt64).toNat=2:=rfl;have t9:=highU_n;have t0:(0:UInt64).toNat=0:=rfl;unfold nW;simp only[List.getD_cons_zero,List.getD_cons_succ,UInt64.toNat_add,UInt64.toNat_mul,UInt64.toNat_div,UInt64.toNat_mod,t2,t9,t0];omega
theorem down_step {a:Wide} {k:Nat} (ha:a.length=4) (hk:k+1<256):zdG (zdG a k) 1=zdG a ((k:Int)+1):=by
  refine zhu (zeA (zeA ha)) (zeA ha) ?_;have h1:=zjZ (n:=k) ha ya;have h2:=zjZ (n:=k+1) ha hk;have h3:=zjZ (n:=1) (zeA (n:=(k:Int)) ha) yn;rw[show((1:Nat):Int)=1 from rfl,h1,Nat.div_div_eq_div_mul,←Nat.pow_succ] at h3;rw[show((k+1:Nat):Int)=(k:Int)+1 by omega] at h2;rw[h3,h2]
theorem ztj {a:Wide} (ha:a.length=4):zdG a 0=a:=by
  refine zhu (zeA ha) ha ?_
  have:=zjZ (n:=0) ha yn
  rw[show((0:Nat):Int)=0 from rfl] at this;rw[this,Nat.pow_zero,Nat.div_one]
theorem up_zero {a:Wide} (ha:a.length=4):upW a 0=a:=by
  refine zhu (zjM ha) ha ?_
  have:=nW_up (n:=0) ha yn
  rw[show((0:Nat):Int)=0 from rfl] at this;rw[this,Nat.pow_zero,Nat.mul_one,Nat.mod_eq_of_lt (zq3 ha)]
theorem down_end {a:Wide} {n:Int} {k:Nat} (ha:a.length=4) (h:k=0∨(k:Int)≤n) (h2:¬(k:Int)<n):zdG a k=zdG a n:=by
  by_cases c:n<0
  · have hk:k=0:=by omega
    subst hk;rw[show((0:Nat):Int)=0 from rfl,ztj ha];unfold zdG;rw[ut c]
  rw[show(k:Int)=n by omega]
theorem up_end {a:Wide} {n:Int} {k:Nat} (ha:a.length=4) (h:k=0∨(k:Int)≤n) (h2:¬(k:Int)<n):upW a k=upW a n:=by
  by_cases c:n<0
  · have hk:k=0:=by omega
    subst hk;rw[show((0:Nat):Int)=0 from rfl,up_zero ha];unfold upW;rw[ut c]
  rw[show(k:Int)=n by omega]
theorem up_step {a:Wide} {k:Nat} (ha:a.length=4) (hk:k+1<256):addW (upW a k) (upW a k)=upW a ((k:Int)+1):=by
  refine zhu (za6 (zjM ha) (zjM ha)) (zjM ha) ?_;have h1:=nW_up (n:=k) ha ya;have h2:=nW_up (n:=k+1) ha hk;rw[show((k+1:Nat):Int)=(k:Int)+1 by omega] at h2;rw[zjE (zjM ha) (zjM ha),h1,h2,Nat.pow_succ,←Nat.mul_assoc];unfold W256;omega
theorem rhalf_ok (a:Wide):Tells P 259 [.val z7 a] (.val z7 (zdG a 1)):=by
 refine zc Tryz.func259 rfl rfl rfl (fun ext w hext=>?_);refine ze (d:=0) rfl zaS (fun ha=>?_);refine qae ?_;refine qaz ?_;refine CNQR ?_;refine qaz ?_;refine CNQR ?_;refine qcc ?_;refine Lp (ι:=Nat) 3 (fun (k:Nat)=>(((((Fr.none).set 1 (.ptr 0 0)).set 2 (.ptr 1 0)).set 3 (.ptr 2 0)).set 4 (.val u64T (if k=4 then 0 else a.getD k default%2*zs1))).set 5 (.val i64T ((k:Int)-1))) (fun (k:Nat)=>(((Hp.none).set 0 (.box 49 z7 a)).set 1 (.box 49 z7 zaP)).set 2 (.box 49 z7 (hafN a (4-k)))) (fun (k:Nat)=>k≤4) (fun (k:Nat)=>k) (4) (ug _) ?_;intro k hinv;refine qaF ?_;refine qb9 ?_;refine Cf (p:=0<k) (fun ht7=>?_) (fun ht7=>?_)
 ·
  refine qdm ?_;refine xz ?_;refine xA ?_;refine A0 (zoo rfl rfl rfl yn) ?_;refine qau ?_;refine xd ?_;refine xz ?_;refine zg rfl rfl rfl rfl rfl (Lens.elem (i:=k-1) ya u64T) za9 rfl ?_;refine CNR ?_;refine qau ?_;refine xz ?_;refine xA ?_;refine A0 (zrk rfl rfl rfl yn) ?_;refine A0 (zh5 rfl rfl rfl) ?_;refine A0 aV ?_;refine CNIR ?_;refine qbS ?_;refine qac ?_;refine zJ (n:=2) (y:=hafN a (4-(k-1))) rfl (by rw[show 4-(k-1)=4-k+1 by omega,←hafN_succ,show 3-(4-k)=k-1 by omega];unfold hafF;congr 2;rw[show k-1+1=k by omega];split<;>split<;>first|rfl|omega) ?_;refine zj (d:=4) (y:=(if k-1=4 then 0 else a.getD (k-1) default%2*zs1)) rfl (by rw[ur ya];rfl) ?_;refine zj (d:=5) (y:=((k-1:Nat):Int)-1) rfl ya ?_;exact Nx (k-1) ya ya
 obtain rfl:k=0:=ya;refine CE ?_;refine qb7 ?_;exact zF rfl rfl rfl rfl zal (haf_all ha)
theorem rdownW_ok (a:Wide) (n:Int):Tells P 199 [.val z7 a,.val i64T n] (.val z7 (zdG a n)):=by
 refine zc Tryz.func199 rfl rfl rfl (fun ext w hext=>?_);refine ze (d:=1) rfl zu (fun hin1=>?_);refine ze (d:=0) rfl zaS (fun ha=>?_);refine qae ?_;refine qaz ?_;refine qbe ?_;refine qb9 ?_;refine Cf (p:=256≤n) (fun ht7=>?_) (fun ht7=>?_)
 ·
  refine qaM ?_;refine CN ?_;exact zF rfl rfl rfl rfl zal (by unfold zdG;rw[ur ya,ut ht7])
 refine CSQQR ?_;refine qbQ ?_;refine zJ (n:=0) (y:=zdG a ((0:Nat):Int)) rfl (ztj ha).symm ?_;refine Lp (ι:=Nat) 2 (fun (k:Nat)=>((((Fr.none).set 1 (.val i64T n)).set 2 (.ptr 0 0)).set 4 (.ptr 1 0)).set 5 (.val i64T (k:Int))) (fun (k:Nat)=>((Hp.none).set 0 (.box 49 z7 (zdG a (k:Int)))).set 1 (.box 49 z7 zaP)) (fun (k:Nat)=>k=0∨(k:Int)≤n) (fun (k:Nat)=>n.toNat-k) (0) (.inl rfl) ?_;intro k hinv;refine qaW ?_;refine qav ?_;refine Cf (p:=(k:Int)<n) (fun ht11=>?_) (fun ht11=>?_)
 ·
  refine qa8 ?_;refine CR ?_;refine qa4 ?_;refine A0 (oCl (rhalf_ok (zdG a k)) rfl fn_259 yc) ?_;refine qag ?_;refine qaK ?_;refine zJ (n:=0) (y:=zdG a ((k+1:Nat):Int)) rfl (by rw[down_step ha ya];congr 1) ?_;exact Nx (k+1) (.inr ya) ya
 refine CE ?_;refine qb7 ?_;exact zF rfl rfl rfl rfl zal (down_end ha hinv ht11)
theorem rupW_ok (a:Wide) (n:Int):Tells P 196 [.val z7 a,.val i64T n] (.val z7 (upW a n)):=by
 refine zc Tryz.func196 rfl rfl rfl (fun ext w hext=>?_);refine ze (d:=1) rfl zu (fun hin1=>?_);refine ze (d:=0) rfl zaS (fun ha=>?_);refine qae ?_;refine qaz ?_;refine qbe ?_;refine qb9 ?_;refine Cf (p:=256≤n) (fun ht9=>?_) (fun ht9=>?_)
 ·
  refine qaM ?_;refine CN ?_;exact zF rfl rfl rfl rfl zal (by unfold upW;rw[ur ya,ut ht9])
 refine CSQQR ?_;refine qbQ ?_;refine zJ (n:=0) (y:=upW a ((0:Nat):Int)) rfl (up_zero ha).symm ?_;refine Lp (ι:=Nat) 2 (fun (k:Nat)=>((((Fr.none).set 1 (.val i64T n)).set 2 (.ptr 0 0)).set 4 (.ptr 1 0)).set 5 (.val i64T (k:Int))) (fun (k:Nat)=>((Hp.none).set 0 (.box 49 z7 (upW a (k:Int)))).set 1 (.box 49 z7 zaP)) (fun (k:Nat)=>k=0∨(k:Int)≤n) (fun (k:Nat)=>n.toNat-k) (0) (.inl rfl) ?_;intro k hinv;refine qaW ?_;refine qav ?_;refine Cf (p:=(k:Int)<n) (fun ht13=>?_) (fun ht13=>?_)
 ·
  refine CSQBQR ?_;refine qdw ?_;refine A0 (oCl (zdX (upW a k) (upW a k)) rfl zin ye) ?_;refine qcD ?_;refine qbX ?_;refine qa4 ?_;refine qag ?_;refine qaK ?_;refine zJ (n:=0) (y:=upW a ((k+1:Nat):Int)) rfl (by rw[up_step ha ya];congr 1) ?_;exact Nx (k+1) (.inr ya) ya
 refine CE ?_;refine qb7 ?_;exact zF rfl rfl rfl rfl zal (up_end ha hinv ht13)
def dvU (x:UInt64) (m:Nat):UInt64:=UInt64.ofNat (x.toNat/256^m)
theorem dvU_n (x:UInt64) (m:Nat):(dvU x m).toNat=x.toNat/256^m:=by
  have hx:x.toNat<18446744073709551616:=x.toNat_lt;unfold dvU;rw[UInt64.toNat_ofNat_of_lt' (by show _<18446744073709551616;have:=Nat.div_le_self x.toNat (256^m);omega)]
theorem dvU_succ (x:UInt64) (m:Nat):dvU x m/256=dvU x (m+1):=by
  apply UInt64.toNat_inj.1;rw[UInt64.toNat_div,dvU_n,dvU_n,Nat.pow_succ,←Nat.div_div_eq_div_mul];rfl
theorem dvU_zero (x:UInt64):dvU x 0=x:=by
  apply UInt64.toNat_inj.1;rw[dvU_n,Nat.pow_zero,Nat.div_one]
def rbyN (a:Wide) (j:Nat):Ab.Id:=(List.range j).foldl (fun l i=>l.set (31-i) (zrC a (31-i))) zId
theorem rbyN_succ {a:Wide} {j:Nat}:(rbyN a j).set (31-j) (zrC a (31-j))=rbyN a (j+1):=(zcZ (f:=fun (l:List UInt8) i=>l.set (31-i) (zrC a (31-i)))).symm
theorem rby_gen (f:Nat→UInt8):(List.range 32).foldl (fun (l:Ab.Id) i=>l.set (31-i) (f (31-i))) zId=(List.range 32).map f:=yv
theorem rby_all {a:Wide}:rbyN a 32=zeR a:=rby_gen (zrC a)
theorem rby_at {a:Wide} {k:Nat} (hk:k<32):zaL (IntL.toI u64T (dvU (a.getD (k/8) default) (k%8)%256))=zrC a (31-k):=by
  unfold zrC;rw[show 3-(31-k)/8=k/8 by omega,show(56-8*(((31-k:Nat):Int)%8)).toNat=8*(k%8) by omega];have e:zaF (a.getD (k/8) default) (8*(k%8))=dvU (a.getD (k/8) default) (k%8):=by
    unfold zaF dvU;rw[Nat.min_eq_left ya,Nat.pow_mul]
  rw[e];unfold zaL;congr 2;show(((dvU (a.getD (k/8) default) (k%8)%256).toNat:Nat):Int)%256=(((dvU (a.getD (k/8) default) (k%8)).toNat:Nat):Int)%256;rw[UInt64.toNat_mod,show(256:UInt64).toNat=256 from rfl];omega
theorem zpE (a:Wide):Tells P 146 [.val z7 a] (.val idT (zeR a)):=by
 refine zc Tryz.func146 rfl rfl rfl (fun ext w hext=>?_);refine ze (d:=0) rfl zaS (fun ha=>?_);refine qae ?_;refine qaB ?_;refine CNQR ?_;refine qaB ?_;refine qaw ?_;refine Lp (ι:=Nat) 3 (fun (k:Nat)=>((((Fr.none).set 1 (.ptr 0 0)).set 2 (.ptr 1 0)).set 3 (.ptr 2 0)).set 4 (.val i64T (k:Int))) (fun (k:Nat)=>(((Hp.none).set 0 (.box 49 z7 a)).set 1 (.box 46 idT zId)).set 2 (.box 46 idT (rbyN a k))) (fun (k:Nat)=>k≤32) (fun (k:Nat)=>32-k) (0) (uf _) ?_;intro k hinv;refine qaF ?_;refine qav ?_;refine Cf (p:=k<32) (fun ht8=>?_) (fun ht8=>?_)
 ·
  refine qbh ?_;refine qb8 ?_;refine A0 (zG (i:=k/8) rfl rfl rfl yi zbf ya) ?_;refine A0 (zy rfl rfl rfl (Lens.elem (i:=k/8) ya u64T) za9) ?_;refine qcc ?_;refine zj (d:=5) (y:=dvU (a.getD (k/8) default) 0) rfl (dvU_zero _).symm ?_;refine Lp (ι:=Nat) 3 (fun m=>(((((Fr.none.set 1 (.ptr 0 0)).set 2 (.ptr 1 0)).set 3 (.ptr 2 0)).set 4 (.val i64T (k:Int))).set 5 (.val u64T (dvU (a.getD (k/8) default) m))).set 6 (.val i64T (m:Int))) (fun m=>((Hp.none.set 0 (.box 49 z7 a)).set 1 (.box 46 idT zId)).set 2 (.box 46 idT (rbyN a k))) (fun m=>m≤k%8) (fun m=>k%8-m) (0) (uf _) ?_;intro m hin;refine qaW ?_;refine qbn ?_;refine qav ?_;refine zq (p:=m<k%8) rfl yax (fun ht18=>?_) (fun ht18=>?_)
  ·
   refine qa8 ?_;refine CR ?_;refine qau ?_;refine A0 (zoo rfl rfl rfl yn) ?_;refine A0 aV ?_;refine qaK ?_;refine zj (d:=5) (y:=dvU (a.getD (k/8) default) (m+1)) rfl (dvU_succ _ _) ?_;exact Nx (m+1) ya ya
  obtain rfl:m=k%8:=ya;refine CE ?_;refine CR ?_;refine qbS ?_;refine qau ?_;refine A0 (zrk rfl rfl rfl yn) ?_;refine qbU ?_;refine A0 (zG (i:=31-k) rfl rfl rfl yi zfj ya) ?_;refine zg rfl rfl rfl rfl rfl (Lens.elem (i:=31-k) ya u8T) ty_5 rfl ?_;refine qaK ?_;refine zJ (n:=2) (y:=rbyN a (k+1)) rfl (by rw[←rbyN_succ,←rby_at ht8];rfl) ?_;exact Nx (k+1) ya ya
 obtain rfl:k=32:=ya;refine qdl ?_;refine qb4 ?_;refine qaq ?_;exact zF rfl rfl rfl rfl zab (rby_all)
theorem rmleaf_ok (id:Ab.Id) (w:Wide):Tells P 247 [.val idT id,.val z7 w] (.val zaC (leafT id w)):=by
 refine zc Tryz.func247 rfl rfl rfl (fun ext w hext=>?_);refine qa3 ?_;refine qce ?_;refine CNQR ?_;refine qb4 ?_;refine qa4 ?_;refine A0 (zB rfl zlX zqe (.cons zdZ zc1 zab rfl (.cons zic zgw zal rfl (.cons zde zcr ty_3 rfl .nil))) rfl) ?_;refine qbb ?_;refine CN ?_;exact zF rfl rfl rfl rfl zbq (rfl)
theorem zkx (t:Total) (hh:t.h.length=32):Tells P 296 [.val zaC t] (.fresh 5 u8T (zdk t)):=by
 refine zc Tryz.func296 rfl rfl rfl (fun ext w hext=>?_);refine qca ?_;refine CNQR ?_;refine qcY ?_;refine A0 (oCl (zpE _) rfl fn_146 yc) ?_;refine qbV ?_;refine qcX ?_;refine zeF (d:=3) rfl rfl (Lens.self _) ?_;have hbl:=zc5 t.w;have hn:=zE (zL (IntL.toI i64T t.n)) 4;refine CR ?_;refine A0 (oFr zdZ zc1) ?_;refine qbH ?_;refine zcE rfl rfl rfl rfl rfl rfl zaE (by simp[hh,hbl,hn]) ?_;refine qby ?_;refine qbH ?_;refine zo rfl rfl rfl rfl rfl rfl rfl zaE (by simp[hh,hbl,hn]) ?_;refine qby ?_;refine A0 (oFr zde zcr) ?_;refine qaR ?_;refine qdq ?_;refine A0 (oCl (zC (zjW _ 4 yn)) rfl zuj ye) ?_;refine zo rfl rfl rfl rfl rfl rfl rfl zaE (by simp[hh,hbl,hn]) ?_;refine qbJ ?_;exact zd rfl rfl (zf rfl rfl (by unfold zdk;simp))
theorem zvl (a b:Total):Tells P 246 [.val zaC a,.val zaC b] (.val zaC (zh2 a b)):=by
 refine zc Tryz.func246 rfl rfl rfl (fun ext w hext=>?_);refine ze (d:=0) rfl zjp (fun ha=>?_);refine ze (d:=1) rfl zjp (fun hb=>?_);refine qa3 ?_;refine qce ?_;refine CNQR ?_;refine qcY ?_;refine qcY ?_;refine A0 (oCl (zdX _ _) rfl zin ye) ?_;refine qcD ?_;refine qaY ?_;refine zH [some 1,some 1,some 1,some 1,some 1,some 1,some 1,some 1,some 1,some 1,some 1,some 1,some 1,some 1,none] mixed yd ?_;refine qdp ?_;refine X0 (oLs rfl rfl rfl zbq) ?_;refine X0 (zmf (T:=sl u8T) (S:=bsl u8T) (zdC (zC (zkx a ha.1)) rfl fn_296 yc rfl)) ?_;refine X0 (oLs rfl rfl rfl zbq) ?_;refine X0 (zmf (T:=sl u8T) (S:=bsl u8T) (zdC (zC (zkx b hb.1)) rfl fn_296 yc rfl)) ?_;refine qc1 ?_;refine X0 (oCl (zvj [[3],zdk a,zdk b] (by simp[zfI ha.1,zfI hb.1])) rfl zv9 yc) ?_;refine qcE ?_;refine X0 (oFp zde) ?_;refine X0 (oLb zcr ty_3) ?_;refine X0 (oFp zde) ?_;refine X0 (oLb zcr ty_3) ?_;refine X0 zcn ?_;refine X0 (zB rfl zlX zqe (.cons zdZ zc1 zab rfl (.cons zic zgw zal rfl (.cons zde zcr ty_3 rfl .nil))) rfl) ?_;refine XK.e (x:=.idk) (fun fr' hfr kk H=>by exact zg rfl rfl rfl ((hfr 4 yd).trans rfl) rfl (Lens.self _) zbq ((hfr 28 yd).trans rfl) (zM H)) ?_;refine XK.nil' ?_;exact zF rfl rfl rfl rfl zbq (by unfold zh2;simp)
theorem rallNil_ok:Tells P 245 [.val (bsl zaC) []] (.val zaC (zbl [])):=by
 refine zc Tryz.func245 rfl rfl rfl (fun ext w hext=>?_);refine ze (d:=0) rfl zi (fun hsl0=>?_);refine CQR ?_;refine qce ?_;refine qbe ?_;refine xD ?_;refine A0 zbZ ?_;refine CN ?_;refine Ct ?_;refine CQR ?_;refine qa5 ?_;refine A0 (oCl (zmF [4] yn) rfl zv5 yc) ?_;refine A0 (zB rfl zlX zqe (.cons zdZ zc1 zab rfl .nil) rfl) ?_;refine qbb ?_;refine CN ?_;exact zF rfl rfl rfl rfl zbq (znZ.symm)
theorem znJ (p:List Total) (hp:p.length≤1000000):Tells P 186 [.val (bsl zaC) p] (.val zaC (zbl p)):=by
 refine zc Tryz.func186 rfl rfl rfl (fun ext w hext=>?_);refine ze (d:=0) rfl zi (fun hsl0=>?_);refine CQR ?_;refine qce ?_;refine qbe ?_;refine xD ?_;refine A0 zbZ ?_;refine CN ?_;refine Cf (p:=p.length=0) (fun ht7=>?_) (fun ht7=>?_)
 ·
  obtain rfl:p=[]:=List.length_eq_zero_iff.1 ht7;refine CQR ?_;refine A0 (oCl (rallNil_ok) rfl fn_245 ycg) ?_;refine qbb ?_;refine CN ?_;exact zF rfl rfl rfl rfl zbq (rfl)
 obtain⟨n,hn⟩:∃n,p.length=n+1:=⟨p.length-1,by omega⟩;obtain⟨x0,hx0⟩:∃x,p[n]?=some x:=yq;have hroot:=zpJ hn hx0;refine qcz ?_;refine xD ?_;refine A0 za5 ?_;refine A0 (zr (i:=n) rfl rfl rfl ya zfK yh) ?_;refine A0 (zh rfl rfl zbq) ?_;refine qce ?_;refine qbb ?_;refine qbe ?_;refine xD ?_;refine A0 za5 ?_;refine qbQ ?_;refine zj (d:=4) (y:=(n:Int)-1) rfl (by rw[hn];simp;omega) ?_;refine Lp (ι:=Nat×Total) 2 (fun(k,y)=>(((Fr.none.set 0 (.val (bsl zaC) p)).set 2 (.ptr 0 0)).set 3 (.ptr 1 0)).set 4 (.val i64T ((k:Int)-1))) (fun(k,y)=>(Hp.none.set 0 (.box 164 zaC zuT)).set 1 (.box 164 zaC y)) (fun(k,y)=>k≤n∧zbl p=zcJ (p.take k).reverse y) (fun(k,y)=>k) ((n,x0)) (⟨ug _,hroot⟩) ?_;intro⟨k,y⟩ hinv;dsimp only at hinv;refine qaF ?_;refine qb9 ?_;refine Cf (p:=0<k) (fun ht19=>?_) (fun ht19=>?_)
 ·
  obtain⟨x,hx⟩:∃x,p[k-1]?=some x:=yq;refine qa8 ?_;refine zH [some 1,some 1,some 1,some 1,some 1,some 1,none] mixed yd ?_;refine qbG ?_;refine X0 (zr (i:=k-1) rfl rfl rfl ya zfK yh) ?_;refine X0 (zh rfl rfl zbq) ?_;refine X0 (oLs rfl rfl rfl zbq) ?_;refine X0 (oCl (zvl _ _) rfl fn_246 yci) ?_;refine XK.e (x:=.idk) (fun fr' hfr kk H=>by exact zg rfl rfl rfl ((hfr 3 yd).trans rfl) rfl (Lens.self _) zbq ((hfr 27 yd).trans rfl) (zM H)) ?_;refine qaX ?_;refine qbS ?_;refine qac ?_;refine zj (d:=4) (y:=((k-1:Nat):Int)-1) rfl ya ?_;exact Nx ((k-1,zh2 x y)) (⟨by omega,by rw[hinv.2,show k=k-1+1 by omega,zky hx];rfl⟩) (by show k-1<k;omega)
 obtain rfl:k=0:=ya;refine qdl ?_;refine A0 (oLs rfl rfl rfl zbq) ?_;refine qbb ?_;refine CN ?_;exact zF rfl rfl rfl rfl zbq (by rw[hinv.2];rfl)
theorem zkz (p:List Total) (leaf:Total) (hp:p.length≤1000000):Tells P 187 [.val (bsl zaC) p,.val zaC leaf] (.val (sl zaC) (zay p leaf)):=by
 refine zc Tryz.func187 rfl rfl rfl (fun ext w hext=>?_);refine ze (d:=0) rfl zi (fun hsl0=>?_);refine qca ?_;refine qcZ ?_;refine zcE rfl rfl rfl rfl rfl rfl zgK yS ?_;refine qby ?_;refine A0 (oLs rfl rfl rfl zbq) ?_;refine A0 (zag (T:=zaC) (xs:=[_]) rfl zfK zgK yx rfl rfl) ?_;refine zo rfl rfl rfl rfl rfl rfl rfl zgK yS ?_;refine A0 aO ?_;refine CNQ ?_;refine CB ?_;refine zfh (d:=5) rfl rfl ?_;refine zj (d:=5) (y:=p.reverse.reverse++[leaf]) rfl yw ?_;refine Lp (ι:=List Total×Total) 1 (fun(r,x)=>(Fr.none.set 3 (.ptr 0 0)).set 5 (.val (sl zaC) (r.reverse++[x]))) (fun(r,x)=>Hp.none.set 0 (.box 164 zaC leaf)) (fun(r,x)=>r.length≤1000000∧zg4 r x=zg4 p.reverse leaf) (fun(r,x)=>r.length) ((p.reverse,leaf)) (⟨by simp;omega,rfl⟩) ?_;intro⟨r,x⟩ hinv;dsimp only at hinv;have hlen:(r.reverse++[x]).length=r.length+1:=yw;refine CQ ?_;refine qaG ?_;refine G0 mV ?_;refine G0 (zat rfl rfl zgS) ?_;refine G0 zer ?_;refine G0 mV ?_;refine zbW (d:=17) (p:=¬r=[]) rfl (by rw[uo];show(2:Int)≤(((r.reverse++[x]).length:Nat):Int)↔_;rw[←List.length_eq_zero_iff];omega) (fun g17=>?_) (fun g17=>?_)
 ·
  obtain⟨y,s,hr⟩:∃y s,r=y::s:=by cases r with|nil=>exact absurd rfl g17|cons y s=>exact⟨y,s,rfl⟩
  have hrl:r.length=s.length+1:=by rw[hr];rfl
  have hx1:(r.reverse++[x])[s.length]?=some y:=by rw[hr];simp
  have hx2:(r.reverse++[x])[s.length+1]?=some x:=by rw[List.getElem?_append_right (by simp[hrl])];simp[hrl]
  refine G1 mV ?_;refine G1 mV ?_;refine G1 (zat rfl rfl zgS) ?_;refine G1 za5 ?_;refine G1 (zr (i:=s.length+1) rfl rfl rfl ya zfK yh) ?_;refine G1 (oFr zde zcr) ?_;refine G1 (zh rfl rfl ty_3) ?_;refine G1 mV ?_;refine G1 mV ?_;refine G1 (zat rfl rfl zgS) ?_;refine G1 za5 ?_;refine G1 (zr (i:=s.length) rfl rfl rfl ya zfK yh) ?_;refine G1 (oFr zde zcr) ?_;refine G1 (zh rfl rfl ty_3) ?_;refine G1 zbZ ?_;refine qcg ?_;refine zq (p:=x.n=y.n) rfl yN (fun ht33=>?_) (fun ht33=>?_)
  ·
   refine CS ?_;refine CB ?_;refine qa7 ?_;refine xD ?_;refine qaY ?_;refine zH [some 1000001,some 1000001,some 1000001,some 1000001,some 1000001,some 1000001,some 1000001,some 1000001,some 1000001,some 1000001,some 1000001,none,none] mixed yd ?_;refine XK.ga (fun _=>g_mv (.inl rfl) rfl) rfl rfl rfl ?_;refine XK.ga (fun _=>g_mv (.inl rfl) rfl) rfl rfl rfl ?_;refine XK.ga ybz rfl rfl rfl ?_;refine XK.ga (fun _=>zr (i:=s.length) rfl rfl rfl ya zfK yh) rfl rfl rfl ?_;refine XK.ga (fun _=>zh rfl rfl zbq) rfl rfl rfl ?_;refine XK.ga (fun _=>g_mv (.inl rfl) rfl) rfl rfl rfl ?_;refine XK.ga (fun _=>g_mv (.inl rfl) rfl) rfl rfl rfl ?_;refine XK.ga ybz rfl rfl rfl ?_;refine XK.ga (fun _=>zr (i:=s.length+1) rfl rfl rfl ya zfK yh) rfl rfl rfl ?_;refine XK.ga (fun _=>zh rfl rfl zbq) rfl rfl rfl ?_;refine XK.ga (fun _=>zdC (zvl y x) rfl fn_246 ⟨yb,yb,trivial⟩ rfl) rfl rfl rfl ?_;refine XK.e (fun fr' hfr kk H=>by exact z8 zlX rfl rfl rfl rfl (zM H)) ?_;refine XK.e (x:=.idk) (fun fr' hfr kk H=>by exact zg rfl rfl rfl ((hfr 7 yd).trans rfl) rfl (Lens.self _) zbq ((hfr 46 yd).trans rfl) (zM H)) ?_;refine XK.nil' ?_;refine zH [some 1,some 1,some 1,some 1,none,some 2,some 2,none,some 1] mixed yd ?_;refine qbG ?_;refine X0 za5 ?_;refine X0 ya5 ?_;refine XK.e (fun fr' hfr kk H=>by exact zcE rfl rfl rfl rfl rfl ((hfr 50 yd).trans rfl) zgK yS (zM H)) ?_;refine XK.gb (t:=7) rfl rfl (fun _ he=>zy rfl rfl he (Lens.self _) zbq) rfl ⟨hpB rfl rfl,hpB rfl rfl,trivial⟩ rfl rfl rfl ?_;refine XK.g2 (zag (T:=zaC) (xs:=[_]) rfl zfK zgK yx rfl rfl) (zag (T:=zaC) (xs:=[_]) rfl zfK zgK yx rfl rfl) rfl rfl rfl ?_;refine XK.e (fun fr' hfr kk H=>by exact zo rfl rfl rfl rfl ((hfr 51 yd).trans rfl) rfl ((hfr 53 yd).trans rfl) zgK yS (zM H)) ?_;refine X0 aO ?_;refine XK.nil' ?_;refine CI ?_;refine zfh (d:=5) rfl rfl ?_;refine zj (d:=5) (y:=s.reverse++[zh2 y x]) rfl (by simp[hr,List.take_append]<;>exact uc yw) ?_;exact Nx ((s,zh2 y x)) (⟨by omega,by rw[←hinv.2,hr,zg4,ut ht33.symm]⟩) (by show s.length<r.length;omega)
  refine qcu ?_;refine qac ?_;exact zd rfl rfl (za rfl (by unfold zay;rw[←hinv.2,hr,zg4,ur (fun h=>ht33 h.symm)];simp))
 refine qal ?_;refine qal ?_;refine qcF ?_;refine qcg ?_;refine Cg ?_;refine qcu ?_;refine qac ?_;exact zd rfl rfl (za rfl (by unfold zay;rw[←hinv.2,ua g17];rfl))
theorem zmG (a b:Wide):Tells P 339 [.val z7 a,.val z7 b] (.tup2 (.val z7 (subW a b)) (.val zs (zsb a b))):=by
 refine zc Tryz.func339 rfl rfl rfl (fun ext w hext=>?_);refine ze (d:=0) rfl zaS (fun ha=>?_);refine ze (d:=1) rfl zaS (fun hb=>?_);refine qa3 ?_;refine qaz ?_;refine qah ?_;refine qaz ?_;refine qaw ?_;refine Lp (ι:=Nat) 4 (fun (k:Nat)=>(((((Fr.none).set 2 (.ptr 0 0)).set 3 (.ptr 1 0)).set 4 (.ptr 2 0)).set 6 (.ptr 3 0)).set 7 (.val i64T (k:Int))) (fun (k:Nat)=>((((Hp.none).set 0 (.box 49 z7 a)).set 1 (.box 49 z7 b)).set 2 (.box 49 z7 zaP)).set 3 (.box 49 z7 (setN (compF b) zaP k))) (fun (k:Nat)=>k≤4) (fun (k:Nat)=>4-k) (0) (uf _) ?_;intro k hinv;refine qaF ?_;refine qav ?_;refine Cf (p:=k<4) (fun ht13=>?_) (fun ht13=>?_)
 ·
  refine qa8 ?_;refine CR ?_;refine qad ?_;refine xH ?_;refine A0 (zy rfl rfl rfl (Lens.elem (i:=k) ya u64T) za9) ?_;refine A0 (g_sub64 rfl rfl rfl) ?_;refine xH ?_;refine xI ?_;refine qaK ?_;refine zJ (n:=3) (y:=setN (compF b) zaP (k+1)) rfl (by rw[←zf9];unfold compF maxU;rfl) ?_;exact Nx (k+1) ya ya
 obtain rfl:k=4:=ya;obtain⟨c,hc⟩:∃c,c=compW b:=⟨_,rfl⟩;obtain⟨o,ho⟩:∃o,o=ofW (UInt64.ofNat (Int.toNat 1)):=⟨_,rfl⟩;have hof:=zlu (UInt64.ofNat (Int.toNat 1));rw[←ho] at hof;obtain⟨x1,hx1⟩:∃x,x=addW a c:=⟨_,rfl⟩;have h1:=zdX a c;rw[←hx1] at h1;obtain⟨x2,hx2⟩:∃x,x=addW x1 o:=⟨_,rfl⟩;have h2:=zdX x1 o;rw[←hx2] at h2;refine CE ?_;refine CQ ?_;refine zJ (n:=3) (y:=c) rfl ((zkt rfl).trans hc.symm) ?_;refine CR ?_;refine qdw ?_;refine A0 (oCl (h1) rfl zin ye) ?_;refine qcD ?_;refine qaY ?_;refine xB ?_;refine XK.gf (t:=8) rfl rfl (fun _ he=>zy rfl rfl he (Lens.self _) zal) ⟨hpB rfl rfl,trivial⟩ rfl rfl rfl ?_;refine XK.ga (fun _=>zdC (hof) rfl zpU yc rfl) rfl rfl rfl ?_;refine XK.ga (fun _=>zdC (h2) rfl zin ye rfl) rfl rfl rfl ?_;refine XK.ga yo rfl rfl rfl ?_;refine XK.ga yaj rfl rfl rfl ?_;refine xy ?_;refine XK.e (fun fr' hfr kk H=>by exact z8 ziy rfl rfl rfl rfl (zM H)) ?_;refine XK.e (x:=.idk) (fun fr' hfr kk H=>by exact zg rfl rfl rfl ((hfr 10 yd).trans rfl) rfl (Lens.self _) zal ((hfr 32 yd).trans rfl) (zM H)) ?_;refine X0 aV ?_;refine xJ ?_;refine CQ ?_;refine zH [some 1,some 1,some 1,some 1,some 1000001,none,some 1] mixed yd ?_;refine qcE ?_;refine qcE ?_;refine qcE ?_;refine X0 (oCl (zmM _ _) rfl zwa ye) ?_;refine XK.ga (fun _=>g_geq rfl rfl rfl rfl) rfl rfl rfl ?_;refine XK.e (x:=.idk) (fun fr' hfr kk H=>by exact zg rfl rfl rfl ((hfr 4 yd).trans rfl) rfl (Lens.self _) zal ((hfr 34 yd).trans rfl) (zM H)) ?_;refine X0 aV ?_;refine XK.nil' ?_;exact zn rfl rfl (zt rfl rfl zal (by rw[hx2,hx1,hc,ho];exact rsub_eq ha hb)) (zS (za rfl (by rw[←rsub_ok ha hb,uo];rfl)))
theorem zu2 (bits:UInt32):IntL.toI u32T (bits/16777216)=tgtE bits:=by
  show(((bits/16777216).toNat:Nat):Int)=(((zel bits 24).toNat:Nat):Int);have hx:bits.toNat<4294967296:=bits.toNat_lt;unfold zel;rw[UInt32.toNat_div,UInt32.toNat_ofNat_of_lt' (by show _<4294967296;have:=Nat.div_le_self bits.toNat (2^min 24 32);omega)];rfl
theorem tgtM_rem (bits:UInt32):zL (IntL.toI u32T (bits%16777216))=tgtM bits:=by
  unfold tgtM;congr 2;apply UInt32.toNat_inj.1;rw[UInt32.toNat_mod,UInt32.toNat_and];show bits.toNat%16777216=bits.toNat&&&(2^24-1);rw[Nat.and_two_pow_sub_one_eq_mod]
theorem zlr (bits:UInt32):Tells P 138 [.val u32T bits] (.tup2 (.val z7 (tgtW bits)) (.val zs (zbh bits))):=by
 have he0:0≤tgtE bits:=Int.natCast_nonneg _;have heL:tgtE bits<4294967296:=ycC;refine zc Tryz.func138 rfl rfl rfl (fun ext w hext=>?_);refine CQR ?_;refine qaz ?_;refine qaA ?_;refine A0 (zj1 rfl rfl rfl yn) ?_;refine A0 (zhy rfl (ui_3) (znk) rfl (zah (by have e:IntL.toI u32T (bits/UInt32.ofNat (Int.toNat 16777216))=tgtE bits:=zu2 bits;rw[e];omega))) ?_;refine zj (d:=8) (y:=tgtE bits) rfl (zu2 bits) ?_;refine qaA ?_;refine A0 (zrl rfl rfl rfl yn) ?_;refine A0 (zfc rfl (zlk) (znk) rfl) ?_;refine zj (d:=11) (y:=tgtM bits) rfl (tgtM_rem bits) ?_;refine qaj ?_;refine A0 zbb ?_;refine qau ?_;refine Sp (d:=14) (p:=tgtE bits<3) (fun g14=>?_) (fun g14=>?_)
 ·
  refine qaE ?_;refine qaf ?_;refine qbB ?_;refine qao ?_;refine Ct ?_;refine qaM ?_;refine qac ?_;exact zn rfl rfl (zt rfl rfl zal yX) (zS (za rfl yar))
 refine A1 mV ?_;refine qdo ?_;refine qaf ?_;refine Sp (d:=18) (p:=32<tgtE bits) (fun g18=>?_) (fun g18=>?_)
 ·
  refine qaE ?_;refine qao ?_;refine Ct ?_;refine qaM ?_;refine qac ?_;exact zn rfl rfl (zt rfl rfl zal yX) (zS (za rfl yar))
 refine A1 mV ?_;refine A1 zbb ?_;refine qaf ?_;refine zX (d:=22) (p:=(tgtM bits).toNat<32768) rfl (by rw[uo];show((tgtM bits).toNat:Int)<(32768:Int)↔_;omega) (fun g22=>?_) (fun g22=>?_)
 ·
  refine qbB ?_;refine qao ?_;refine Ct ?_;refine qaM ?_;refine qac ?_;exact zn rfl rfl (zt rfl rfl zal yX) (zS (za rfl yar))
 refine A1 mV ?_;refine qdo ?_;refine qao ?_;refine zq (p:=8388608≤(tgtM bits).toNat) rfl (by rw[uo];show(8388607:Int)<((tgtM bits).toNat:Int)↔_;omega) (fun ht25=>?_) (fun ht25=>?_)
 ·
  refine qaM ?_;refine qac ?_;exact zn rfl rfl (zt rfl rfl zal yX) (zS (za rfl yar))
 refine qbw ?_;refine A0 (oCl (zlu (tgtM bits)) rfl zpU yc) ?_;refine qau ?_;refine A0 (zj0 rfl rfl rfl (show _=(tgtE bits-3:Int) from(zah ya).trans ya)) ?_;refine A0 (g_mul rfl rfl rfl (show _=(8*(tgtE bits-3):Int) from(zah ya).trans ya)) ?_;refine A0 (oCl (rupW_ok (ofW (tgtM bits)) (8*(tgtE bits-3))) rfl fn_196 ye) ?_;refine qag ?_;refine qac ?_;exact zn rfl rfl (zt rfl rfl zal (by unfold tgtW;rw[ut yan])) (zS (za rfl (by unfold zbh;symm;apply ui;omega)))
def incW (w:Wide):Wide:=w.set 0 (w.getD 0 default+1)
theorem zmW {w:Wide} (h:w.length=4):(incW w).length=4:=by unfold incW;rw[List.length_set];exact h
theorem incW_n {w:Wide} (h:w.length=4) (he:nW w%2=0):nW (incW w)=nW w+1:=by
  obtain⟨a0,a1,a2,a3,rfl⟩:=zgz h;have h0:a0.toNat<18446744073709551616:=a0.toNat_lt;unfold nW at he;simp only[List.getD_cons_zero,List.getD_cons_succ] at he;show nW [a0+1,a1,a2,a3]=_;unfold nW;simp only[List.getD_cons_zero,List.getD_cons_succ];have e:(a0+1).toNat=a0.toNat+1:=by
    rw[UInt64.toNat_add];show(a0.toNat+1)%18446744073709551616=_;omega
  rw[e];omega
theorem hiBit_n {w:Wide} (h:w.length=4):9223372036854775808≤(w.getD 3 default).toNat↔57896044618658097711785492504343953926634992332820282019728792003956564819968≤nW w:=by
  obtain⟨a0,a1,a2,a3,rfl⟩:=zgz h;have h0:a0.toNat<18446744073709551616:=a0.toNat_lt;have h1:a1.toNat<18446744073709551616:=a1.toNat_lt;have h2:a2.toNat<18446744073709551616:=a2.toNat_lt;have h3:a3.toNat<18446744073709551616:=a3.toNat_lt;unfold nW;simp only[List.getD_cons_zero,List.getD_cons_succ];omega
def dvX (s:Wide×Wide×Wide):Wide:=if 9223372036854775808≤(s.1.getD 3 default).toNat then incW (addW s.2.2 s.2.2) else addW s.2.2 s.2.2
def dvC (b:Wide) (s:Wide×Wide×Wide):Prop:=zhG s.2.2 s.2.2=false∨0≤cmpW (dvX s) b
instance (b:Wide) (s:Wide×Wide×Wide):Decidable (dvC b s):=inferInstanceAs (Decidable (_∨_))
def zth (b:Wide) (s:Wide×Wide×Wide):Wide×Wide×Wide:=if dvC b s then (addW s.1 s.1,incW (addW s.2.1 s.2.1),subW (dvX s) b) else (addW s.1 s.1,addW s.2.1 s.2.1,dvX s)
def dvI (a b:Wide):Nat→Wide×Wide×Wide
  | 0=>(a,zaP,zaP)
  | i+1=>zth b (dvI a b i)
structure DvInv (A B P:Nat) (M:Nat) (s:Wide×Wide×Wide):Prop where
  l1:s.1.length=4
  l2:s.2.1.length=4
  l3:s.2.2.length=4
  n1:nW s.1=M
  n2:nW s.2.1=P/B
  n3:nW s.2.2=P%B
theorem dv_step {A B P M bit:Nat} {b:Wide} {s:Wide×Wide×Wide} (hb:b.length=4) (hB:nW b=B) (hp:0<B) (hM:M<W256) (hbit:bit=if 57896044618658097711785492504343953926634992332820282019728792003956564819968≤M then 1 else 0) (hP:2*P+bit<W256) (h:DvInv A B P M s):DvInv A B (2*P+bit) (2*M%W256) (zth b s):=by
  obtain⟨l1,l2,l3,n1,n2,n3⟩:=h;have hBlt:B<W256:=by rw[←hB];exact zq3 hb
  have hr:P%B<B:=Nat.mod_lt _ hp;have hq:B*(P/B)+P%B=P:=Nat.div_add_mod P B;have hqle:P/B≤P:=Nat.div_le_self P B;obtain⟨x1,x2⟩:=zt9 l3 l3;rw[n3] at x1 x2;have hX:(dvX s).length=4∧nW (dvX s)=(2*(P%B)+bit)%W256:=by
    have ev:nW (addW s.2.2 s.2.2)%2=0:=by rw[x1];unfold W256;omega
    unfold dvX;by_cases c:9223372036854775808≤(s.1.getD 3 default).toNat
    · rw[ut c]
      have c':=(hiBit_n l1).1 c;rw[n1] at c';rw[ut c'] at hbit;refine⟨zmW (za6 l3 l3),?_⟩;rw[incW_n (za6 l3 l3) ev,x1,hbit];unfold W256;omega
    rw[ur c];have c':¬_:=fun h=>c ((hiBit_n l1).2 h)
    rw[n1] at c';rw[ur c'] at hbit;refine⟨za6 l3 l3,?_⟩;rw[x1,hbit];congr 1;omega
  obtain⟨xl,xn⟩:=hX;have o1:=zjE l2 l2;rw[n2] at o1;have o1':nW (addW s.2.1 s.2.1)=2*(P/B):=by
    rw[o1,show P/B+P/B=2*(P/B) by omega,Nat.mod_eq_of_lt ya]
  have a1:nW (addW s.1 s.1)=2*M%W256:=by rw[zjE l1 l1,n1];congr 1;omega
  have hbit1:bit≤1:=by rw[hbit];split<;>omega
  have hdiv:∀q r,B*q+r=2*P+bit→r<B→(2*P+bit)/B=q∧(2*P+bit)%B=r:=fun q r e hlt=>by
    rw[←e];refine⟨?_,?_⟩
    · rw[Nat.add_comm,Nat.add_mul_div_left _ _ hp,Nat.div_eq_of_lt hlt,Nat.zero_add]
    rw[Nat.add_comm,Nat.add_mul_mod_self_left,Nat.mod_eq_of_lt hlt]
  have hcase:dvC b s↔B≤2*(P%B)+bit:=by
    unfold dvC;rw[zp4 xl hb,hB,xn];have hx2:zhG s.2.2 s.2.2=false↔W256≤P%B+P%B:=by
      cases e:zhG s.2.2 s.2.2 with
      | true=>have:=x2.1 e;simp;omega
      | false =>
        refine⟨fun _=>?_,fun _=>rfl⟩;rcases Nat.lt_or_ge (P%B+P%B) W256 with h|h
        · have:=x2.2 h;rw[e] at this;cases this
        exact h
    rw[hx2];have hlt2:2*(P%B)+bit<2*B:=ya
    constructor
    · rintro (h|h)
      · omega
      by_cases c1:2*(P%B)+bit<W256
      · rw[Nat.mod_eq_of_lt c1] at h
        split at h
        · omega
        omega
      omega
    intro h;by_cases c1:2*(P%B)+bit<W256
    · right
      rw[Nat.mod_eq_of_lt c1]
      split
      · omega
      split<;>omega
    left
    unfold W256 at *;omega
  unfold zth;have hmul:B*(2*(P/B))=2*(B*(P/B)):=by rw[Nat.mul_left_comm]
  by_cases c:dvC b s
  · rw[ut c]
    have c':=hcase.1 c;have hm1:B*(2*(P/B)+1)=2*(B*(P/B))+B:=by rw[Nat.mul_add,hmul,Nat.mul_one]
    obtain⟨e1,e2⟩:=hdiv (2*(P/B)+1) (2*(P%B)+bit-B) ya ya;refine⟨za6 l1 l1,zmW (za6 l2 l2),zmB xl hb,a1,?_,?_⟩
    · show nW (incW (addW s.2.1 s.2.1))=_
      rw[incW_n (za6 l2 l2) (by rw[o1'];omega),o1',e1]
    show nW (subW (dvX s) b)=_;rw[(zvF xl hb).1,xn,hB,e2];by_cases c1:2*(P%B)+bit<W256
    · rw[Nat.mod_eq_of_lt c1]
      rw[show 2*(P%B)+bit+W256-B=(2*(P%B)+bit-B)+W256 by omega,Nat.add_mod_right,Nat.mod_eq_of_lt ya]
    have h2:2*(P%B)+bit<2*W256:=ya;rw[show(2*(P%B)+bit)%W256=2*(P%B)+bit-W256 by rw[Nat.mod_eq_sub_mod ya,Nat.mod_eq_of_lt ya]];rw[show 2*(P%B)+bit-W256+W256-B=2*(P%B)+bit-B by omega,Nat.mod_eq_of_lt ya]
  rw[ur c];have c':¬B≤2*(P%B)+bit:=fun h=>c (hcase.2 h)
  obtain⟨e1,e2⟩:=hdiv (2*(P/B)) (2*(P%B)+bit) ya ya;refine⟨za6 l1 l1,za6 l2 l2,xl,a1,?_,?_⟩
  · show nW (addW s.2.1 s.2.1)=_
    rw[o1',e1]
  show nW (dvX s)=_;rw[xn,e2,Nat.mod_eq_of_lt ya]
theorem dv_bit {A k i:Nat} (_hA:A<2^256) (hk:k+1+i=256):A/2^k=2*(A/2^(k+1))+(if 2^255≤A*2^i%2^256 then 1 else 0):=by
  have e1:A/2^(k+1)=A/2^k/2:=by rw[Nat.pow_succ,Nat.div_div_eq_div_mul]
  have e2:A*2^i%2^256=A%2^(k+1)*2^i:=by
    rw[←hk,Nat.pow_add,Nat.mul_mod_mul_right]
  have e3:A%2^(k+1)=A/2^k%2*2^k+A%2^k:=by
    rw[Nat.pow_succ,Nat.mod_mul,Nat.add_comm,Nat.mul_comm (2^k)]
  have e4:(2:Nat)^255=2^k*2^i:=by rw[←Nat.pow_add];congr 1;omega
  have hlt:A%2^k<2^k:=Nat.mod_lt _ (Nat.two_pow_pos k);rw[e1,e2,e4];have hiff:2^k*2^i≤A%2^(k+1)*2^i↔A/2^k%2=1:=by
    rw[Nat.mul_le_mul_right_iff (Nat.two_pow_pos i),e3];rcases Nat.mod_two_eq_zero_or_one (A/2^k) with h|h
    · rw[h];constructor
      · intro h';omega
      intro h';omega
    rw[h];constructor
    · intro _;rfl
    intro _;omega
  by_cases c:A/2^k%2=1
  · rw[ut (hiff.2 c)];omega
  rw[ur (fun h=>c (hiff.1 h))];omega
theorem dv_inv {a b:Wide} (ha:a.length=4) (hb:b.length=4) (h:b≠zaP):∀i,i≤256→DvInv (nW a) (nW b) (nW a/2^(256-i)) (nW a*2^i%2^256) (dvI a b i):=by
  have hA:nW a<2^256:=zq3 ha;have hp:=nW_pos hb h;intro i
  induction i with
  | zero =>
    intro _;have e:nW a/2^(256-0)=0:=Nat.div_eq_of_lt hA;rw[e,Nat.pow_zero,Nat.mul_one,Nat.mod_eq_of_lt hA];exact⟨ha,rfl,rfl,rfl,by show nW zaP=_;rw[zq2,Nat.zero_div],by show nW zaP=_;rw[zq2,Nat.zero_mod]⟩
  | succ i ih =>
    intro hi;have h1:=ih ya;have e:=dv_bit (k:=255-i) (i:=i) hA ya;rw[show 255-i+1=256-i by omega] at e;have hlt:nW a/2^(255-i)<W256:=Nat.lt_of_le_of_lt (Nat.div_le_self _ _) hA;have hM:nW a*2^i%2^256<W256:=Nat.mod_lt _ yn;have e2:nW a*2^(i+1)%2^256=2*(nW a*2^i%2^256)%W256:=by
      rw[Nat.pow_succ,←Nat.mul_assoc,Nat.mul_comm _ 2];show _=2*(nW a*2^i%2^256)%2^256;rw[Nat.mul_mod_mod]
    rw[show 256-(i+1)=255-i by omega,e2,e];rw[e] at hlt;exact dv_step hb rfl hp hM rfl hlt h1
theorem dv_all {a b:Wide} (ha:a.length=4) (hb:b.length=4) (h:b≠zaP):(dvI a b 256).2.1=divW a b∧(dvI a b 256).2.2=remW a b:=by
  obtain⟨_,l2,l3,_,n2,n3⟩:=dv_inv ha hb h 256 (ug _);obtain⟨d1,d2,d3,d4⟩:=nW_div ha hb h;rw[Nat.sub_self,Nat.pow_zero,Nat.div_one] at n2 n3;exact⟨zhu l2 d1 (n2.trans d3.symm),zhu l3 d2 (n3.trans d4.symm)⟩
theorem dvX_len {x y z:Wide} (h:z.length=4):(dvX (x,y,z)).length=4:=by
  unfold dvX
  split
  · exact zmW (za6 h h)
  exact za6 h h
theorem zd0 {a b x y z X:Wide} {k:Nat} (h:k≤256∧dvI a b k=(x,y,z)∧x.length=4∧y.length=4∧z.length=4) (hb:b.length=4) (hXl:X.length=4) (hk:k+1≤256) (hX:X=dvX (x,y,z)) (hc:zhG z z=false∨0≤cmpW X b) :
    k+1≤256∧dvI a b (k+1)=(addW x x,incW (addW y y),subW X b)∧(addW x x).length=4∧(incW (addW y y)).length=4∧(subW X b).length=4:=by
  refine⟨hk,?_,za6 h.2.2.1 h.2.2.1,zmW (za6 h.2.2.2.1 h.2.2.2.1),zmB hXl hb⟩;rw[dvI,h.2.1];unfold zth;rw[ut (by unfold dvC;rw[←hX];exact hc),←hX]
theorem zjq {a b x y z X:Wide} {k:Nat} (h:k≤256∧dvI a b k=(x,y,z)∧x.length=4∧y.length=4∧z.length=4) (hXl:X.length=4) (hk:k+1≤256) (hX:X=dvX (x,y,z)) (h1:¬zhG z z=false) (h2:¬0≤cmpW X b) :
    k+1≤256∧dvI a b (k+1)=(addW x x,addW y y,X)∧(addW x x).length=4∧(addW y y).length=4∧X.length=4:=by
  refine⟨hk,?_,za6 h.2.2.1 h.2.2.1,za6 h.2.2.2.1 h.2.2.2.1,hXl⟩;rw[dvI,h.2.1];unfold zth;rw[ur (by unfold dvC;rw[←hX];exact fun h=>h.elim h1 h2),←hX]
def allW:Wide:=[maxU,maxU,maxU,maxU]
theorem allW_n:nW allW=W256-1:=by
  show nW [maxU,maxU,maxU,maxU]=_;unfold nW;simp only[List.getD_cons_zero,List.getD_cons_succ,maxU_n];rfl
theorem notW_n {t:Wide} (ht:t.length=4):nW [~~~ t.getD 0 default,~~~ t.getD 1 default,~~~ t.getD 2 default,~~~ t.getD 3 default]=W256-1-nW t:=by
  obtain⟨a0,a1,a2,a3,rfl⟩:=zgz ht;have e:∀x:UInt64,(~~~ x).toNat=18446744073709551615-x.toNat:=fun x=>by rw[UInt64.toNat_not];rfl
  have h0:a0.toNat<18446744073709551616:=a0.toNat_lt;have h1:a1.toNat<18446744073709551616:=a1.toNat_lt;have h2:a2.toNat<18446744073709551616:=a2.toNat_lt;have h3:a3.toNat<18446744073709551616:=a3.toNat_lt;unfold nW W256;simp only[List.getD_cons_zero,List.getD_cons_succ,e];omega
theorem zsa {a n:Nat} (hn:0<n):(a+1)/n=a/n+if a%n+1=n then 1 else 0:=by
  have h:=Nat.div_add_mod a n;have hlt:=Nat.mod_lt a hn;by_cases c:a%n+1=n
  · rw[ut c]
    have e:a+1=n*(a/n+1):=by rw[Nat.mul_add,Nat.mul_one];omega
    rw[e,Nat.mul_div_cancel_left _ hn]
  rw[ur c];have e:a+1=(a%n+1)+n*(a/n):=ya;rw[e,Nat.add_mul_div_left _ _ hn,Nat.div_eq_of_lt ya,Nat.zero_add];rfl
theorem zvf {t:Wide} (ht:t.length=4) (h:zhG t (ofW 1)=true) :
    (addW (remW allW (addW t (ofW 1))) (ofW 1)=addW t (ofW 1)→addW (divW allW (addW t (ofW 1))) (ofW 1)=zlh t)∧(addW (remW allW (addW t (ofW 1))) (ofW 1)≠addW t (ofW 1)→divW allW (addW t (ofW 1))=zlh t):=by
  have h1:nW (ofW 1)=1:=rfl;have l1:(ofW 1).length=4:=rfl;obtain⟨n1,n2⟩:=zt9 ht l1;have hlt:=n2.1 h;rw[h1] at n1 hlt;rw[Nat.mod_eq_of_lt hlt] at n1;have nl:=za6 ht l1;obtain⟨nx,hnx⟩:∃nx,nx=addW t (ofW 1):=⟨_,rfl⟩;have hw:zlh t=addW (divW [~~~ t.getD 0 default,~~~ t.getD 1 default,~~~ t.getD 2 default,~~~ t.getD 3 default] nx) (ofW 1):=by unfold zlh;rw[ut h,hnx]
  rw[←hnx] at n1 nl ⊢;have hz:nx≠zaP:=fun e=>by rw[e,zq2] at n1;omega
  have hp:0<nW nx:=ya;obtain⟨d1,d2,d3,d4⟩:=nW_div (a:=allW) rfl nl hz;obtain⟨e1,e2,e3,_⟩:=nW_div (a:=[~~~ t.getD 0 default,~~~ t.getD 1 default,~~~ t.getD 2 default,~~~ t.getD 3 default]) rfl nl hz;rw[notW_n ht] at e3;have hk:W256-1-nW t=W256-nW nx:=ya;rw[hk] at e3;have hdiv:(W256-nW nx)/nW nx+1=W256/nW nx:=by
    rw[←Nat.div_eq_sub_div hp ya]
  have hsd:=zsa (a:=W256-1) hp;rw[show W256-1+1=W256 from rfl] at hsd;rw[allW_n] at d3 d4;have hrl:(W256-1)%nW nx<nW nx:=Nat.mod_lt _ hp;have hcond:addW (remW allW nx) (ofW 1)=nx↔(W256-1)%nW nx+1=nW nx:=by
    have hr:=zjE d2 l1;rw[d4,h1,Nat.mod_eq_of_lt ya] at hr
    constructor
    · intro e;rw[←hr,e]
    intro e;exact zhu (za6 d2 l1) nl (hr.trans e)
  have hwl:(zlh t).length=4:=by rw[hw];exact za6 e1 l1
  have hwn:nW (zlh t)=W256/nW nx%W256:=by rw[hw,zjE e1 l1,e3,h1,hdiv]
  constructor
  · intro c
    rw[ut (hcond.1 c)] at hsd;refine zhu (za6 d1 l1) hwl ?_;rw[zjE d1 l1,d3,h1,hwn,hsd]
  intro c;rw[ur (fun e=>c (hcond.2 e)),Nat.add_zero] at hsd;refine zhu d1 hwl ?_;rw[d3,hwn,hsd,Nat.mod_eq_of_lt];exact Nat.lt_of_le_of_lt (Nat.div_le_self _ _) yn
theorem rdivW_ok (a b:Wide):Tells P 323 [.val z7 a,.val z7 b] (.tup3 (.val z7 (divW a b)) (.val z7 (remW a b)) (.val zs (divOk b))):=by
 refine zc Tryz.func323 rfl rfl rfl (fun ext w hext=>?_);refine ze (d:=0) rfl zaS (fun ha=>?_);refine ze (d:=1) rfl zaS (fun hb=>?_);refine qa3 ?_;refine qaz ?_;refine qaz ?_;refine qc8 ?_;refine qa4 ?_;refine xe ?_;refine A0 (zim rfl rfl rfl (zwo)) ?_;refine CN ?_;refine zq (p:=b=zaP) rfl yw (fun ht14=>?_) (fun ht14=>?_)
 ·
  refine CQR ?_;refine xe ?_;refine xe ?_;refine qag ?_;refine qag ?_;refine qac ?_;exact zm7 rfl rfl (zt rfl rfl zal (by unfold divW divP;rw[ut ht14])) (zt rfl rfl zal (by unfold remW divP;rw[ut ht14])) (zS (za rfl (by unfold divOk;symm;exact uh (fun h=>h ht14))))
 refine CSQR ?_;refine qaz ?_;refine CNQR ?_;refine qaz ?_;refine qaw ?_;refine Lp (ι:=Nat×Wide×Wide×Wide) 6 (fun(k,x,y,z)=>(((((((Fr.none.set 2 (.ptr 0 0)).set 3 (.ptr 1 0)).set 4 (.ptr 2 0)).set 5 (.ptr 3 0)).set 6 (.val zs false)).set 7 (.ptr 4 0)).set 8 (.ptr 5 0)).set 9 (.val i64T (k:Int))) (fun(k,x,y,z)=>(((((Hp.none.set 0 (.box 49 z7 x)).set 1 (.box 49 z7 b)).set 2 (.box 49 z7 zaP)).set 3 (.box 49 z7 zaP)).set 4 (.box 49 z7 y)).set 5 (.box 49 z7 z)) (fun(k,x,y,z)=>k≤256∧dvI a b k=(x,y,z)∧x.length=4∧y.length=4∧z.length=4) (fun(k,x,y,z)=>256-k) ((0,a,zaP,zaP)) (⟨uf _,rfl,ha,rfl,rfl⟩) ?_;intro⟨k,x,y,z⟩ hinv;dsimp only at hinv;refine qaF ?_;refine qav ?_;refine Cf (p:=k<256) (fun ht18=>?_) (fun ht18=>?_)
 ·
  obtain⟨X,hX⟩:∃X,X=dvX (x,y,z):=⟨_,rfl⟩;have hXl:X.length=4:=by rw[hX];exact dvX_len hinv.2.2.2.2
  refine CSQBQR ?_;refine qdw ?_;refine A0 (oCl (zdX z z) rfl zin ye) ?_;refine qcD ?_;refine qc8 ?_;refine A0 (zG (i:=3) rfl rfl rfl yi zbf ya) ?_;refine A0 (zy rfl rfl rfl (Lens.elem (i:=3) ya u64T) za9) ?_;refine qb9 ?_;refine zq (p:=9223372036854775808≤(x.getD 3 default).toNat) rfl (by rw[uo];show(9223372036854775808:Int)≤((x.getD 3 default).toNat:Int)↔_;omega) (fun ht29=>?_) (fun ht29=>?_)
  ·
   refine CR ?_;refine qa1 ?_;refine CNQ ?_;refine zJ (n:=6) (y:=X) rfl (by rw[hX];unfold dvX;first|(rw[ut ht29];rfl)|(rw[ur ht29])) ?_;refine CR ?_;refine qdw ?_;refine A0 (oCl (zdX x x) rfl zin ye) ?_;refine qa6 ?_;refine qag ?_;refine CNQR ?_;refine qdw ?_;refine A0 (oCl (zdX y y) rfl zin ye) ?_;refine qa6 ?_;refine qag ?_;refine CNQR ?_;refine qa4 ?_;refine qag ?_;refine qcZ ?_;refine A0 oN ?_;refine qau ?_;refine zX (d:=49) (p:=zhG z z=false) rfl (by cases zhG z z<;>rfl) (fun g49=>?_) (fun g49=>?_)
   ·
    refine qdf ?_;refine qao ?_;refine Ct ?_;refine CQR ?_;refine qdw ?_;refine A0 (oCl (zmG X b) rfl zv3 ye) ?_;refine qa6 ?_;refine qag ?_;refine CNR ?_;refine qa1 ?_;refine qaK ?_;refine zJ (n:=4) (y:=incW (addW y y)) rfl rfl ?_;exact Nx ((k+1,addW x x,incW (addW y y),subW X b)) yC yaT
   refine A1 (oLs rfl rfl rfl zal) ?_;refine A1 (oLs rfl rfl rfl zal) ?_;refine A1 (oCl (zmM _ _) rfl zwa ye) ?_;refine A1 zer ?_;refine qao ?_;refine Cf (p:=0≤cmpW X b) (fun ht54=>?_) (fun ht54=>?_)
   ·
    refine CQR ?_;refine qdw ?_;refine A0 (oCl (zmG X b) rfl zv3 ye) ?_;refine qa6 ?_;refine qag ?_;refine CNR ?_;refine qa1 ?_;refine qaK ?_;refine zJ (n:=4) (y:=incW (addW y y)) rfl rfl ?_;exact Nx ((k+1,addW x x,incW (addW y y),subW X b)) yC yaT
   refine qbN ?_;exact Nx ((k+1,addW x x,addW y y,X)) yC yaT
  refine CS ?_;refine CQ ?_;refine zJ (n:=6) (y:=X) rfl (by rw[hX];unfold dvX;first|(rw[ut ht29];rfl)|(rw[ur ht29])) ?_;refine CR ?_;refine qdw ?_;refine A0 (oCl (zdX x x) rfl zin ye) ?_;refine qa6 ?_;refine qag ?_;refine CNQR ?_;refine qdw ?_;refine A0 (oCl (zdX y y) rfl zin ye) ?_;refine qa6 ?_;refine qag ?_;refine CNQR ?_;refine qa4 ?_;refine qag ?_;refine qcZ ?_;refine A0 oN ?_;refine qau ?_;refine zX (d:=49) (p:=zhG z z=false) rfl (by cases zhG z z<;>rfl) (fun g49=>?_) (fun g49=>?_)
  ·
   refine qdf ?_;refine qao ?_;refine Ct ?_;refine CQR ?_;refine qdw ?_;refine A0 (oCl (zmG X b) rfl zv3 ye) ?_;refine qa6 ?_;refine qag ?_;refine CNR ?_;refine qa1 ?_;refine qaK ?_;refine zJ (n:=4) (y:=incW (addW y y)) rfl rfl ?_;exact Nx ((k+1,addW x x,incW (addW y y),subW X b)) yC yaT
  refine A1 (oLs rfl rfl rfl zal) ?_;refine A1 (oLs rfl rfl rfl zal) ?_;refine A1 (oCl (zmM _ _) rfl zwa ye) ?_;refine A1 zer ?_;refine qao ?_;refine Cf (p:=0≤cmpW X b) (fun ht54=>?_) (fun ht54=>?_)
  ·
   refine CQR ?_;refine qdw ?_;refine A0 (oCl (zmG X b) rfl zv3 ye) ?_;refine qa6 ?_;refine qag ?_;refine CNR ?_;refine qa1 ?_;refine qaK ?_;refine zJ (n:=4) (y:=incW (addW y y)) rfl rfl ?_;exact Nx ((k+1,addW x x,incW (addW y y),subW X b)) yC yaT
  refine qbN ?_;exact Nx ((k+1,addW x x,addW y y,X)) yC yaT
 refine CE ?_;refine CQ ?_;refine zH [some 1,some 1000001,none,none,some 1] mixed yd ?_;refine qcE ?_;refine XK.gf (t:=8) rfl rfl (fun _ he=>zy rfl rfl he (Lens.self _) zal) ⟨hpB rfl rfl,trivial⟩ rfl rfl rfl ?_;refine XK.e (x:=.idk) (fun fr' hfr kk H=>by exact zg rfl rfl rfl ((hfr 4 yd).trans rfl) rfl (Lens.self _) zal ((hfr 65 yd).trans rfl) (zM H)) ?_;refine XK.e (x:=.idk) (fun fr' hfr kk H=>by exact zg rfl rfl rfl ((hfr 5 yd).trans rfl) rfl (Lens.self _) zal ((hfr 66 yd).trans rfl) (zM H)) ?_;refine X0 aV ?_;refine xJ ?_;exact zm7 rfl rfl (zt rfl rfl zal (by rw[←(dv_all ha hb ht14).1,show 256=k by omega,hinv.2.1])) (zt rfl rfl zal (by rw[←(dv_all ha hb ht14).2,show 256=k by omega,hinv.2.1])) (zS (za rfl (by unfold divOk;symm;exact ui ht14)))
theorem rworkW_ok (t:Wide):Tells P 297 [.val z7 t] (.val z7 (zlh t)):=by
 refine zc Tryz.func297 rfl rfl rfl (fun ext w hext=>?_);refine ze (d:=0) rfl zaS (fun ha=>?_);refine qae ?_;refine qaz ?_;refine CNQR ?_;refine A0 (zh7 (T:=u64T) (xs:=[_,_,_,_]) rfl zbf ziy yaZ rfl) ?_;refine qaz ?_;refine qag ?_;refine CNQ ?_;refine xB ?_;refine XK.gf (t:=1) rfl rfl (fun _ he=>zy rfl rfl he (Lens.self _) zal) ⟨hpB rfl rfl,trivial⟩ rfl rfl rfl ?_;refine XK.ga (fun _=>zdC (zlu 1) rfl zpU yc rfl) rfl rfl rfl ?_;refine XK.ga (fun _=>zdC (zdX t (ofW 1)) rfl zin ye rfl) rfl rfl rfl ?_;refine XK.ga yo rfl rfl rfl ?_;refine XK.ga yaj rfl rfl rfl ?_;refine xy ?_;refine XK.e (fun fr' hfr kk H=>by exact z8 ziy rfl rfl rfl rfl (zM H)) ?_;refine XK.e (x:=.idk) (fun fr' hfr kk H=>by exact zg rfl rfl rfl ((hfr 4 yd).trans rfl) rfl (Lens.self _) zal ((hfr 16 yd).trans rfl) (zM H)) ?_;refine X0 aV ?_;refine xJ ?_;refine qaF ?_;refine qaJ ?_;refine zq (p:=¬zhG t (ofW 1)=true) rfl (by cases zhG t (ofW 1)<;>rfl) (fun ht19=>?_) (fun ht19=>?_)
 ·
  refine CQR ?_;refine A0 (oCl (zlu 1) rfl zpU yc) ?_;refine qag ?_;refine CN ?_;exact zF rfl rfl rfl rfl zal (by unfold zlh;rw[ur ht19])
 refine CSQR ?_;refine qdw ?_;refine A0 (oCl (rdivW_ok allW (addW t (ofW 1))) rfl fn_323 ye) ?_;refine qa6 ?_;refine A0 e32 ?_;refine qaz ?_;refine qaz ?_;refine qag ?_;refine qag ?_;refine qaY ?_;refine xB ?_;refine XK.gf (t:=7) rfl rfl (fun _ he=>zy rfl rfl he (Lens.self _) zal) ⟨hpB rfl rfl,trivial⟩ rfl rfl rfl ?_;refine XK.ga (fun _=>zdC (zlu 1) rfl zpU yc rfl) rfl rfl rfl ?_;refine XK.ga (fun _=>zdC (zdX (remW allW (addW t (ofW 1))) (ofW 1)) rfl zin ye rfl) rfl rfl rfl ?_;refine XK.ga yo rfl rfl rfl ?_;refine XK.ga yaj rfl rfl rfl ?_;refine xy ?_;refine XK.e (fun fr' hfr kk H=>by exact z8 ziy rfl rfl rfl rfl (zM H)) ?_;refine XK.e (x:=.idk) (fun fr' hfr kk H=>by exact zg rfl rfl rfl ((hfr 9 yd).trans rfl) rfl (Lens.self _) zal ((hfr 32 yd).trans rfl) (zM H)) ?_;refine X0 aV ?_;refine xJ ?_;refine CQQR ?_;refine qdw ?_;refine A0 (zim rfl rfl rfl (zwo)) ?_;refine CN ?_;refine zq (p:=addW (remW allW (addW t (ofW 1))) (ofW 1)=addW t (ofW 1)) rfl yw (fun ht36=>?_) (fun ht36=>?_)
 ·
  refine zH [some 1,some 1,some 1,some 1,some 1,some 1000001,none] mixed yd ?_;refine qcE ?_;refine X0 (oCl (zlu 1) rfl zpU yc) ?_;refine X0 (oCl (zdX (divW allW (addW t (ofW 1))) (ofW 1)) rfl zin ye) ?_;refine X0 mX ?_;refine X0 yah ?_;refine xy ?_;refine XK.e (x:=.idk) (fun fr' hfr kk H=>by exact zg rfl rfl rfl ((hfr 6 yd).trans rfl) rfl (Lens.self _) zal ((hfr 41 yd).trans rfl) (zM H)) ?_;refine XK.nil' ?_;refine qb7 ?_;exact zF rfl rfl rfl rfl zal ((zvf ha (ua ht19)).1 ht36)
 refine CSQR ?_;refine qa4 ?_;refine qag ?_;refine CN ?_;exact zF rfl rfl rfl rfl zal ((zvf ha (ua ht19)).2 ht36)
theorem zsB (h:Head):Tells P 248 [.val zbx h] (.val z7 (zdx h)):=by
 refine zc Tryz.func248 rfl rfl rfl (fun ext w hext=>?_);refine qae ?_;refine qaz ?_;refine CNQR ?_;refine A0 (oFp zce) ?_;refine A0 (oLb zaq zbp) ?_;refine A0 (oCl (zlr h.bits) rfl fn_138 yc) ?_;refine qcD ?_;refine qaj ?_;refine qaJ ?_;refine zq (p:=¬zbh h.bits=true) rfl ycc (fun ht12=>?_) (fun ht12=>?_)
 ·
  refine qaM ?_;refine CN ?_;exact zF rfl rfl rfl rfl zal (by unfold zdx;rw[ur ht12]<;>rfl)
 refine CSQR ?_;refine qa4 ?_;refine A0 (oCl (rworkW_ok (tgtW h.bits)) rfl fn_297 yc) ?_;refine qag ?_;refine CN ?_;exact zF rfl rfl rfl rfl zal (by unfold zdx;rw[ut (ua ht12)])
theorem zjR (h:Head):Tells P 91 [.val zbx h] (.tup2 (.fresh 5 u8T (zaj h)) (.val zs (hOk h))):=by
 refine zc Tryz.func91 rfl rfl rfl (fun ext w hext=>?_);refine ze (d:=0) rfl zkU (fun hf=>?_);obtain⟨hf1,hf2,hf3,hf4,hf5⟩:=hf;have hbl:=zc5 h.work;have hn1:=zE (zL (IntL.toI i64T h.height)) 4;have hn2:=zE (zL (IntL.toI u32T h.bits)) 4;have hn3:=zE h.nonce 8;refine qca ?_;refine qc8 ?_;refine qbL ?_;refine A0 zbb ?_;refine qau ?_;refine Sp (d:=9) (p:=h.height<0) (fun g9=>?_) (fun g9=>?_)
 ·
  refine qab ?_;refine qao ?_;refine Ct ?_;refine qaT ?_;exact zx rfl rfl ybU (za rfl (uh ya).symm)
 refine A1 (oFp zc9) ?_;refine A1 (oLb zap ty_3) ?_;refine qdo ?_;refine qao ?_;refine Cf (p:=1048576<h.height) (fun ht13=>?_) (fun ht13=>?_)
 ·
  have hE:hOk h=false:=uh ya;refine qaT ?_;exact zx rfl rfl ybU (za rfl (uh ya).symm)
 refine CSQR ?_;refine A0 (oFp zg7) ?_;refine A0 (oLb zcT zal) ?_;refine A0 (oCl (zpE _) rfl fn_146 yc) ?_;refine qbV ?_;refine qcX ?_;refine zeF (d:=4) rfl rfl (Lens.self _) ?_;refine CR ?_;refine A0 (oFr zc9 zap) ?_;refine qaR ?_;refine qdq ?_;refine zaH (zjW (zL (IntL.toI i64T h.height)) 4 yn) rfl zuj ye rfl rfl rfl ?_;refine qby ?_;refine A0 (oFr zfv zb8) ?_;refine qbH ?_;refine xK ?_;refine qby ?_;refine A0 (oFr zex zbg) ?_;refine qbH ?_;refine xK ?_;refine qby ?_;refine A0 (oFr zfu zcF) ?_;refine qbH ?_;refine xK ?_;refine qby ?_;refine A0 (oFr zft zb9) ?_;refine qbH ?_;refine xK ?_;refine qby ?_;refine qbH ?_;refine xK ?_;refine qby ?_;refine A0 (oFr zce zaq) ?_;refine A0 (zh rfl rfl zbp) ?_;refine A0 (zfc rfl (zlk) (znk) rfl) ?_;refine zaH (zjW (zL (IntL.toI u32T h.bits)) 4 yn) rfl zuj ye rfl rfl rfl ?_;refine zfh (d:=44) rfl rfl ?_;refine xK ?_;refine qby ?_;refine A0 (oFr zfs zbK) ?_;refine A0 (zh rfl rfl za9) ?_;refine zaH (zjW h.nonce 8 yn) rfl zuj yci rfl rfl rfl ?_;refine zfh (d:=49) rfl rfl ?_;refine xK ?_;refine qcl ?_;exact zx rfl rfl (zf rfl rfl (by have hE:hOk h=true:=ui ya;unfold zaj;rw[ut hE];unfold zb6;simp)) (za rfl (ui ya).symm)
theorem zjl (h:Head):Tells P 140 [.val zbx h] (.val idT (zdo h)):=by
 refine zc Tryz.func140 rfl rfl rfl (fun ext w hext=>?_);refine ze (d:=0) rfl zkU (fun hh=>?_);obtain⟨hh1,hh2,hh3,hh4,hh5⟩:=hh;refine qae ?_;refine qaB ?_;refine CNQR ?_;refine qcq ?_;refine A0 (oCl (zbo (zjR h)) rfl fn_91 yc) ?_;refine qb1 ?_;refine qaJ ?_;refine zq (p:=¬hOk h=true) rfl (by cases hOk h<;>rfl) (fun ht11=>?_) (fun ht11=>?_)
 ·
  refine CQR ?_;refine A0 (zev rfl zfj ztN rfl) ?_;refine qaq ?_;exact zF rfl rfl rfl rfl zab (by unfold zdo;rw[ur ht11]<;>rfl)
 refine CSQR ?_;refine qa5 ?_;refine zfx (S:=bsl u8T) (d:=13) rfl ?_;refine qau ?_;refine zfx (S:=bsl u8T) (d:=14) rfl ?_;refine qcd ?_;refine A0 (oCl (zvj [[5],zaj h] (by unfold zaj;split<;>simp[zb6,hh1,hh2,hh3,hh4,zc5,zE])) rfl zv9 yc) ?_;refine qaq ?_;exact zF rfl rfl rfl rfl zab (by unfold zdo zaj;rw[ut (ua ht11),ut (ua ht11)];simp)
def lnkN (l:List Ab.Id) (id:Ab.Id) (k:Nat):List Ab.Id:=l.take 1++List.replicate (k-1) id++l.drop k
theorem zq9 {l:List Ab.Id} {id:Ab.Id} {k:Nat} (hl:1≤l.length) (hk:1≤k) (j:Nat):(lnkN l id k)[j]?=if j=0 then l[0]? else if j<k then some id else l[j]?:=by
  have ht:(l.take 1).length=1:=yb7;unfold lnkN;rw[List.append_assoc];by_cases c:j=0
  · rw[ut c,c,List.getElem?_append_left ya,List.getElem?_take,ut yn]
  rw[ur c,List.getElem?_append_right ya,ht];by_cases d:j<k
  · rw[ut d,List.getElem?_append_left (by rw[List.length_replicate];omega),List.getElem?_replicate,ut ya]
  rw[ur d,List.getElem?_append_right (by rw[List.length_replicate];omega),List.length_replicate,List.getElem?_drop];congr 1;omega
theorem zn2 {l:List Ab.Id} {id:Ab.Id} {k:Nat} (hl:1≤l.length) (hk:1≤k):(lnkN l id k).length=max k l.length:=by
  unfold lnkN;simp only[ue,um,List.length_replicate,List.length_drop];omega
theorem lnk_app {l:List Ab.Id} {id:Ab.Id} {k:Nat} (hl:1≤l.length) (hk:1≤k) (h:k=(lnkN l id k).length):(lnkN l id k++[id]).set k id=lnkN l id (k+1):=by
  have hlen:=zn2 (id:=id) hl hk;apply List.ext_getElem?;intro j;rw[zq9 hl ya,List.getElem?_set];by_cases c:k=j
  · rw[ut c,ut yb3,ur ya,ut ya]
  rw[ur c];by_cases d:j<k
  · rw[List.getElem?_append_left ya,zq9 hl hk]
    by_cases e:j=0
    · rw[ut e,ut e]
    rw[ur e,ur e,ut d,ut ya]
  rw[List.getElem?_eq_none yb3,ur ya,ur ya,List.getElem?_eq_none ya]
theorem lnk_set {l:List Ab.Id} {id:Ab.Id} {k:Nat} (hl:1≤l.length) (hk:1≤k) (h:¬k=(lnkN l id k).length):(lnkN l id k).set k id=lnkN l id (k+1):=by
  have hlen:=zn2 (id:=id) hl hk;apply List.ext_getElem?;intro j;rw[zq9 hl ya,List.getElem?_set];by_cases c:k=j
  · rw[ut c,ut ya,ur ya,ut ya]
  rw[ur c,zq9 hl hk];by_cases e:j=0
  · rw[ut e,ut e]
  rw[ur e,ur e];by_cases d:j<k
  · rw[ut d,ut ya]
  rw[ur d,ur ya]
theorem lnk_one {l:List Ab.Id} {id:Ab.Id}:lnkN l id 1=l:=by unfold lnkN;rw[Nat.sub_self,List.replicate_zero,List.append_nil,List.take_append_drop]
theorem lnk_end {l:List Ab.Id} {id:Ab.Id} {level:Int} {k:Nat} (h1:¬32<l.length) (h2:¬l.length=0) (hk:1≤k) (hk2:k=1∨(k:Int)≤level+1) (hk3:k≤32) (h:¬((k:Int)≤level∧k≤31)):lnkN l id k=zcv l id level:=by
  unfold zcv;rw[ur h1,ur h2];by_cases c:level<1
  · rw[ut c,show k=1 by omega,lnk_one]
  rw[ur c];obtain⟨m,hm⟩:∃m,m=(min level 31).toNat:=⟨_,rfl⟩;rw[←hm,show k=m+1 by omega];unfold lnkN;rw[Nat.add_sub_cancel]
theorem zsy (l:List Ab.Id) (id:Ab.Id) (level:Int):Tells P 250 [.val (bsl idT) l,.val idT id,.val i64T level] (.fresh 46 idT (zcv l id level)):=by
 refine zc Tryz.func250 rfl rfl rfl (fun ext w hext=>?_);refine ze (d:=0) rfl zi (fun hsl0=>?_);refine ze (d:=2) rfl zu (fun hin2=>?_);refine qca ?_;refine qbe ?_;refine qb3 ?_;refine qbT ?_;refine Cf (p:=32<l.length) (fun ht11=>?_) (fun ht11=>?_)
 ·
  refine qap ?_;refine CN ?_;exact zd rfl rfl (by unfold zcv;rw[ut ht11];exact zm rfl)
 refine qbP ?_;refine qb3 ?_;refine A0 zbZ ?_;refine CN ?_;refine Cf (p:=l.length=0) (fun ht14=>?_) (fun ht14=>?_)
 ·
  refine CQR ?_;refine qb4 ?_;refine zbm (T:=idT) (xs:=[_]) rfl rfl rfl rfl zek zeP yx rfl rfl ?_;refine qbJ ?_;exact zd rfl rfl (zf rfl rfl (by unfold zcv;rw[ur ht11,ut ht14]))
 refine qbw ?_;refine zcE rfl rfl rfl rfl rfl rfl zeP (by first|omega|(rw[zn2 ya hinv.1];simp;omega)) ?_;refine A0 aO ?_;refine qaw ?_;refine zl (n:=1) (y:=lnkN l id 1) rfl lnk_one.symm ?_;refine Lp (ι:=Nat) 2 (fun (k:Nat)=>((((Fr.none).set 2 (.val i64T level)).set 4 (.ptr 0 0)).set 7 (.own 1)).set 8 (.val i64T (k:Int))) (fun (k:Nat)=>((Hp.none).set 0 (.box 46 idT id)).set 1 (.row 46 idT (lnkN l id k))) (fun (k:Nat)=>1≤k∧(k=1∨(k:Int)≤level+1)∧k≤32) (fun (k:Nat)=>32-k) (1) (⟨ug _,.inl rfl,by decide⟩) ?_;intro k hinv;refine qaW ?_;refine A0 zfp ?_;refine qau ?_;refine Sp (d:=22) (p:=(k:Int)≤level) (fun g22=>?_) (fun g22=>?_)
 ·
  refine A1 mV ?_;refine A1 zfp ?_;refine qao ?_;refine Cf (p:=k≤31) (fun ht25=>?_) (fun ht25=>?_)
  ·
   have hll:=zn2 (l:=l) (id:=id) (k:=k) ya hinv.1;refine qa8 ?_;refine qaF ?_;refine A0 mO ?_;refine A0 (zbV rfl rfl rfl zhx) ?_;refine A0 zbZ ?_;refine CN ?_;refine Cf (p:=k=(lnkN l id k).length) (fun ht31=>?_) (fun ht31=>?_)
   ·
    obtain⟨o,ho⟩:∃o,(lnkN l id k++[id])[k]?=some o:=⟨_,ub yb3⟩;refine qbE ?_;refine qb4 ?_;refine A0 (zag (T:=idT) (xs:=[_]) rfl zek zeP yx rfl rfl) ?_;refine zo rfl rfl rfl rfl rfl rfl rfl zeP (by first|omega|(rw[zn2 ya hinv.1];simp;omega)) ?_;refine A0 aO ?_;refine CNR ?_;refine A0 mO ?_;refine qau ?_;refine qb4 ?_;refine A0 (zaQ (i:=k) rfl rfl rfl rfl yi zek yg) ?_;refine zc6 rfl rfl rfl rfl rfl rfl yh (Lens.self _) zab rfl ?_;refine qaK ?_;refine qcs ?_;refine zl (n:=1) (y:=lnkN l id (k+1)) rfl (lnk_app ya hinv.1 ht31) ?_;exact Nx (k+1) (⟨by omega,.inr ya,by omega⟩) ya
   obtain⟨o,ho⟩:∃o,(lnkN l id k)[k]?=some o:=yq;refine CS ?_;refine qbE ?_;refine qau ?_;refine qb4 ?_;refine A0 (zaQ (i:=k) rfl rfl rfl rfl yi zek yg) ?_;refine zc6 rfl rfl rfl rfl rfl rfl yh (Lens.self _) zab rfl ?_;refine qaK ?_;refine zl (n:=1) (y:=lnkN l id (k+1)) rfl (lnk_set ya hinv.1 ht31) ?_;exact Nx (k+1) (⟨by omega,.inr ya,by omega⟩) ya
  refine qa0 ?_;exact zd rfl rfl (zf rfl rfl (lnk_end ht11 ht14 hinv.1 hinv.2.1 hinv.2.2 ya))
 refine qbB ?_;refine qao ?_;refine Cg ?_;refine qa0 ?_;exact zd rfl rfl (zf rfl rfl (lnk_end ht11 ht14 hinv.1 hinv.2.1 hinv.2.2 ya))
theorem mul_or {x:UInt64} {y:UInt8}:256*x+zL (IntL.toI u8T y)=zg1 x 8|||zL (IntL.toI u8T y):=by
  have hx:x.toNat<18446744073709551616:=x.toNat_lt;have hy:y.toNat<256:=y.toNat_lt;have e:(zL (IntL.toI u8T y)).toNat=y.toNat:=by
    unfold zL;show(UInt64.ofNat (((y.toNat:Nat):Int)%18446744073709551616).toNat).toNat=y.toNat
    rw[UInt64.toNat_ofNat_of_lt' yV];omega
  apply UInt64.toNat_inj.1;rw[UInt64.toNat_or,shl_n yn,e,UInt64.toNat_add,UInt64.toNat_mul,e,show(256:UInt64).toNat=256 from rfl];have e2:x.toNat*2^8%18446744073709551616=x.toNat%72057594037927936*2^8:=ya;rw[e2,zvy ya];omega
theorem zsx (b:Ab.Id):Tells P 152 [.val idT b] (.val z7 (ze8 b)):=by
 refine zc Tryz.func152 rfl rfl rfl (fun ext w hext=>?_);refine ze (d:=0) rfl zid (fun hb=>?_);refine qae ?_;refine qaz ?_;refine CNQR ?_;refine qaz ?_;refine qaw ?_;refine Lp (ι:=Nat) 3 (fun (k:Nat)=>((((Fr.none).set 1 (.ptr 0 0)).set 2 (.ptr 1 0)).set 3 (.ptr 2 0)).set 4 (.val i64T (k:Int))) (fun (k:Nat)=>(((Hp.none).set 0 (.box 46 idT b)).set 1 (.box 49 z7 zaP)).set 2 (.box 49 z7 (zqX b k))) (fun (k:Nat)=>k≤32) (fun (k:Nat)=>32-k) (0) (uf _) ?_;intro k hinv;refine qaF ?_;refine qav ?_;refine Cf (p:=k<32) (fun ht7=>?_) (fun ht7=>?_)
 ·
  refine qbh ?_;refine qb8 ?_;refine A0 za5 ?_;refine qac ?_;refine zH [some 1,some 1,some 1,some 1,some 1,some 1,some 1,some 1,some 1,some 1,some 1,none] mixed yd ?_;refine qbG ?_;refine X0 (zG (i:=3-k/8) rfl rfl rfl yi zbf ya) ?_;refine X0 (zy rfl rfl rfl (Lens.elem (i:=3-k/8) ya u64T) za9) ?_;refine X0 (zh5 rfl rfl rfl) ?_;refine X0 mV ?_;refine X0 (zG (i:=k) rfl rfl rfl yi zfj ya) ?_;refine X0 (zy rfl rfl rfl (Lens.elem (i:=k) ya u8T) ty_5) ?_;refine X0 (zfc rfl (zlk) (us_5) rfl) ?_;refine X0 (zgj rfl rfl rfl) ?_;refine X0 (zG (i:=3-k/8) rfl rfl rfl yi zbf ya) ?_;refine XK.e (x:=.idk) (fun fr' hfr kk H=>by exact zg rfl rfl rfl ((hfr 23 yd).trans rfl) rfl (Lens.elem (i:=3-k/8) ya u64T) za9 ((hfr 22 yd).trans rfl) (zM H)) ?_;refine qaX ?_;refine qak ?_;refine zJ (n:=2) (y:=zqX b (k+1)) rfl (by unfold zqX;rw[zcZ];unfold of32S;rw[←mul_or];rfl) ?_;exact Nx (k+1) ya ya
 obtain rfl:k=32:=ya;refine CE ?_;refine qb7 ?_;exact zF rfl rfl rfl rfl zal (rfl)
theorem ztX {f:Int→Bool} (hm:∀i j:Nat,i≤j→f (i:Int)=true→f (j:Int)=true):∀(n lo hi:Nat),hi-lo=n→lo≤hi→(∀j:Nat,j<searchN f lo hi→lo≤j→f (j:Int)=false)∧(searchN f lo hi<hi→f ((searchN f lo hi:Nat):Int)=true)∧lo≤searchN f lo hi∧searchN f lo hi≤hi:=by
  intro n
  induction n using Nat.strongRecOn with
  | ind n ih =>
    intro lo hi hn hle;by_cases h:lo<hi
    · by_cases c:f (((lo+hi)/2:Nat):Int)=true
      · rw[zlo h c]
        obtain⟨h1,h2,h3,h4⟩:=ih ((lo+hi)/2-lo) ya lo ((lo+hi)/2) rfl ya;refine⟨h1,fun _=>?_,h3,by omega⟩;by_cases d:searchN f lo ((lo+hi)/2)<(lo+hi)/2
        · exact h2 d
        rw[show searchN f lo ((lo+hi)/2)=(lo+hi)/2 by omega];exact c
      rw[znA h c];obtain⟨h1,h2,h3,h4⟩:=ih (hi-((lo+hi)/2+1)) ya ((lo+hi)/2+1) hi rfl ya;refine⟨fun j hj hlo=>?_,h2,by omega,h4⟩;by_cases d:(lo+hi)/2+1≤j
      · exact h1 j hj d
      cases e:f (j:Int) with
      | false=>rfl
      | true=>exact absurd (hm j _ ya e) c
    have e:searchN f lo hi=lo:=by rw[searchN,dif_neg h]
    rw[e];exact⟨fun j hj hlo=>by omega,fun hh=>absurd hh h,ug _,hle⟩
def zjF (x t:Wide):Nat→Int
  | 0=>-1
  | k+1=>if cmpW x (zdG t k)≤0 then k else zjF x t k
theorem zoa {x t:Wide} (hx:x.length=4) (ht:t.length=4) (i j:Nat) (hij:i≤j) (h:zgR x t (i:Int)=true):zgR x t (j:Int)=true:=by
  unfold zgR at *;rw[uj] at *;by_cases hj:j<256
  · rw[zp4 hx (zeA ht),zjZ ht ya] at h
    rw[zp4 hx (zeA ht),zjZ ht hj];have hd:nW t/2^j≤nW t/2^i:=Nat.div_le_div_left (Nat.pow_le_pow_right yn hij) (Nat.two_pow_pos i);have h1:nW t/2^i<nW x:=by
      by_cases c:nW x<nW t/2^i
      · rw[ut c] at h;exact absurd h yn
      rw[ur c] at h;by_cases d:nW t/2^i<nW x
      · exact d
      rw[ur d] at h;exact absurd h yn
    rw[ur ya,ut ya];decide
  have hz:zdG t (j:Int)=zaP:=by unfold zdG;rw[ur ya,ut ya]
  rw[hz,zp4 hx rfl];rw[zp4 hx (zeA ht)] at h;have hz0:nW zaP=0:=rfl;rw[hz0];have h1:nW (zdG t (i:Int))<nW x:=by
    by_cases c:nW x<nW (zdG t (i:Int))
    · rw[ut c] at h;exact absurd h yn
    rw[ur c] at h;by_cases d:nW (zdG t (i:Int))<nW x
    · exact d
    rw[ur d] at h;exact absurd h yn
  rw[ur ya,ut ya];decide
theorem zvM {x t:Wide} {s:Nat} (h1:∀j:Nat,j<s→zgR x t (j:Int)=false) (h2:∀j:Nat,s≤j→j<32→zgR x t (j:Int)=true):∀k,k≤32→zjF x t k=(min k s:Nat)-1
  | 0,_=>by rw[zjF];omega
  | k+1,hk=>by
    rw[zjF,zvM h1 h2 k ya];by_cases c:k<s
    · have:=h1 k c
      unfold zgR at this;rw[decide_eq_false_iff_not] at this;rw[ut ya];omega
    have:=h2 k ya ya
    unfold zgR at this;rw[uj] at this;rw[ur ya];omega
theorem lastLv_all {id:Ab.Id} {t:Wide} (hx:(ze8 id).length=4) (ht:t.length=4):zjF (ze8 id) t 32=zn9 id t:=by
  obtain⟨h1,h2,_,h4⟩:=ztX (f:=zgR (ze8 id) t) (fun i j=>zoa hx ht i j) 32 0 32 rfl ya;rw[zvM (s:=searchN (zgR (ze8 id) t) 0 32) (fun j hj=>h1 j hj ya) (fun j hj hj2=>zoa hx ht _ j hj (h2 ya)) 32 (ug _)];unfold zn9;omega
theorem zqW {b:Ab.Id}:(ze8 b).length=4:=by
  have h:∀k,(zqX b k).length=4:=fun k=>by
    induction k with
    | zero=>rfl
    | succ k ih=>unfold zqX;rw[zcZ];unfold of32S;rw[List.length_set];exact ih
  exact h 32
theorem rlevelW_ok (id:Ab.Id) (t:Wide):Tells P 139 [.val idT id,.val z7 t] (.val i64T (zn9 id t)):=by
 refine zc Tryz.func139 rfl rfl rfl (fun ext w hext=>?_);refine ze (d:=1) rfl zaS (fun ht=>?_);refine qa3 ?_;refine qah ?_;refine qcc ?_;refine Lp (ι:=Nat) 2 (fun (k:Nat)=>((((Fr.none).set 2 (.ptr 0 0)).set 3 (.ptr 1 0)).set 5 (.val i64T (zjF (ze8 id) t k))).set 6 (.val i64T (k:Int))) (fun (k:Nat)=>((Hp.none).set 0 (.box 46 idT id)).set 1 (.box 49 z7 t)) (fun (k:Nat)=>k≤32) (fun (k:Nat)=>32-k) (0) (uf _) ?_;intro k hinv;refine qaF ?_;refine A0 zfp ?_;refine CN ?_;refine Cf (p:=k≤31) (fun ht8=>?_) (fun ht8=>?_)
 ·
  refine qdi ?_;refine G0 (oLs rfl rfl rfl zab) ?_;refine G0 (oCl (zsx id) rfl fn_152 yc) ?_;refine G0 (oLs rfl rfl rfl zal) ?_;refine G0 mV ?_;refine G0 (oCl (rdownW_ok t k) rfl fn_199 ye) ?_;refine G0 (oCl (zmM (ze8 id) (zdG t k)) rfl zwa ye) ?_;refine G0 zfp ?_;refine GK.nil ?_;refine Cf (p:=cmpW (ze8 id) (zdG t k)≤0) (fun ht17=>?_) (fun ht17=>?_)
  ·
   refine CR ?_;refine qau ?_;refine A0 aV ?_;refine qaK ?_;refine zj (d:=5) (y:=zjF (ze8 id) t (k+1)) rfl (by rw[zjF,ut ht17]) ?_;exact Nx (k+1) ya ya
  refine qbN ?_;refine zj (d:=5) (y:=zjF (ze8 id) t (k+1)) rfl (by rw[zjF,ur ht17]) ?_;exact Nx (k+1) ya ya
 obtain rfl:k=32:=ya;refine qcu ?_;refine qac ?_;exact zd rfl rfl (za rfl (lastLv_all zqW ht))
theorem zhS (h:Head):Tells P 83 [.val zbx h] (.val i64T (zW h)):=by
 refine zc Tryz.func83 rfl rfl rfl (fun ext w hext=>?_);refine qae ?_;refine qah ?_;refine qcq ?_;refine A0 (oCl (zbo (zjR h)) rfl fn_91 yc) ?_;refine qa6 ?_;refine A0 aV ?_;refine qah ?_;refine A0 (oFp zce) ?_;refine A0 (oLb zaq zbp) ?_;refine A0 (oCl (zlr h.bits) rfl fn_138 yc) ?_;refine qcD ?_;refine qaj ?_;refine A0 oN ?_;refine qau ?_;refine zX (d:=20) (p:=¬hOk h=true) rfl (by cases hOk h<;>rfl) (fun g20=>?_) (fun g20=>?_)
 ·
  refine qbB ?_;refine qao ?_;refine Ct ?_;refine qay ?_;exact zd rfl rfl (za rfl (by unfold zW;rw[ur (fun hc=>g20 hc.2)]))
 refine A1 mV ?_;refine A1 oN ?_;refine qao ?_;refine zq (p:=¬zbh h.bits=true) rfl ycc (fun ht23=>?_) (fun ht23=>?_)
 ·
  refine qay ?_;exact zd rfl rfl (za rfl (by unfold zW;rw[ur (fun hc=>ht23 hc.1)]))
 refine CSQQR ?_;refine qbL ?_;refine A0 zbZ ?_;refine CN ?_;refine Cf (p:=h.height=0) (fun ht26=>?_) (fun ht26=>?_)
 ·
  refine qay ?_;exact zd rfl rfl (za rfl (by unfold zW;rw[ut ⟨ua ht23,ua g20⟩,ut ht26]))
 refine CS ?_;refine qaG ?_;refine G0 (oLs rfl rfl rfl zaM) ?_;refine G0 (oCl (zjl h) rfl zwf yc) ?_;refine G0 (oLs rfl rfl rfl zal) ?_;refine G0 (oCl (rlevelW_ok (zdo h) (tgtW h.bits)) rfl fn_139 ye) ?_;refine qaV ?_;exact zd rfl rfl (za rfl (by unfold zW;rw[ut ⟨ua ht23,ua g20⟩,ur ht26]))
theorem may_eq {h:Head}:decide (0≤zW h)=zbG h:=by
  have h2:-1≤zW h:=by
    unfold zW
    split
    · split
      · decide
      unfold zn9;omega
    omega
  unfold zbG;by_cases c:zW h = -1
  · rw[c];rfl
  rw[ui (by omega:0≤zW h),uh c];rfl
theorem zt1 (h:Head):Tells P 192 [.val zbx h] (.val zs (zbG h)):=by
 refine zc Tryz.func192 rfl rfl rfl (fun ext w hext=>?_);refine qae ?_;refine qah ?_;refine qcq ?_;refine A0 (oCl (zhS h) rfl fn_83 yc) ?_;refine A0 zer ?_;refine qac ?_;exact zd rfl rfl (za rfl may_eq)
def zfH (c:Coin):Bool→List Coin→List Coin
  | d,[]=>if d=true then [] else [c]
  | d,x::l=>if zaY c.inn x.inn<0∧¬d=true then c::x::zfH c true l else x::zfH c d l
theorem zje {c:Coin}:∀{l:List Coin},zfH c true l=l
  | []=>rfl
  | x::l=>by rw[zfH,ur yw,zje]
theorem zqp {c x:Coin} {d:Bool} {p:List Coin} {k:Nat} (hx:p[k]?=some x) (h:zaY c.inn x.inn<0) (hd:d=false):zfH c d (p.drop k)=c::x::zfH c true (p.drop (k+1)):=by
  obtain⟨hk,rfl⟩:=ul.1 hx;rw[List.drop_eq_getElem_cons hk,zfH,ut ⟨h,by simp[hd]⟩]
theorem zjf {c x:Coin} {d:Bool} {p:List Coin} {k:Nat} (hx:p[k]?=some x) (h:¬(zaY c.inn x.inn<0∧d=false)):zfH c d (p.drop k)=x::zfH c d (p.drop (k+1)):=by
  obtain⟨hk,rfl⟩:=ul.1 hx;rw[List.drop_eq_getElem_cons hk,zfH,ur (by simpa using h)]
theorem zrX {c:Coin}:∀{d:Bool} {l:List Coin},(zfH c d l).length≤l.length+1
  | d,[]=>by unfold zfH;split<;>simp
  | d,x::l=>by
    unfold zfH
    split
    · rw[zje];simp
    have:=zrX (c:=c) (d:=d) (l:=l);simp;omega
theorem zlj {c:Coin}:∀{l:List Coin},(zfH c false l).Perm (l++[c])
  | []=>List.Perm.refl _
  | x::l=>by
    unfold zfH
    split
    · rw[zje]
      exact(List.perm_append_singleton c (x::l)).symm
    rw[List.cons_append];exact List.Perm.cons _ zlj
theorem zlY {c:Coin}:∀{l:List Coin},Sorted l→(∀x∈l,zaY c.inn x.inn≠0)→Sorted (zfH c false l)
  | [],_,_=>List.pairwise_singleton _ _
  | x::l,h,ha=>by
    have hl:=List.pairwise_cons.1 h;unfold zfH
    split
    · rename_i h0
      rw[zje];refine List.pairwise_cons.2 ⟨fun y hy=>?_,h⟩;rcases List.mem_cons.1 hy with e|hy
      · rw[e];exact h0.1
      exact zeU h0.1 (hl.1 y hy)
    rename_i h0;have hx:zaY x.inn c.inn<0:=by
      have h1:=ha x List.mem_cons_self;have h2:=zcm c.inn x.inn;have h3:¬zaY c.inn x.inn<0:=fun h=>h0 ⟨h,by simp⟩
      omega
    refine List.pairwise_cons.2 ⟨fun y hy=>?_,zlY hl.2 fun y hy=>ha y (List.mem_cons_of_mem _ hy)⟩;rcases List.mem_append.1 (zlj.mem_iff.1 hy) with hy|hy
    · exact hl.1 y hy
    simp at hy;rw[hy];exact hx
def withs (p:List Coin) (id:Ab.Id) (outs:List Out) (k:Nat):List Coin:=(newN id outs k).foldl (fun p c=>zfH c false p) p
theorem zli {p:List Coin} {id:Ab.Id} {outs:List Out} {k:Nat} {o:Out} (h:outs[k]?=some o):zfH ⟨⟨id,(k:Int)⟩,o⟩ false (withs p id outs k)=withs p id outs (k+1):=by
  unfold withs
  have:=znY (id:=id) h []
  simp only[List.nil_append] at this;rw[←this,List.foldl_append];rfl
theorem zrW {p:List Coin} {id:Ab.Id} {outs:List Out}:∀{k:Nat},k≤outs.length→(withs p id outs k).length≤p.length+k
  | 0,_=>by unfold withs newN;simp
  | k+1,h=>by
    have:=zrW (p:=p) (id:=id) (outs:=outs) (k:=k) ya
    rw[←zli (ub (show k<outs.length by omega))]
    have:=zrX (c:=⟨⟨id,(k:Int)⟩,outs[k]⟩) (d:=false) (l:=withs p id outs k)
    omega
theorem zph {p:List Coin} {id:Ab.Id} {outs:List Out} (hs:Sorted p) (hn:(p.any fun c=>decide (c.inn.tx=id))=false):∀{k:Nat},k≤outs.length→(withs p id outs k).Perm (p++newN id outs k)∧Sorted (withs p id outs k)
  | 0,_=>by unfold withs newN;simp;exact hs
  | k+1,h=>by
    have ho:=ub (show k<outs.length by omega);obtain⟨h1,h2⟩:=zph (outs:=outs) hs hn (k:=k) ya;have hap:=zja (id:=id) (outs:=outs) (k:=k+1) (Sorted.apart hs) hn;rw[←znY ho p] at hap ⊢;rw[←zli ho];refine⟨zlj.trans (List.Perm.append_right _ h1),zlY h2 fun x hx=>?_⟩;have h3:=(List.pairwise_append.1 hap).2.2 x (h1.mem_iff.1 hx) ⟨⟨id,(k:Int)⟩,outs[k]⟩ yw;have h4:=zcm x.inn (⟨⟨id,(k:Int)⟩,outs[k]⟩:Coin).inn;omega
theorem zpg {p:List Coin} {t:Tx} (hs:Sorted p) (hm:(zaW p t).2=0):withs p (idOf t) t.outs t.outs.length=(zaW p t).1:=by
  unfold zaW at hm ⊢
  split
  · rename_i e;rw[ut e] at hm;exact absurd hm yn
  rename_i h;have hn:(p.any fun c=>decide (c.inn.tx=idOf t))=false:=by simpa using h
  obtain⟨h1,h2⟩:=zph (outs:=t.outs) hs hn (ug _);refine znu (zja (Sorted.apart hs) hn) h1 ?_;exact List.Pairwise.imp (fun {a b} h=>by have:=zcm a.inn b.inn;omega) h2
theorem zgQ {p:List Coin} {t:Tx}:(zaW p t).2=if (p.any fun c=>decide (c.inn.tx=idOf t))=true then 10 else 0:=by unfold zaW;split<;>rfl
theorem rwith_ok (p:List Coin) (c:Coin) (hp:p.length≤1000):Tells P 301 [.val (bsl zaz) p,.val zaz c] (.fresh 228 zaz (zfH c false p)):=by
 refine zc Tryz.func301 rfl rfl rfl (fun ext w hext=>?_);refine ze (d:=0) rfl zi (fun hsl0=>?_);refine qca ?_;refine CNQR ?_;refine A0 aL ?_;refine CNQR ?_;refine qcc ?_;refine zbd (T:=zaz) (d:=5) 228 rfl ?_;refine Lp (ι:=Nat×List Coin×Bool) 2 (fun(k,out,d)=>((((Fr.none.set 0 (.val (bsl zaz) p)).set 3 (.ptr 0 0)).set 5 (.own 1)).set 6 (.val zs d)).set 7 (.val i64T (k:Int))) (fun(k,out,d)=>(Hp.none.set 0 (.box 228 zaz c)).set 1 (.row 228 zaz out)) (fun(k,out,d)=>k≤p.length∧out.length≤2*k∧out++zfH c d (p.drop k)=zfH c false p) (fun(k,out,d)=>p.length-k) ((0,[],false)) (⟨uf _,by simp,rfl⟩) ?_;intro⟨k,out,d⟩ hinv;dsimp only at hinv;refine qaW ?_;refine qdn ?_;refine qav ?_;refine Cf (p:=k<p.length) (fun ht12=>?_) (fun ht12=>?_)
 ·
  obtain⟨x,hx⟩:∃x,p[k]?=some x:=⟨_,ub ht12⟩;refine qdi ?_;refine G0 (oLs rfl rfl rfl ze2) ?_;refine qbv ?_;refine G0 (zr (i:=k) rfl rfl rfl ya zfo yh) ?_;refine G0 (zh rfl rfl ze2) ?_;refine G0 (oCl (zpF _ _) rfl fn_298 ycj) ?_;refine zbW (d:=20) (p:=zaY c.inn x.inn<0) rfl yF (fun g20=>?_) (fun g20=>?_)
  ·
   refine qaV ?_;refine qaW ?_;refine A1 mV ?_;refine A1 oN ?_;refine zX (d:=24) (p:=d=false) rfl (by cases d<;>rfl) (fun g24=>?_) (fun g24=>?_)
   ·
    refine qao ?_;refine Ct ?_;refine qcb ?_;refine A0 (oLs rfl rfl rfl ze2) ?_;refine qbW ?_;refine xL ?_;refine A0 aO ?_;refine CNR ?_;refine qbX ?_;refine A0 mO ?_;refine qad ?_;refine A0 (zr (i:=k) rfl rfl rfl ya zfo yh) ?_;refine A0 (zh rfl rfl ze2) ?_;refine qbW ?_;refine xL ?_;refine qcH ?_;refine xu ?_;exact Nx ((k+1,out++[c]++[x],true)) yL yb2
   refine qao ?_;refine Cg ?_;refine CS ?_;refine qbE ?_;refine qad ?_;refine A0 (zr (i:=k) rfl rfl rfl ya zfo yh) ?_;refine A0 (zh rfl rfl ze2) ?_;refine qbW ?_;refine xL ?_;refine qcH ?_;refine qcs ?_;exact Nx ((k+1,out++[x],d)) yL yb2
  refine qaV ?_;refine qaW ?_;refine qbB ?_;refine qao ?_;refine Cg ?_;refine CS ?_;refine qbE ?_;refine qad ?_;refine A0 (zr (i:=k) rfl rfl rfl ya zfo yh) ?_;refine A0 (zh rfl rfl ze2) ?_;refine qbW ?_;refine xL ?_;refine qcH ?_;refine qcs ?_;exact Nx ((k+1,out++[x],d)) yL yb2
 refine CE ?_;refine qaF ?_;refine qaJ ?_;refine zq (p:=d=false) rfl (by cases d<;>rfl) (fun ht38=>?_) (fun ht38=>?_)
 ·
  refine qbE ?_;refine A0 (oLs rfl rfl rfl ze2) ?_;refine qbW ?_;refine xL ?_;refine qby ?_;refine qbJ ?_;exact zd rfl rfl (zf rfl rfl ycd)
 refine CSQR ?_;refine A0 mO ?_;refine qbJ ?_;exact zd rfl rfl (zf rfl rfl ycd)
theorem zvk (p:List Coin) (t:Tx) (hp:p.length≤100) (ht:t.outs.length≤100):Tells P 257 [.val (sl zaz) p,.val txT t] (.val (sl zaz) (withs p (idOf t) t.outs t.outs.length)):=by
 refine zc Tryz.func257 rfl rfl rfl (fun ext w hext=>?_);refine ze (d:=0) rfl zi (fun hsl0=>?_);refine qca ?_;refine CNQR ?_;refine qbF ?_;refine A0 (oCl (zvn _) rfl zv6 yc) ?_;refine qbV ?_;refine qaw ?_;refine zj (d:=0) (y:=withs p (idOf t) t.outs 0) rfl (by unfold withs newN;simp) ?_;refine Lp (ι:=Nat) 2 (fun (k:Nat)=>((((Fr.none).set 0 (.val (sl zaz) (withs p (idOf t) t.outs k))).set 3 (.ptr 0 0)).set 5 (.ptr 1 0)).set 6 (.val i64T (k:Int))) (fun (k:Nat)=>((Hp.none).set 0 (.box 133 txT t)).set 1 (.box 46 idT (idOf t))) (fun (k:Nat)=>k≤t.outs.length) (fun (k:Nat)=>t.outs.length-k) (0) (uf _) ?_;intro k hinv;refine qaF ?_;refine qaU ?_;refine qav ?_;refine Cf (p:=k<t.outs.length) (fun ht13=>?_) (fun ht13=>?_)
 ·
  obtain⟨o,ho⟩:∃o,t.outs[k]?=some o:=⟨_,ub ht13⟩;refine qa8 ?_;refine CD mixed ?_;refine G0 mV ?_;refine G0 (oLs rfl rfl rfl zab) ?_;refine G0 mV ?_;refine G0 (zB rfl ze_218 bd_218 (.cons zdd zeX zab rfl (.cons zb1 zfn ty_3 rfl .nil)) rfl) ?_;refine G0 (oFp zcb) ?_;refine G0 (oLb zbJ zeO) ?_;refine G0 mV ?_;refine G0 (zr (i:=k) rfl rfl rfl ya zf7 yh) ?_;refine G0 (zh rfl rfl zf3) ?_;refine G0 (zB rfl zrT bd_228 (.cons zbM zaJ zcc rfl (.cons zdY zcl zf3 rfl .nil)) rfl) ?_;refine G0 (oCl (zC (rwith_ok (withs p (idOf t) t.outs k) ⟨⟨idOf t,(k:Int)⟩,o⟩ (by have:=zrW (p:=p) (id:=idOf t) hinv;omega))) rfl fn_301 ye) ?_;refine qaV ?_;refine CI ?_;refine CR ?_;refine qak ?_;refine zj (d:=0) rfl (zli ho) ?_;exact Nx (k+1) ya ya
 obtain rfl:k=t.outs.length:=ya;refine qcu ?_;refine qac ?_;exact zd rfl rfl (za rfl rfl)
theorem zoi {p:List Coin} {x:In} {k:Nat} {c:Coin} (hs:Sorted p) (hc:p[k]?=some c) (hx:c.inn=x) (lo hi:Nat) (h1:lo≤k) (h2:k≤hi) (h3:hi≤p.length):halves (fun c=>zaY c.inn x) p lo hi=k:=by
  obtain⟨hk,hk2⟩:=ul.1 hc;rw[halves]
  split
  · rename_i hlt
    have hm:(lo+hi)/2<p.length:=ya;rw[ub hm];simp only[]
    split
    · rename_i h0
      refine zoi hs hc hx _ _ ?_ h2 h3;rcases Nat.lt_trichotomy ((lo+hi)/2) k with h|h|h
      · omega
      · simp only[h,hk2,hx] at h0
        have:=zch.2 (rfl:x=x);omega
      have:=List.pairwise_iff_getElem.1 hs k _ hk hm h
      rw[hk2,hx] at this
      have:=zcm x (p[(lo+hi)/2]).inn;omega
    rename_i h0;refine zoi hs hc hx _ _ h1 ?_ ya;rcases Nat.lt_trichotomy ((lo+hi)/2) k with h|h|h
    · have:=List.pairwise_iff_getElem.1 hs _ k hm hk h
      rw[hk2,hx] at this;exact absurd this h0
    · omega
    omega
  omega
termination_by hi-lo
theorem takeIns_at {p:List Coin} {x:In} {l:List In} {n:Int} {k:Nat} {c:Coin} (hs:Sorted p) (hc:p[k]?=some c) (hx:c.inn=x):zbE p n (x::l)=zbE (p.take k++p.drop (k+1)) (IntKind.i64.wrap (n+c.out.v)) l:=by
  have hk:=(ul.1 hc).1;have hp:placeOf p x=k:=zoi hs hc hx _ _ (uf _) (Nat.le_of_lt hk) (ug _);rw[zbE.eq_2,hp,hc];simp only[];rw[ut (zch.2 hx)]
theorem ztS {p:List Coin} {x:In} {l:List In} {n:Int} (h:∀c∈p,c.inn≠x):zbE p n (x::l)=none:=by
  rw[zbE.eq_2]
  split
  · rfl
  rename_i c hc;rw[ur fun e=>h c (ud hc) (zch.1 e)]
theorem zse {p:List Coin} {t:Tx} (hp:zaw p=true) (ht:zaN t=true) (hne:t.ins≠[]) (h:zbE p 0 t.ins=none):zN p t=(p,0,8):=by
  unfold zN;rw[ur (Classical.not_not.2 ⟨hp,ht,hne⟩),h]
theorem zhN {p rest:List Coin} {t:Tx} {n:Int} (hp:zaw p=true) (ht:zaN t=true) (hne:t.ins≠[]) (h:zbE p 0 t.ins=some (rest,n)):zN p t=if n<zcU (·.v) t.outs then (p,0,8) else if (rest.any fun c=>decide (c.inn.tx=idOf t))=true then (p,0,10) else if 48<(zaW rest t).1.length then (p,0,11) else ((zaW rest t).1,n-zcU (·.v) t.outs,0):=by
  obtain⟨h1,h2,h3⟩:=zac.1 hp;have hT:=zeB h1 h3;have h4:=zhL h h1 h3 (Int.le_refl _) ya;have hr:=zjN (f:=fun c:Coin=>c.out.v) (l:=rest) fun c hc=>(zhC h1 c ((ze4 h).subset hc)).1
  have ho:=zmR ht;rw[←ho.1] at ho;have e:IntKind.i64.wrap (n-zcU (·.v) t.outs)=n-zcU (·.v) t.outs:=zah ya;unfold zN;rw[ur (Classical.not_not.2 ⟨hp,ht,hne⟩),h];simp only[];rw[e,zgQ];by_cases c1:n<zcU (·.v) t.outs
  · rw[ut ya,ut c1]
  rw[ur ya,ur c1];by_cases c2:(rest.any fun c=>decide (c.inn.tx=idOf t))=true
  · simp only[ut c2];rfl
  simp only[ur c2,if_true]
theorem zso (p:List Coin) (t:Tx):Tells P 252 [.val (sl zaz) p,.val txT t] (.tup3 (.val (sl zaz) (zN p t).1) (.val i64T (zN p t).2.1) (.val i64T (zN p t).2.2)):=by
 refine zc Tryz.func252 rfl rfl rfl (fun ext w hext=>?_);refine ze (d:=0) rfl zi (fun hsl0=>?_);refine ze (d:=1) rfl zm1 (fun htl=>?_);refine qca ?_;refine A0 aV ?_;refine qaA ?_;refine A0 (oCl (rmay_ok _) rfl fn_251 yc) ?_;refine qah ?_;refine qbF ?_;refine A0 (oCl (znK _) rfl fn_253 yc) ?_;refine qaj ?_;refine A0 oN ?_;refine zX (d:=20) (p:=¬zaw p=true) rfl yw (fun g20=>?_) (fun g20=>?_)
 ·
  refine qau ?_;refine qbB ?_;refine qbu ?_;refine Ct ?_;refine qa7 ?_;refine A0 aV ?_;refine qaI ?_;have hS:zN p t=(p,0,1):=by unfold zN;rw[ut (fun h=>g20 h.1)]
  exact zb7 rfl rfl (za rfl yB) (za rfl yB) (za rfl yB)
 refine qbR ?_;refine A1 oN ?_;refine zX (d:=23) (p:=¬zaN t=true) rfl yw (fun g23=>?_) (fun g23=>?_)
 ·
  refine qbu ?_;refine Ct ?_;refine qa7 ?_;refine A0 aV ?_;refine qaI ?_;have hS:zN p t=(p,0,1):=by unfold zN;rw[ut (fun h=>g23 h.2.1)]
  exact zb7 rfl rfl (za rfl yB) (za rfl yB) (za rfl yB)
 refine qaf ?_;refine A1 (oFp zcy) ?_;refine A1 (oLb zcS zfz) ?_;refine A1 (zat rfl rfl zgf) ?_;refine A1 zbZ ?_;refine Sp (d:=29) (p:=t.ins.length=0) (fun g29=>?_) (fun g29=>?_)
 ·
  refine qao ?_;refine Ct ?_;refine qa7 ?_;refine A0 aV ?_;refine qaI ?_;have hS:zN p t=(p,0,1):=by unfold zN;rw[ut (fun h=>h.2.2 (List.eq_nil_of_length_eq_zero g29))]
  exact zb7 rfl rfl (za rfl yB) (za rfl yB) (za rfl yB)
 have hmp:=ua g20;have hmt:=ua g23;have hpl:=zcI hmp;have hne:t.ins≠[]:=fun e=>g29 (by rw[e];rfl)
 have hlens:=zdv hmt;refine qao ?_;refine Cg ?_;refine qbw ?_;refine zcE rfl rfl rfl rfl rfl rfl zgJ ybB ?_;refine A0 aO ?_;refine CNQR ?_;refine qcc ?_;refine zfh (d:=9) rfl rfl ?_;refine Lp (ι:=Nat×List Coin×Int) 1 (fun(k,rest,n)=>((((Fr.none.set 0 (.val (sl zaz) p)).set 3 (.ptr 0 0)).set 9 (.val (sl zaz) rest)).set 10 (.val i64T n)).set 11 (.val i64T (k:Int))) (fun(k,rest,n)=>Hp.none.set 0 (.box 133 txT t)) (fun(k,rest,n)=>k≤t.ins.length∧Sorted rest∧rest.length≤48∧zbE p 0 t.ins=zbE rest n (t.ins.drop k)) (fun(k,rest,n)=>t.ins.length-k) ((0,p,0)) (⟨uf _,(zac.1 hmp).2.1,hpl,rfl⟩) ?_;intro⟨k,rest,n⟩ hinv;dsimp only at hinv;refine qaF ?_;refine qa9 ?_;refine qav ?_;refine Cf (p:=k<t.ins.length) (fun ht38=>?_) (fun ht38=>?_)
 ·
  obtain⟨x,hx⟩:∃x,t.ins[k]?=some x:=⟨_,ub ht38⟩;have hdr:t.ins.drop k=x::t.ins.drop (k+1):=by rw[List.drop_eq_getElem_cons ht38];congr 1;exact(ul.1 hx).2
  refine qbh ?_;refine qcW ?_;refine qau ?_;refine A0 (zr (i:=k) rfl rfl rfl ya ze5 yh) ?_;refine A0 (zh rfl rfl zcc) ?_;refine A0 (oCl (rfind_ok _ _) rfl fn_299 ycj) ?_;refine qaj ?_;refine qav ?_;refine Cf (p:=zox rest x<0) (fun ht49=>?_) (fun ht49=>?_)
  ·
   refine qa7 ?_;refine A0 aV ?_;refine qaI ?_;have hS:zN p t=(p,0,8):=by exact zse hmp hmt hne (by rw[hinv.2.2.2,hdr];exact ztS (findC_none ht49))
   exact zb7 rfl rfl (za rfl yB) (za rfl yB) (za rfl yB)
  obtain⟨c,hc,hcx,_⟩:=findC_some (Int.not_lt.1 ht49);obtain⟨i,hi⟩:∃i:Nat,zox rest x=i:=⟨_,(Int.toNat_of_nonneg (Int.not_lt.1 ht49)).symm⟩;rw[hi,Int.toNat_natCast] at hc;have hil:=(ul.1 hc).1;refine zj (d:=12) (y:=(i:Int)) rfl hi ?_;refine qcz ?_;refine qau ?_;refine A0 (zr (i:=i) rfl rfl rfl ya zfo yh) ?_;refine A0 (oFr zdY zcl) ?_;refine A0 (oFr zcx zd7) ?_;refine qaR ?_;refine A0 zcn ?_;refine qac ?_;refine zH [some 1,some 1,some 1,none,some 2,some 2,some 2,some 2,none,some 1] mixed yd ?_;refine qbG ?_;refine X0 (by first|exact zfV rfl rfl rfl yaC zfo|exact zkQ rfl rfl rfl zfo yg) ?_;refine XK.e (fun fr' hfr kk H=>by exact zcE rfl rfl rfl rfl rfl ((hfr 61 yd).trans rfl) zgJ ybB (zM H)) ?_;refine XK.g2 (g_mv (.inl rfl) rfl) (g_mv (.inl rfl) rfl) rfl rfl rfl ?_;refine XK.g2 (g_mv (.inl rfl) rfl) (g_mv (.inl rfl) rfl) rfl rfl rfl ?_;refine XK.g2 ybK ybK rfl rfl rfl ?_;refine XK.g2 (ziT rfl rfl rfl zfo yg) (ziT rfl rfl rfl zfo yg) rfl rfl rfl ?_;refine XK.e (fun fr' hfr kk H=>by exact zo rfl rfl rfl rfl ((hfr 62 yd).trans rfl) rfl ((hfr 66 yd).trans rfl) zgJ ybB (zM H)) ?_;refine X0 aO ?_;refine qaX ?_;refine qak ?_;refine zfh (d:=9) rfl rfl ?_;exact Nx ((k+1,rest.take i++rest.drop (i+1),IntKind.i64.wrap (n+c.out.v))) (⟨by omega,zp1 _ hinv.2.1,by simp;omega,by rw[hinv.2.2.2,hdr,takeIns_at hinv.2.1 hc hcx]⟩) (by show _<t.ins.length-k;simp only[];omega)
 obtain rfl:k=t.ins.length:=ya;have htk:zbE p 0 t.ins=some (rest,n):=by rw[hinv.2.2.2,List.drop_of_length_le (ug _)];rfl
 refine CE ?_;refine CQQR ?_;refine qbF ?_;refine A0 (oCl (znD _) rfl fn_256 yc) ?_;refine qau ?_;refine qbT ?_;refine Cf (p:=n<zcU (·.v) t.outs) (fun ht71=>?_) (fun ht71=>?_)
 ·
  refine qa7 ?_;refine A0 aV ?_;refine qaI ?_;have hS:zN p t=(p,0,8):=by rw[zhN hmp hmt hne htk];rw[ut ht71]
  exact zb7 rfl rfl (za rfl yB) (za rfl yB) (za rfl yB)
 refine qbw ?_;refine qbF ?_;refine A0 (oCl (zvn _) rfl zv6 yc) ?_;refine A0 (oCl (zsm _ _) rfl fn_254 ye) ?_;refine qaj ?_;refine CN ?_;refine zq (p:=(rest.any fun c=>decide (c.inn.tx=idOf t))=true) rfl (Bool.decide_eq_true.symm) (fun ht77=>?_) (fun ht77=>?_)
 ·
  refine qa7 ?_;refine A0 aV ?_;refine qaI ?_;have hS:zN p t=(p,0,10):=by rw[zhN hmp hmt hne htk];rw[ur ht71,ut ht77]
  exact zb7 rfl rfl (za rfl yB) (za rfl yB) (za rfl yB)
 have hz:(zaW rest t).2=0:=by rw[zgQ,ur ht77]
 obtain⟨hm1,hm2,hm3⟩:=zac.1 hmp;have hT:=zeB hm1 hm3;have hTt:=zhL htk hm1 hm3 (Int.le_refl _) ya;have hTo:=zmR hmt;rw[←hTo.1] at hTo;have hTr:=zjN (f:=fun c:Coin=>c.out.v) (l:=rest) fun c hc=>(zhC hm1 c ((ze4 htk).subset hc)).1
 refine qbw ?_;refine qbF ?_;refine A0 (oCl (zvk rest t ya ya) rfl fn_257 ye) ?_;refine zj (d:=81) (y:=(zaW rest t).1) rfl (zpg hinv.2.1 hz) ?_;refine qaj ?_;refine qdn ?_;refine qbT ?_;refine Cf (p:=48<(zaW rest t).1.length) (fun ht84=>?_) (fun ht84=>?_)
 ·
  refine qa7 ?_;refine A0 aV ?_;refine qaI ?_;have hS:zN p t=(p,0,11):=by rw[zhN hmp hmt hne htk];rw[ur ht71,ur ht77,ut ht84]
  exact zb7 rfl rfl (za rfl yB) (za rfl yB) (za rfl yB)
 refine qcz ?_;refine qbF ?_;refine A0 (oCl (znD _) rfl fn_256 yc) ?_;refine A0 za5 ?_;refine A0 aV ?_;refine qaI ?_;have hS:zN p t=((zaW rest t).1,n-zcU (·.v) t.outs,0):=by rw[zhN hmp hmt hne htk];rw[ur ht71,ur ht77,ur ht84]
 exact zb7 rfl rfl (za rfl yB) (za rfl yB) (za rfl yB)
theorem rapply_ok (p:List Coin) (l:List Tx):Tells P 193 [.val (sl zaz) p,.val (sl txT) l] (.tup2 (.val (sl zaz) (zK p l).1) (.val i64T (zK p l).2)):=by
 refine zc Tryz.func193 rfl rfl rfl (fun ext w hext=>?_);refine ze (d:=0) rfl zi (fun hsl0=>?_);refine ze (d:=1) rfl zi (fun hsl1=>?_);refine qap ?_;refine qaA ?_;refine A0 (oCl (rmay_ok _) rfl fn_251 yc) ?_;refine qaj ?_;refine qaJ ?_;refine zq (p:=¬zaw p=true) rfl yw (fun ht18=>?_) (fun ht18=>?_)
 ·
  refine qa7 ?_;refine qaI ?_;have hS:zK p l=(p,1):=by unfold zK;rw[ut ht18]
  exact zx rfl rfl (za rfl yB) (za rfl yB)
 have hmp:=ua ht18;have hpl:=zcI hmp;have hT:=zeB (zac.1 hmp).1 (zac.1 hmp).2.2;refine qbP ?_;refine qbZ ?_;refine qbT ?_;refine Cf (p:=4<l.length) (fun ht22=>?_) (fun ht22=>?_)
 ·
  refine qa7 ?_;refine qaI ?_;have hS:zK p l=(p,3):=by unfold zK;rw[ur (Classical.not_not.2 hmp),ut ht22]
  exact zx rfl rfl (za rfl yB) (za rfl yB)
 refine qbw ?_;refine qah ?_;refine qcc ?_;refine Lp (ι:=Nat×List Coin×Int) 0 (fun(k,out,left)=>((((Fr.none.set 0 (.val (sl zaz) p)).set 1 (.val (sl txT) l)).set 7 (.val (sl zaz) out)).set 8 (.val i64T left)).set 9 (.val i64T (k:Int))) (fun(k,out,left)=>Hp.none) (fun(k,out,left)=>k≤l.length∧zaw out=true∧zeo p 50 (zea l 0)=zeo out (50+left) (zea l k)∧0≤left∧tot (·.out.v) out+left=tot (·.out.v) p) (fun(k,out,left)=>l.length-k) ((0,p,0)) (⟨uf _,hmp,rfl,Int.le_refl _,by simp⟩) ?_;intro⟨k,out,left⟩ hinv;dsimp only at hinv;refine qaW ?_;refine qbZ ?_;refine qav ?_;refine Cf (p:=k<l.length) (fun ht28=>?_) (fun ht28=>?_)
 ·
  obtain⟨t,hx⟩:∃t,l[k]?=some t:=⟨_,ub ht28⟩;obtain⟨t0,ht0⟩:∃t0,l[0]?=some t0:=yq;have hif:=zjn ht0;refine qa8 ?_;refine qaF ?_;refine A0 zbZ ?_;refine Sp (d:=32) (p:=k=0) (fun g32=>?_) (fun g32=>?_)
  ·
   refine qau ?_;refine qbj ?_;refine A1 zbZ ?_;refine Sp (d:=39) (p:=t0.ins.length=0) (fun g39=>?_) (fun g39=>?_)
   ·
    refine qao ?_;refine Ct ?_;refine CE ?_;refine CR ?_;refine qak ?_;exact Nx ((k+1,out,left)) yY yaA
   have hnf:¬(zc8 l=true∧k=0):=fun h=>g39 (by have:=h.1;rw[hif] at this;exact of_decide_eq_true this)
   refine qao ?_;refine Cg ?_;refine qcz ?_;refine qau ?_;refine A0 (zr (i:=k) rfl rfl rfl ya zkq yh) ?_;refine A0 (zh rfl rfl zfy) ?_;refine A0 (oCl (zso out t) rfl fn_252 ycj) ?_;refine qa6 ?_;refine A0 e32 ?_;refine A0 aV ?_;refine A0 aV ?_;refine qaj ?_;refine qaO ?_;refine zq (p:=¬(zN out t).2.2=0) rfl yN (fun ht52=>?_) (fun ht52=>?_)
   ·
    refine CQR ?_;refine qad ?_;refine qaI ?_;have hS:zK p l=(p,(zN out t).2.2):=ycD;exact zx rfl rfl (za rfl yB) (za rfl yB)
   have hs:=zjO (t:=t) hinv.2.1;have hsm:=zeT (t:=t) hinv.2.1;have hsc:=zeB (zac.1 hsm).1 (zac.1 hsm).2.2;have hgo:=zga (room:=50+left) hnf hx (ua ht52);have hw:IntKind.i64.wrap (50+left+(zN out t).2.1)=50+(left+(zN out t).2.1):=by rw[zah ya];omega
   rw[hw] at hgo;refine qbw ?_;refine qbX ?_;refine qad ?_;refine A0 zcn ?_;refine A0 aV ?_;refine qaK ?_;exact Nx ((k+1,(zN out t).1,left+(zN out t).2.1)) yY yaA
  have hnf:¬(zc8 l=true∧k=0):=fun h=>g32 h.2
  refine qau ?_;refine qbc ?_;refine qao ?_;refine Cg ?_;refine qcz ?_;refine qau ?_;refine A0 (zr (i:=k) rfl rfl rfl ya zkq yh) ?_;refine A0 (zh rfl rfl zfy) ?_;refine A0 (oCl (zso out t) rfl fn_252 ycj) ?_;refine qa6 ?_;refine A0 e32 ?_;refine A0 aV ?_;refine A0 aV ?_;refine qaj ?_;refine qaO ?_;refine zq (p:=¬(zN out t).2.2=0) rfl yN (fun ht52=>?_) (fun ht52=>?_)
  ·
   refine CQR ?_;refine qad ?_;refine qaI ?_;have hS:zK p l=(p,(zN out t).2.2):=ycD;exact zx rfl rfl (za rfl yB) (za rfl yB)
  have hs:=zjO (t:=t) hinv.2.1;have hsm:=zeT (t:=t) hinv.2.1;have hsc:=zeB (zac.1 hsm).1 (zac.1 hsm).2.2;have hgo:=zga (room:=50+left) hnf hx (ua ht52);have hw:IntKind.i64.wrap (50+left+(zN out t).2.1)=50+(left+(zN out t).2.1):=by rw[zah ya];omega
  rw[hw] at hgo;refine qbw ?_;refine qbX ?_;refine qad ?_;refine A0 zcn ?_;refine A0 aV ?_;refine qaK ?_;exact Nx ((k+1,(zN out t).1,left+(zN out t).2.1)) yY yaA
 have hrun:zeo p 50 (zea l 0) = .inr (out,50+left):=by rw[hinv.2.2.1,zlw k ya];rfl
 have hoc:=zeB (zac.1 hinv.2.1).1 (zac.1 hinv.2.1).2.2;have hol:=zcI hinv.2.1;refine CE ?_;refine qaF ?_;refine qbZ ?_;refine A0 zbZ ?_;refine Sp (d:=61) (p:=l.length=0) (fun g61=>?_) (fun g61=>?_)
 ·
  refine qau ?_;refine qbc ?_;refine qao ?_;refine Ct ?_;refine qa7 ?_;refine qaI ?_;have hS:zK p l=(out,0):=by unfold zK;rw[ur (Classical.not_not.2 hmp),ur ht22];rw[hrun];simp only[zh3 (show ¬0<l.length by omega)];rfl
  exact zx rfl rfl (za rfl yB) (za rfl yB)
 obtain⟨t0,ht0⟩:∃t0,l[0]?=some t0:=yq;have hif:=zjn ht0;refine qau ?_;refine qbj ?_;refine qdo ?_;refine Sp (d:=68) (p:=0<t0.ins.length) (fun g68=>?_) (fun g68=>?_)
 ·
  refine qao ?_;refine Ct ?_;refine qa7 ?_;refine qaI ?_;have hS:zK p l=(out,0):=by unfold zK;rw[ur (Classical.not_not.2 hmp),ur ht22];rw[hrun];simp only[show zc8 l=false by rw[hif];exact uh ya];rfl
  exact zx rfl rfl (za rfl yB) (za rfl yB)
 have hf:zc8 l=true:=by rw[hif];exact ui ya
 refine qao ?_;refine Cg ?_;refine qbw ?_;refine qbd ?_;refine A0 (oCl (znK _) rfl fn_253 ycg) ?_;refine qaj ?_;refine qaJ ?_;refine zq (p:=¬zaN t0=true) rfl yw (fun ht76=>?_) (fun ht76=>?_)
 ·
  refine qa7 ?_;refine qaI ?_;have hS:zK p l=(p,1):=by unfold zK;rw[ur (Classical.not_not.2 hmp),ur ht22];rw[hrun];simp only[ut hf,ht0];rw[ut ht76]
  exact zx rfl rfl (za rfl yB) (za rfl yB)
 have hmt:=ua ht76;refine qcz ?_;refine qbd ?_;refine A0 (oCl (zvn _) rfl zv6 ycg) ?_;refine A0 (oCl (zsm _ _) rfl fn_254 ye) ?_;refine qaj ?_;refine CN ?_;refine zq (p:=(out.any fun c=>decide (c.inn.tx=idOf t0))=true) rfl (Bool.decide_eq_true.symm) (fun ht84=>?_) (fun ht84=>?_)
 ·
  refine qa7 ?_;refine qaI ?_;have hS:zK p l=(p,10):=by unfold zK;rw[ur (Classical.not_not.2 hmp),ur ht22];rw[hrun];simp only[ut hf,ht0];rw[ur (Classical.not_not.2 hmt),zgQ,ut ht84,ut yn]
  exact zx rfl rfl (za rfl yB) (za rfl yB)
 have hz:(zaW out t0).2=0:=by rw[zgQ,ur ht84]
 refine qbP ?_;refine qbd ?_;refine A0 (oCl (znD _) rfl fn_256 ycg) ?_;refine qc2 ?_;refine qbT ?_;refine Cf (p:=50+left<zcU (·.v) t0.outs) (fun ht92=>?_) (fun ht92=>?_)
 ·
  refine qa7 ?_;refine qaI ?_;have hS:zK p l=(p,8):=by unfold zK;rw[ur (Classical.not_not.2 hmp),ur ht22];rw[hrun];simp only[ut hf,ht0];rw[ur (Classical.not_not.2 hmt),ur (by rw[hz];simp),ut ht92]
  exact zx rfl rfl (za rfl yB) (za rfl yB)
 refine qcz ?_;refine qbd ?_;refine A0 (oCl (zvk out t0 ya (by have:=zdv hmt;omega)) rfl fn_257 ycj) ?_;refine zj (d:=98) (y:=(zaW out t0).1) rfl (zpg (zac.1 hinv.2.1).2.1 hz) ?_;refine qaj ?_;refine qdn ?_;refine qbT ?_;refine Cf (p:=48<(zaW out t0).1.length) (fun ht101=>?_) (fun ht101=>?_)
 ·
  refine qa7 ?_;refine qaI ?_;have hS:zK p l=(p,11):=by unfold zK;rw[ur (Classical.not_not.2 hmp),ur ht22];rw[hrun];simp only[ut hf,ht0];rw[ur (Classical.not_not.2 hmt),ur (by rw[hz];simp),ur ht92,ut ht101]
  exact zx rfl rfl (za rfl yB) (za rfl yB)
 refine qbw ?_;refine qaI ?_;have hS:zK p l=((zaW out t0).1,0):=by unfold zK;rw[ur (Classical.not_not.2 hmp),ur ht22];rw[hrun];simp only[ut hf,ht0];rw[ur (Classical.not_not.2 hmt),ur (by rw[hz];simp),ur ht92,ur ht101]
 exact zx rfl rfl (za rfl yB) (za rfl yB)
end Go.Proofs.YtjjlfapfjjkomaaGreat
