/- Parts of the proof: the layer that reads Go values as data, and what the functions of the program tell. -/
import Derived.Test.YtjjlfapfjjkomaaGreatK4
set_option linter.unusedVariables false
set_option linter.unusedSimpArgs false
set_option maxRecDepth 20000
namespace Go.Proofs.YtjjlfapfjjkomaaGreat
open Go.Ab Go.RowKit
theorem cb_split {x y:UInt8} {a b:List UInt8} (h:x≠y):Lib.compareBytes (x::a) (y::b)<0↔x<y:=by
  unfold Lib.compareBytes;by_cases h1:x<y
  · simp[h1]
  have h2 : y < x := by
    rcases UInt8.lt_or_lt_of_ne h with h|h
    · exact absurd h h1
    exact h
  simp[h1,h2]
theorem cb_same:∀{p a b:List UInt8},Lib.compareBytes (p++a) (p++b)=Lib.compareBytes a b
  | [],_,_=>rfl
  | x::p,a,b=>by
    rw[List.cons_append,List.cons_append,Lib.compareBytes,ur (UInt8.lt_irrefl _),ur (UInt8.lt_irrefl _)];exact cb_same
theorem less_at {a b:List UInt8} {k:Nat} (ha:k<a.length) (hb:k<b.length) (h:a.take k=b.take k) (hn:a.getD k default≠b.getD k default):decide (a.getD k default<b.getD k default)=decide (Lib.compareBytes a b<0):=by
  rw[uo];have e1:a=a.take k++a[k]::a.drop (k+1):=by rw[←List.drop_eq_getElem_cons ha,List.take_append_drop]
  have e2:b=a.take k++b[k]::b.drop (k+1):=by rw[h,←List.drop_eq_getElem_cons hb,List.take_append_drop]
  have g1:a.getD k default=a[k]:=by simp[List.getD,ha]
  have g2:b.getD k default=b[k]:=by simp[List.getD,hb]
  rw[g1,g2] at hn ⊢
  have:Lib.compareBytes a b=Lib.compareBytes (a[k]::a.drop (k+1)) (b[k]::b.drop (k+1)):=by
    conv=>lhs;rw[e1,e2]
    exact cb_same
  rw[this];exact(cb_split hn).symm
theorem take_same {α:Type} [Inhabited α] {a b:List α} {k:Nat} (ha:k<a.length) (hb:k<b.length) (h:a.take k=b.take k) (hn:a.getD k default=b.getD k default):a.take (k+1)=b.take (k+1):=by
  rw[un,un,h,ub ha,ub hb];congr 2;simpa [List.getD,ha,hb] using hn
theorem fact_id {a:Ab.Id} {ρ:Nat→Value} {B:Nat→Prop} {U N:Nat→Prop} {w:World} {v:Value} (h:(AV.val idT a).rel ρ B U N w v):a.length=32:=by
  obtain⟨cs,h,_⟩:=h;exact h.1
theorem zoR {a b:In}:decide (zaY a b<0)=(decide (Lib.compareBytes a.tx b.tx<0)||(decide (a.tx=b.tx)&&decide (a.i<b.i))):=by
  rw[zkF];by_cases h:Lib.compareBytes a.tx b.tx=0
  · have h':=zi8.1 h
    rw[ut h,h];simp only[h',zi5];by_cases c:a.i<b.i<;>by_cases d:b.i<a.i<;>simp[c,d]
  rw[ur h];have h':¬a.tx=b.tx:=fun e=>h (zi8.2 e)
  simp[h']
theorem zrN {α:Type} {f:α→Bool} {p:List α} {k:Nat} {c:α} (h:(p.take k).any f=false) (hp:p[k]?=some c) (hf:f c=false):(p.take (k+1)).any f=false:=by
  rw[un,hp,List.any_append,h];simp[hf]
theorem zuK {α:Type} {f:α→Bool} {p:List α} {c:α} {k:Nat} (hp:p[k]?=some c) (hf:f c=true):p.any f=true:=List.any_eq_true.2 ⟨c,ud hp,hf⟩
theorem zbI {α:Type} {f:α→Bool} {p:List α} {c:α} {j k:Nat} (hp:p[j]?=some c) (hj:j<k) (hf:f c=true):(p.take k).any f=true:=zuK (k:=j) (by rw[List.getElem?_take_of_lt hj];exact hp) hf
theorem zgd {t:Tx} {o:Out} {k:Nat} (h:t.outs[k]?=some o) (hb:o.v<1∨1099511627776<o.v∨o.to<0∨255<o.to):zaN t=false:=by
  have:t.outs.any zma=true:=zuK h (ui hb)
  unfold zaN;rw[this];simp
theorem rless_ok (a b:Ab.Id):Tells P 324 [.val idT a,.val idT b] (.val zs (decide (Lib.compareBytes a b<0))):=by
 refine zc Tryz.func324 rfl rfl rfl (fun ext w hext=>?_);refine ze (d:=0) rfl fact_id (fun ha=>?_);refine ze (d:=1) rfl fact_id (fun hb=>?_);refine qa3 ?_;refine qcc ?_;refine Lp (ι:=Nat) 2 (fun (k:Nat)=>(((Fr.none).set 2 (.ptr 0 0)).set 3 (.ptr 1 0)).set 5 (.val i64T (k:Int))) (fun (k:Nat)=>((Hp.none).set 0 (.box 46 idT a)).set 1 (.box 46 idT b)) (fun (k:Nat)=>k≤32∧a.take k=b.take k) (fun (k:Nat)=>32-k) (0) (⟨uf _,rfl⟩) ?_;intro k hinv;refine qaF ?_;refine qav ?_;refine Cf (p:=k<32) (fun ht7=>?_) (fun ht7=>?_)
 ·
  refine qdi ?_;refine G0 mV ?_;refine G0 (zG (i:=k) rfl rfl rfl yi zfj ya) ?_;refine xv ?_;refine G0 mV ?_;refine G0 (zG (i:=k) rfl rfl rfl yi zfj ya) ?_;refine xv ?_;refine G0 zgB ?_;refine GK.nil ?_;refine zq (p:=a.getD k default≠b.getD k default) rfl (by simp[IntL.toI];exact Int.ofNat_inj.trans UInt8.toNat_inj) (fun ht16=>?_) (fun ht16=>?_)
  ·
   refine qaG ?_;refine G0 mV ?_;refine G0 (zG (i:=k) rfl rfl rfl yi zfj ya) ?_;refine xv ?_;refine G0 mV ?_;refine G0 (zG (i:=k) rfl rfl rfl yi zfj ya) ?_;refine xv ?_;refine G0 zbb ?_;refine qaV ?_;exact zd rfl rfl (za rfl ((by simp[IntL.toI,UInt8.lt_iff_toNat_lt]:_=_).trans (less_at ya ya hinv.2 ht16)))
  refine qbN ?_;exact Nx (k+1) (⟨by omega,take_same ya ya hinv.2 (ua ht16)⟩) ya
 refine qcT ?_;exact zd rfl rfl (za rfl (uh (by have h:=hinv.2;rw[uc ya,uc ya] at h;rw[h,zi8.2 rfl];exact Int.lt_irrefl 0)).symm)
theorem zpF (a b:Coin):Tells P 298 [.val zaz a,.val zaz b] (.val zs (decide (zaY a.inn b.inn<0))):=by
 refine zc Tryz.func298 rfl rfl rfl (fun ext w hext=>?_);refine qa3 ?_;refine qah ?_;refine A0 (oFp zbM) ?_;refine A0 (oFp zdd) ?_;refine A0 (oLb (zaJ.comp zeX) zab) ?_;refine A0 (oFp zbM) ?_;refine A0 (oFp zdd) ?_;refine A0 (oLb (zaJ.comp zeX) zab) ?_;refine A0 (oCl (rless_ok _ _) rfl fn_324 ye) ?_;refine Sp (d:=12) (p:=Lib.compareBytes a.inn.tx b.inn.tx<0) (fun g12=>?_) (fun g12=>?_)
 ·
  refine qbr ?_;refine qbc ?_;refine qbB ?_;refine qci ?_;refine A3 ?_;refine A3 ?_;refine A2 ?_;refine qaS ?_;exact zd rfl rfl (za rfl (by rw[zoR];simp[g12]))
 refine qbr ?_;refine A1 (oFp zbM) ?_;refine A1 (oFp zdd) ?_;refine A1 (oLb (zaJ.comp zeX) zab) ?_;refine A1 (oFp zbM) ?_;refine A1 (oFp zdd) ?_;refine A1 (oLb (zaJ.comp zeX) zab) ?_;refine A1 (zim rfl rfl rfl (zjH)) ?_;refine zX (d:=21) (p:=a.inn.tx=b.inn.tx) rfl yw (fun g21=>?_) (fun g21=>?_)
 ·
  refine A1 mV ?_;refine A1 (oFp zbM) ?_;refine A1 (oFp zb1) ?_;refine A1 (oLb (zaJ.comp zfn) ty_3) ?_;refine A1 (oFp zbM) ?_;refine A1 (oFp zb1) ?_;refine A1 (oLb (zaJ.comp zfn) ty_3) ?_;refine A1 zbb ?_;refine A1 oK ?_;refine qaS ?_;exact zd rfl rfl (za rfl (by rw[zoR,uh g12,Bool.false_or,ui g21,Bool.true_and];rfl))
 refine A1 mV ?_;refine qbc ?_;refine A2 ?_;refine A1 oK ?_;refine qaS ?_;exact zd rfl rfl (za rfl (by rw[zoR,uh g12,uh g21];rfl))
theorem rmay_ok (p:List Coin):Tells P 251 [.val (bsl zaz) p] (.val zs (zaw p)):=by
 refine zc Tryz.func251 rfl rfl rfl (fun ext w hext=>?_);refine ze (d:=0) rfl zi (fun hsl0=>?_);refine CQR ?_;refine qcc ?_;refine Lp (ι:=Nat) 0 (fun (k:Nat)=>((Fr.none).set 0 (.val (bsl zaz) p)).set 3 (.val i64T (k:Int))) (fun (k:Nat)=>Hp.none) (fun (k:Nat)=>k≤p.length∧(List.range k).all (zi4 p)=true) (fun (k:Nat)=>p.length-k) (0) (⟨uf _,rfl⟩) ?_;intro k hinv;refine qaW ?_;refine qdn ?_;refine qav ?_;refine Cf (p:=k<p.length) (fun ht9=>?_) (fun ht9=>?_)
 ·
  obtain⟨c,hc⟩:∃c,p[k]?=some c:=ybF;refine qdm ?_;refine A0 (zr (i:=k) rfl rfl rfl ya zfo yh) ?_;refine A0 (zh rfl rfl ze2) ?_;refine z8 zrT rfl rfl rfl rfl ?_;refine zg rfl rfl rfl rfl rfl (Lens.self _) ze2 rfl ?_;refine CNQQR ?_;refine A0 (oFp zbM) ?_;refine A0 (oFp zb1) ?_;refine A0 (oLb (zaJ.comp zfn) ty_3) ?_;refine A0 zbb ?_;refine Sp (d:=19) (p:=c.inn.i<0) (fun g19=>?_) (fun g19=>?_)
  ·
   refine qau ?_;refine qdf ?_;refine qas ?_;refine qas ?_;refine qas ?_;refine qbu ?_;refine Ct ?_;refine qay ?_;exact zd rfl rfl (za rfl (zck hc ht9 ya).symm)
  refine qau ?_;refine A1 (oFp zbM) ?_;refine A1 (oFp zb1) ?_;refine A1 (oLb (zaJ.comp zfn) ty_3) ?_;refine A1 zer ?_;refine Sp (d:=24) (p:=3≤c.inn.i) (fun g24=>?_) (fun g24=>?_)
  ·
   refine qas ?_;refine qas ?_;refine qas ?_;refine qbu ?_;refine Ct ?_;refine qay ?_;exact zd rfl rfl (za rfl (zck hc ht9 ya).symm)
  refine qaf ?_;refine A1 (oFp zdY) ?_;refine A1 (oFp zcx) ?_;refine A1 (oLb (zcl.comp zd7) ty_3) ?_;refine A1 zbb ?_;refine Sp (d:=30) (p:=c.out.v<1) (fun g30=>?_) (fun g30=>?_)
  ·
   refine qas ?_;refine qas ?_;refine qbu ?_;refine Ct ?_;refine qay ?_;exact zd rfl rfl (za rfl (zck hc ht9 ya).symm)
  refine qaf ?_;refine A1 (oFp zdY) ?_;refine A1 (oFp zcx) ?_;refine A1 (oLb (zcl.comp zd7) ty_3) ?_;refine qdo ?_;refine Sp (d:=36) (p:=1099511627776<c.out.v) (fun g36=>?_) (fun g36=>?_)
  ·
   refine qas ?_;refine qbu ?_;refine Ct ?_;refine qay ?_;exact zd rfl rfl (za rfl (zck hc ht9 ya).symm)
  refine qaf ?_;refine A1 (oFp zdY) ?_;refine A1 (oFp zdz) ?_;refine A1 (oLb (zcl.comp zeL) ty_3) ?_;refine A1 zbb ?_;refine Sp (d:=42) (p:=c.out.to<0) (fun g42=>?_) (fun g42=>?_)
  ·
   refine qbu ?_;refine Ct ?_;refine qay ?_;exact zd rfl rfl (za rfl (zck hc ht9 ya).symm)
  refine qaf ?_;refine A1 (oFp zdY) ?_;refine A1 (oFp zdz) ?_;refine A1 (oLb (zcl.comp zeL) ty_3) ?_;refine qdo ?_;refine Sp (d:=48) (p:=255<c.out.to) (fun g48=>?_) (fun g48=>?_)
  ·
   refine qao ?_;refine Ct ?_;refine qay ?_;exact zd rfl rfl (za rfl (zck hc ht9 ya).symm)
  refine qao ?_;refine Cg ?_;refine CS ?_;refine qaG ?_;refine G0 mV ?_;refine G0 zbZ ?_;refine zbW (d:=51) (p:=k=0) rfl yF (fun g51=>?_) (fun g51=>?_)
  ·
   refine G0 mV ?_;refine qal ?_;refine G2 ?_;refine G0 oK ?_;refine qaV ?_;refine qa7 ?_;refine qaJ ?_;refine Cg ?_;refine qbN ?_;exact Nx (k+1) (⟨by omega,zc7 hinv.2 ybw⟩) ya
  obtain⟨b,hb⟩:∃b,p[k-1]?=some b:=yq;refine G0 mV ?_;refine G1 mV ?_;refine G1 mV ?_;refine G1 za5 ?_;refine G1 (zr (i:=k-1) rfl rfl rfl ya zfo yh) ?_;refine G1 (zh rfl rfl ze2) ?_;refine G1 (oLs rfl rfl rfl ze2) ?_;refine G1 (oCl (zpF _ _) rfl fn_298 yci) ?_;refine zbW (d:=59) (p:=zaY b.inn c.inn<0) rfl yF (fun g59=>?_) (fun g59=>?_)
  ·
   refine G0 oK ?_;refine qaV ?_;refine qa7 ?_;refine qaJ ?_;refine Cg ?_;refine qbN ?_;exact Nx (k+1) (⟨by omega,zc7 hinv.2 ybw⟩) ya
  refine G0 oK ?_;refine qaV ?_;refine qa7 ?_;refine qaJ ?_;refine Ct ?_;refine qay ?_;exact zd rfl rfl (za rfl (zi3 hc ht9 ya hb g59).symm)
 refine qcu ?_;refine qdn ?_;refine A0 zfp ?_;refine qac ?_;exact zd rfl rfl (za rfl ybg)
theorem rfind_ok (p:List Coin) (x:In):Tells P 299 [.val (bsl zaz) p,.val inT x] (.val i64T (zox p x)):=by
 refine zc Tryz.func299 rfl rfl rfl (fun ext w hext=>?_);refine ze (d:=0) rfl zi (fun hsl0=>?_);refine qae ?_;refine qcc ?_;refine Lp (ι:=Nat) 1 (fun (k:Nat)=>(((Fr.none).set 0 (.val (bsl zaz) p)).set 3 (.ptr 0 0)).set 5 (.val i64T (k:Int))) (fun (k:Nat)=>(Hp.none).set 0 (.box 218 inT x)) (fun (k:Nat)=>k≤p.length∧zox p x=shift k (idx (fun c=>decide (c.inn=x)) (p.drop k))) (fun (k:Nat)=>p.length-k) (0) (⟨uf _,by unfold zox shift;rw[List.drop_zero];have:=findC_ge p x;unfold zox at this;split<;>omega⟩) ?_;intro k hinv;refine qaW ?_;refine qdn ?_;refine qav ?_;refine Cf (p:=k<p.length) (fun ht9=>?_) (fun ht9=>?_)
 ·
  obtain⟨c,hc⟩:∃c,p[k]?=some c:=ybF;refine qdi ?_;refine qbv ?_;refine G0 (zr (i:=k) rfl rfl rfl ya zfo yh) ?_;refine G0 (oFr zbM zaJ) ?_;refine G0 (zh rfl rfl zcc) ?_;refine G0 (oLs rfl rfl rfl zcc) ?_;refine G0 (zim rfl rfl rfl (zoA)) ?_;refine GK.nil ?_;refine Cf (p:=c.inn=x) (fun ht18=>?_) (fun ht18=>?_)
  ·
   refine qa7 ?_;refine qac ?_;exact zd rfl rfl (za rfl (hinv.2.trans (zoe hc (by simpa using ht18))).symm)
  refine qbN ?_;exact Nx (k+1) (⟨by omega,hinv.2.trans (zs0 hc (by simpa using ht18))⟩) ya
 refine qcT ?_;exact zd rfl rfl (za rfl (hinv.2.trans (zog ya)).symm)
theorem zsm (p:List Coin) (id:Ab.Id):Tells P 254 [.val (bsl zaz) p,.val idT id] (.val zs (p.any fun c=>decide (c.inn.tx=id))):=by
 refine zc Tryz.func254 rfl rfl rfl (fun ext w hext=>?_);refine ze (d:=0) rfl zi (fun hsl0=>?_);refine qae ?_;refine qcc ?_;refine Lp (ι:=Nat) 1 (fun (k:Nat)=>(((Fr.none).set 0 (.val (bsl zaz) p)).set 3 (.ptr 0 0)).set 5 (.val i64T (k:Int))) (fun (k:Nat)=>(Hp.none).set 0 (.box 46 idT id)) (fun (k:Nat)=>k≤p.length∧((p.take k).any fun c=>decide (c.inn.tx=id))=false) (fun (k:Nat)=>p.length-k) (0) (⟨uf _,rfl⟩) ?_;intro k hinv;refine qaW ?_;refine qdn ?_;refine qav ?_;refine Cf (p:=k<p.length) (fun ht9=>?_) (fun ht9=>?_)
 ·
  obtain⟨c,hc⟩:∃c,p[k]?=some c:=ybF;refine qdi ?_;refine qbv ?_;refine G0 (zr (i:=k) rfl rfl rfl ya zfo yh) ?_;refine G0 (oFr zbM zaJ) ?_;refine G0 (oFr zdd zeX) ?_;refine G0 (zh rfl rfl zab) ?_;refine G0 (oLs rfl rfl rfl zab) ?_;refine G0 (zim rfl rfl rfl (zjH)) ?_;refine GK.nil ?_;refine Cf (p:=c.inn.tx=id) (fun ht19=>?_) (fun ht19=>?_)
  ·
   refine qay ?_;exact zd rfl rfl (za rfl (zuK hc (by simpa using ht19)).symm)
  refine qbN ?_;exact Nx (k+1) (⟨by omega,zrN hinv.2 hc (by simpa using ht19)⟩) ya
 refine qcT ?_;exact zd rfl rfl (za rfl (by have h:=hinv.2;rw[uc ya] at h;exact h.symm))
theorem znD (t:Tx):Tells P 256 [.val txT t] (.val i64T (zcU (·.v) t.outs)):=by
 refine zc Tryz.func256 rfl rfl rfl (fun ext w hext=>?_);refine ze (d:=0) rfl zm1 (fun htl=>?_);refine qae ?_;refine qah ?_;refine qcc ?_;refine Lp (ι:=Nat) 1 (fun (k:Nat)=>(((Fr.none).set 1 (.ptr 0 0)).set 3 (.val i64T (zcU (·.v) (t.outs.take k)))).set 4 (.val i64T (k:Int))) (fun (k:Nat)=>(Hp.none).set 0 (.box 133 txT t)) (fun (k:Nat)=>k≤t.outs.length) (fun (k:Nat)=>t.outs.length-k) (0) (uf _) ?_;intro k hinv;refine qaF ?_;refine qaU ?_;refine qav ?_;refine Cf (p:=k<t.outs.length) (fun ht9=>?_) (fun ht9=>?_)
 ·
  obtain⟨o,ho⟩:∃o,t.outs[k]?=some o:=ybF;refine qa8 ?_;refine CR ?_;refine qau ?_;refine A0 (oFp zcb) ?_;refine A0 (oLb zbJ zeO) ?_;refine qau ?_;refine A0 (zr (i:=k) rfl rfl rfl ya zf7 yh) ?_;refine A0 (oFr zcx zd7) ?_;refine qaR ?_;refine A0 zcn ?_;refine A0 aV ?_;refine qaK ?_;refine zj (d:=3) rfl (zpf ho).symm ?_;exact Nx (k+1) ya ya
 refine qcu ?_;refine qac ?_;exact zd rfl rfl (za rfl yO)
theorem znK (t:Tx):Tells P 253 [.val txT t] (.val zs (zaN t)):=by
 refine zc Tryz.func253 rfl rfl rfl (fun ext w hext=>?_);refine ze (d:=0) rfl zm1 (fun htl=>?_);refine qae ?_;refine qcc ?_;refine Lp (ι:=Nat) 1 (fun (k:Nat)=>((Fr.none).set 1 (.ptr 0 0)).set 3 (.val i64T (k:Int))) (fun (k:Nat)=>(Hp.none).set 0 (.box 133 txT t)) (fun (k:Nat)=>k≤t.ins.length∧(List.range k).all (inAt t)=true) (fun (k:Nat)=>t.ins.length-k) (0) (⟨uf _,rfl⟩) ?_;intro k hinv;refine qaF ?_;refine qa9 ?_;refine qav ?_;refine Cf (p:=k<t.ins.length) (fun ht11=>?_) (fun ht11=>?_)
 ·
  obtain⟨x,hx⟩:∃x,t.ins[k]?=some x:=ybM;refine qa8 ?_;refine CQQR ?_;refine qcW ?_;refine qau ?_;refine A0 (zr (i:=k) rfl rfl rfl ya ze5 yh) ?_;refine A0 (oFr zb1 zfn) ?_;refine qaR ?_;refine A0 zbb ?_;refine Sp (d:=20) (p:=x.i<0) (fun g20=>?_) (fun g20=>?_)
  ·
   refine qau ?_;refine qbc ?_;refine A2 ?_;refine qao ?_;refine Ct ?_;refine qay ?_;exact zd rfl rfl (za rfl yf)
  refine qau ?_;refine A1 (oFp zcy) ?_;refine A1 (oLb zcS zfz) ?_;refine A1 mV ?_;refine A1 (zr (i:=k) rfl rfl rfl ya ze5 yh) ?_;refine A1 (oFr zb1 zfn) ?_;refine qcQ ?_;refine A1 zer ?_;refine Sp (d:=28) (p:=3≤x.i) (fun g28=>?_) (fun g28=>?_)
  ·
   refine qao ?_;refine Ct ?_;refine qay ?_;exact zd rfl rfl (za rfl yf)
  have hout:=hinv.2;have hkl:=hinv.1;refine qao ?_;refine Cg ?_;refine CSQR ?_;refine qbQ ?_;refine Lp (ι:=Nat) 1 (fun (j:Nat)=>(((Fr.none).set 1 (.ptr 0 0)).set 3 (.val i64T (k:Int))).set 4 (.val i64T (j:Int))) (fun (j:Nat)=>(Hp.none).set 0 (.box 133 txT t)) (fun (j:Nat)=>j≤k∧((t.ins.take j).any fun c=>decide (x=c))=false) (fun (j:Nat)=>k-j) (0) (⟨uf _,rfl⟩) ?_;intro j hinv;refine qaW ?_;refine qav ?_;refine Cf (p:=j<k) (fun ht32=>?_) (fun ht32=>?_)
  ·
   obtain⟨y,hy⟩:∃y,t.ins[j]?=some y:=yq;refine qdi ?_;refine G0 (oFp zcy) ?_;refine G0 (oLb zcS zfz) ?_;refine G0 mV ?_;refine G0 (zr (i:=j) rfl rfl rfl ya ze5 yh) ?_;refine G0 (zh rfl rfl zcc) ?_;refine G0 (oFp zcy) ?_;refine G0 (oLb zcS zfz) ?_;refine G0 mV ?_;refine G0 (zr (i:=k) rfl rfl rfl ya ze5 yh) ?_;refine G0 (zh rfl rfl zcc) ?_;refine G0 (zim rfl rfl rfl (zoA)) ?_;refine GK.nil ?_;refine Cf (p:=y=x) (fun ht45=>?_) (fun ht45=>?_)
   ·
    refine qay ?_;exact zd rfl rfl (za rfl yf)
   refine qbN ?_;exact Nx (j+1) (⟨by omega,zrN hinv.2 hy (by simpa using fun e=>ht45 e.symm)⟩) ya
  obtain rfl:k=j:=ya;refine CE ?_;refine CI ?_;refine CR ?_;refine qak ?_;exact Nx (k+1) (⟨by omega,zc7 hout (zsZ hx ya (by rw[hinv.2];simp))⟩) ya
 have hall:(List.range t.ins.length).all (inAt t)=true:=by have h:=hinv.2;rw[show k=t.ins.length by omega] at h;exact h
 refine CE ?_;refine CQQR ?_;refine qbQ ?_;refine Lp (ι:=Nat) 1 (fun (k:Nat)=>((Fr.none).set 1 (.ptr 0 0)).set 5 (.val i64T (k:Int))) (fun (k:Nat)=>(Hp.none).set 0 (.box 133 txT t)) (fun (k:Nat)=>k≤t.outs.length∧(t.outs.take k).any zma=false) (fun (k:Nat)=>t.outs.length-k) (0) (⟨uf _,rfl⟩) ?_;intro k hinv;refine qaF ?_;refine qaU ?_;refine qav ?_;refine Cf (p:=k<t.outs.length) (fun ht50=>?_) (fun ht50=>?_)
 ·
  obtain⟨o,ho⟩:∃o,t.outs[k]?=some o:=⟨_,ub ht50⟩;refine CSQBQR ?_;refine A0 (oFp zcb) ?_;refine A0 (oLb zbJ zeO) ?_;refine qau ?_;refine A0 (zr (i:=k) rfl rfl rfl ya zf7 yh) ?_;refine qcK ?_;refine CNQR ?_;refine A0 (oFp zcx) ?_;refine A0 (oLb zd7 ty_3) ?_;refine A0 zbb ?_;refine Sp (d:=60) (p:=o.v<1) (fun g60=>?_) (fun g60=>?_)
  ·
   refine qau ?_;refine qab ?_;refine qcL ?_;refine qcL ?_;refine qao ?_;refine Ct ?_;refine qay ?_;exact zd rfl rfl (za rfl yf)
  refine qau ?_;refine A1 (oFp zcx) ?_;refine A1 (oLb zd7 ty_3) ?_;refine qdo ?_;refine Sp (d:=64) (p:=1099511627776<o.v) (fun g64=>?_) (fun g64=>?_)
  ·
   refine qcL ?_;refine qcL ?_;refine qao ?_;refine Ct ?_;refine qay ?_;exact zd rfl rfl (za rfl yf)
  refine qaf ?_;refine A1 (oFp zdz) ?_;refine A1 (oLb zeL ty_3) ?_;refine A1 zbb ?_;refine Sp (d:=69) (p:=o.to<0) (fun g69=>?_) (fun g69=>?_)
  ·
   refine qcL ?_;refine qao ?_;refine Ct ?_;refine qay ?_;exact zd rfl rfl (za rfl yf)
  refine qaf ?_;refine A1 (oFp zdz) ?_;refine A1 (oLb zeL ty_3) ?_;refine qdo ?_;refine Sp (d:=74) (p:=255<o.to) (fun g74=>?_) (fun g74=>?_)
  ·
   refine qao ?_;refine Ct ?_;refine qay ?_;exact zd rfl rfl (za rfl yf)
  refine qao ?_;refine Cg ?_;refine qbN ?_;exact Nx (k+1) (⟨by omega,zrN hinv.2 ho (by unfold zma;apply uh;omega)⟩) ya
 have hodd:t.outs.any zma=false:=by have h:=hinv.2;rw[uc ya] at h;exact h
 refine qdl ?_;refine qa9 ?_;refine A0 zfp ?_;refine Sp (d:=79) (p:=t.ins.length≤3) (fun g79=>?_) (fun g79=>?_)
 ·
  refine qau ?_;refine qbo ?_;refine A1 zer ?_;refine Sp (d:=84) (p:=1≤t.outs.length) (fun g84=>?_) (fun g84=>?_)
  ·
   refine qaf ?_;refine qbo ?_;refine A1 zfp ?_;refine Sp (d:=90) (p:=t.outs.length≤3) (fun g90=>?_) (fun g90=>?_)
   ·
    refine qaS ?_;exact zd rfl rfl (za rfl yf)
   refine qaS ?_;exact zd rfl rfl (za rfl yf)
  refine qas ?_;refine qaS ?_;exact zd rfl rfl (za rfl yf)
 refine qau ?_;refine qdf ?_;refine qas ?_;refine qaS ?_;exact zd rfl rfl (za rfl yf)
set_option maxRecDepth 20000
theorem low8 (x:UInt64):zaL (IntL.toI u64T (x%256))=zaL (IntL.toI u64T x):=by
  unfold zaL;show UInt8.ofNat (((x%256).toNat:Int)%256).toNat=UInt8.ofNat ((x.toNat:Int)%256).toNat
  rw[UInt64.toNat_mod];congr 1
  have:(256:UInt64).toNat=256:=rfl
  rw[this];omega
theorem low8w (x:UInt32):zaL (IntL.toI u32T (x%256))=zaL (IntL.toI u32T x):=by
  unfold zaL;show UInt8.ofNat (((x%256).toNat:Int)%256).toNat=UInt8.ofNat ((x.toNat:Int)%256).toNat
  rw[UInt32.toNat_mod];congr 1
  have:(256:UInt32).toNat=256:=rfl
  rw[this];omega
theorem zdK (x:UInt64) {m:Nat} (h:m≤64):(zaF x m).toNat=x.toNat/2^m:=by
  have hx:x.toNat<18446744073709551616:=x.toNat_lt;unfold zaF;rw[UInt64.toNat_ofNat_of_lt' (Nat.lt_of_le_of_lt (Nat.div_le_self _ _) hx),Nat.min_eq_left h]
theorem zqz (x:UInt64):x=zaF x (8*0):=by
  apply UInt64.toNat_inj.1;rw[zdK x yn];simp
theorem zva {x:UInt64} {k:Nat} (h:k<8):zaF x (8*k)/256=zaF x (8*(k+1)):=by
  apply UInt64.toNat_inj.1;rw[UInt64.toNat_div,zdK x ya,zdK x ya,Nat.mul_add,Nat.pow_add,←Nat.div_div_eq_div_mul];rfl
def byN (k:Nat):UInt64:=zaF 72057594037927936 (8*k)
theorem byN_nat:∀k:Nat,k<8→(byN k).toNat=2^(8*(7-k)):=yd
theorem byN_ne {k:Nat} (h:k<8):(byN k).toNat≠0:=by
  rw[byN_nat k h];exact Nat.ne_of_gt (Nat.two_pow_pos _)
theorem div_by {x:UInt64} {k:Nat} (h:k<8):zaL (IntL.toI u64T (x/byN k%256))=zaL (IntL.toI u64T (zaF x (8*(8-1-k)))):=by
  rw[low8];congr 2;apply UInt64.toNat_inj.1;rw[UInt64.toNat_div,byN_nat k h,zdK x ya]
theorem mul8 (n:Int):zL (IntL.toI i64T (8*n))=8*zL (IntL.toI i64T n):=by
  apply UInt64.toNat_inj.1;unfold zL;show(UInt64.ofNat ((8*n)%18446744073709551616).toNat).toNat=(8*UInt64.ofNat (n%18446744073709551616).toNat).toNat
  rw[UInt64.toNat_mul,UInt64.toNat_ofNat_of_lt' yV,UInt64.toNat_ofNat_of_lt' yV];show _=8*_%18446744073709551616;omega
theorem zqY {x:UInt64} {k:Nat} (h:k<8):(zD x 8).take k++[zaL (IntL.toI u64T (x/byN k%256))]=(zD x 8).take (k+1):=by
  rw[un,div_by h];unfold zD;rw[List.getElem?_map,List.getElem?_range h];rfl
theorem flat_take {α:Type} {k:Nat} (ls:List (List α)):(ls.take k).flatten.length≤ls.flatten.length:=by
  conv=>rhs;rw[←List.take_append_drop k ls,List.flatten_append,ue]
  omega
theorem flat_succ {α:Type} {k:Nat} {ls:List (List α)} {x:List α} (h:ls[k]?=some x):(ls.take (k+1)).flatten=(ls.take k).flatten++x:=by
  rw[un,h,List.flatten_append];simp
theorem zqA {v:UInt32} {m:Nat} {c:UInt32} (h:m≤32) (hc:c.toNat=2^m):v/c=zel v m:=by
  have hx:v.toNat<4294967296:=v.toNat_lt;apply UInt32.toNat_inj.1;unfold zel;rw[UInt32.toNat_div,hc,UInt32.toNat_ofNat_of_lt' (Nat.lt_of_le_of_lt (Nat.div_le_self _ _) hx),Nat.min_eq_left h]
theorem shr32_zero (v:UInt32):v=zel v 0:=by
  have hx:v.toNat<4294967296:=v.toNat_lt;apply UInt32.toNat_inj.1;unfold zel;rw[UInt32.toNat_ofNat_of_lt' (Nat.lt_of_le_of_lt (Nat.div_le_self _ _) hx)];simp
theorem zmS {V:List UInt32} {k j:Nat} {v:UInt32} (hv:V[k]?=some v) (hj:j<4):zjP V (4*k+j)=zaL (IntL.toI u32T (zel v (24-8*j))):=by
  unfold zjP;rw[show(4*k+j)/4=k by omega,show(4*k+j)%4=j by omega,uq,hv];rfl
theorem out4 {V:List UInt32} {k:Nat} {v:UInt32} (hv:V[k]?=some v):((((zen V (4*k)).set (4*k) (zaL (IntL.toI u32T (v/16777216)))).set (4*k+1) (zaL (IntL.toI u32T (v/65536%256)))).set (4*k+2) (zaL (IntL.toI u32T (v/256%256)))).set (4*k+3) (zaL (IntL.toI u32T (v%256)))=zen V (4*(k+1)):=by
  rw[low8w,low8w,low8w,zqA (m:=24) yn rfl,zqA (m:=16) yn rfl,zqA (m:=8) yn rfl];have e0:=zmS hv (j:=0) yn;have e1:=zmS hv (j:=1) yn;have e2:=zmS hv (j:=2) yn;have e3:=zmS hv (j:=3) yn;have z:zaL (IntL.toI u32T v)=zaL (IntL.toI u32T (zel v 0)):=by rw[←shr32_zero v]
  have s0:(zen V (4*k)).set (4*k) (zaL (IntL.toI u32T (zel v 24)))=zen V (4*k+1):=zf8 e0.symm;have s1:(zen V (4*k+1)).set (4*k+1) (zaL (IntL.toI u32T (zel v 16)))=zen V (4*k+2):=zf8 e1.symm;have s2:(zen V (4*k+2)).set (4*k+2) (zaL (IntL.toI u32T (zel v 8)))=zen V (4*k+3):=zf8 e2.symm;have s3:(zen V (4*k+3)).set (4*k+3) (zaL (IntL.toI u32T (zel v 0)))=zen V (4*k+4):=zf8 e3.symm;rw[z,s0,s1,s2,s3];rfl
theorem zjW (n:UInt64) (size:Nat) (hs:size≤8):Tells P 92 [.val u64T n,.val i64T (size:Int)] (.fresh 5 u8T (zD n size)):=by
 refine zc Tryz.func92 rfl rfl rfl (fun ext w hext=>?_);refine ze (d:=1) rfl zu (fun hin1=>?_);refine qap ?_;refine qbe ?_;refine A0 zbb ?_;refine zgs (d:=8) rfl (uh (by show ¬((size:Int)<0);omega)) ?_;refine qbR ?_;refine qdo ?_;refine zgs (d:=11) rfl (uh (by show ¬((8:Int)<(size:Int));omega)) ?_;refine qao ?_;refine Cg ?_;refine qbw ?_;refine zwz (T:=u8T) (n:=size) rfl rfl rfl rfl rfl rfl yi yi zaE ze_5 ⟨by omega,by omega,(show(size)*1≤16777216 by omega)⟩ ?_;refine A0 aO ?_;refine qbe ?_;refine A0 za5 ?_;refine qbQ ?_;refine zj (d:=6) (y:=(size:Int)-1-((0:Nat):Int)) rfl ya ?_;refine zj (d:=0) (y:=zaF n (8*0)) rfl (zqz n) ?_;refine Lp (ι:=Nat×List UInt8) 1 (fun(k,l)=>((Fr.none.set 0 (.val u64T (zaF n (8*k)))).set 5 (.own 0)).set 6 (.val i64T ((size:Int)-1-(k:Int)))) (fun(k,l)=>Hp.none.set 0 (.row 5 u8T l)) (fun(k,l)=>k≤size∧l.length=size∧∀j,size-k≤j→j<size→l[j]?=(zD n size)[j]?) (fun(k,l)=>size-k) ((0,List.replicate size 0)) (⟨uf _,by simp,fun j h1 h2=>by omega⟩) ?_;intro⟨k,l⟩ hinv;dsimp only at hinv;refine qaF ?_;refine qb9 ?_;refine Cf (p:=k<size) (fun ht18=>?_) (fun ht18=>?_)
 ·
  obtain⟨x,hx⟩:∃x,l[size-1-k]?=some x:=yq;refine CSQBQR ?_;refine A0 mO ?_;refine qad ?_;refine A0 (zrk rfl rfl rfl yn) ?_;refine qbU ?_;refine A0 (zaQ (i:=size-1-k) rfl rfl rfl rfl yi zb4 yg) ?_;refine zc6 rfl rfl rfl rfl rfl rfl yh (Lens.self _) ty_5 rfl ?_;refine CNR ?_;refine qau ?_;refine A0 (zoo rfl rfl rfl yn) ?_;refine A0 aV ?_;refine CNIR ?_;refine qbS ?_;refine qac ?_;refine zj (d:=0) (y:=zaF n (8*(k+1))) rfl (zva ya) ?_;refine zj (d:=6) (y:=(size:Int)-1-((k+1:Nat):Int)) rfl ya ?_;refine zl (n:=0) (y:=l.set (size-1-k) (zaL (IntL.toI u64T (zaF n (8*k))))) rfl (congrArg (fun z=>l.set (size-1-k) z) (low8 _)) ?_;exact Nx ((k+1,l.set (size-1-k) (zaL (IntL.toI u64T (zaF n (8*k)))))) (⟨by omega,by simp;exact hinv.2.1,zkI ht18 hinv.2.1 hinv.2.2⟩) (by show _<size-k;simp only[];omega)
 refine qa0 ?_;exact zd rfl rfl (zf rfl rfl (zmc hinv.2.1 (by rw[show k=size by omega] at hinv;exact hinv.2.2)))
theorem rpad_ok (b:List UInt8) (hb:b.length≤70368744177664):Tells P 302 [.val (bsl u8T) b] (.fresh 5 u8T (zcL b)):=by
 have hz:padZ b.length=(64-(b.length+9)%64)%64:=rfl;refine zc Tryz.func302 rfl rfl rfl (fun ext w hext=>?_);refine ze (d:=0) rfl zi (fun hsl0=>?_);refine qb0 ?_;refine qau ?_;refine zcE rfl rfl rfl rfl rfl rfl zaE yad ?_;refine qby ?_;refine qa5 ?_;refine zo rfl rfl rfl rfl rfl rfl rfl zaE yad ?_;refine A0 aO ?_;refine CNQ ?_;refine CB ?_;refine zl (n:=1) (y:=b++128::List.replicate 0 0) rfl yw ?_;refine Lp (ι:=Nat) 2 (fun j=>(Fr.none.set 0 (.val (bsl u8T) b)).set 3 (.own 1)) (fun j=>Hp.none.set 1 (.row 5 u8T (b++128::List.replicate j 0))) (fun j=>j≤padZ b.length) (fun j=>padZ b.length-j) (0) (uf _) ?_;intro j hinv;refine CQQR ?_;refine A0 mO ?_;refine A0 (zbV rfl rfl rfl zed) ?_;refine qbn ?_;refine qaO ?_;refine zq (p:=j<padZ b.length) rfl (by simp[IntL.toI];rw[←decide_not,uo];omega) (fun ht15=>?_) (fun ht15=>?_)
 ·
  refine CS ?_;refine CB ?_;refine qbE ?_;refine qa5 ?_;refine zo rfl rfl rfl rfl rfl rfl rfl zaE yad ?_;refine qbJ ?_;refine CI ?_;refine qcs ?_;refine zl (n:=1) (y:=b++128::List.replicate (j+1) 0) rfl (by rw[List.replicate_succ'];simp) ?_;exact Nx (j+1) ya ya
 obtain rfl:j=padZ b.length:=ya;refine qcu ?_;refine qcr ?_;refine A0 zh0 ?_;refine qdq ?_;refine zj (d:=22) (y:=(8*zL (IntL.toI i64T (b.length:Int)))) rfl (mul8 _) ?_;refine qah ?_;refine qcc ?_;refine zl (n:=1) (y:=(b++128::List.replicate (padZ b.length) 0)++(zD (8*zL (IntL.toI i64T (b.length:Int))) 8).take 0) rfl yw ?_;refine zj (d:=5) (y:=byN 0) rfl (zqz _) ?_;refine Lp (ι:=Nat) 2 (fun k=>(((Fr.none.set 3 (.own 1)).set 4 (.val u64T (8*zL (IntL.toI i64T (b.length:Int))))).set 5 (.val u64T (byN k))).set 6 (.val i64T (k:Int))) (fun k=>Hp.none.set 1 (.row 5 u8T ((b++128::List.replicate (padZ b.length) 0)++(zD (8*zL (IntL.toI i64T (b.length:Int))) 8).take k))) (fun k=>k≤8) (fun k=>8-k) (0) (uf _) ?_;intro k hinv;refine qaF ?_;refine qav ?_;refine Cf (p:=k<8) (fun ht24=>?_) (fun ht24=>?_)
 ·
  refine CSQBQR ?_;refine A0 mO ?_;refine qad ?_;refine A0 (zoo rfl rfl rfl (by first|decide|exact byN_ne ht24)) ?_;refine A0 (zrk rfl rfl rfl (by first|decide|exact byN_ne ht24)) ?_;refine qbU ?_;refine qa5 ?_;refine zo rfl rfl rfl rfl rfl rfl rfl zaE yad ?_;refine A0 aO ?_;refine CNR ?_;refine qau ?_;refine A0 (zoo rfl rfl rfl (by first|decide|exact byN_ne ht24)) ?_;refine A0 aV ?_;refine qaK ?_;refine qcs ?_;refine zl (n:=1) (y:=(b++128::List.replicate (padZ b.length) 0)++(zD (8*zL (IntL.toI i64T (b.length:Int))) 8).take (k+1)) rfl (by rw[List.append_assoc];exact congrArg _ (zqY ht24)) ?_;refine zj (d:=5) (y:=byN (k+1)) rfl (zva ht24) ?_;exact Nx (k+1) ya ya
 obtain rfl:k=8:=ya;refine qa0 ?_;exact zd rfl rfl (zf rfl rfl (by rw[uc (by rw[zE];exact ug _)];rfl))
theorem zmF (b:List UInt8) (hb:b.length≤70368744177664):Tells P 260 [.val (bsl u8T) b] (.val idT (zfA b)):=by
 obtain⟨m,hm⟩:∃m,m=(b.length+padZ b.length+9)/64:=⟨_,rfl⟩;have hz2:padZ b.length<64:=by unfold padZ;omega
 have hpl:(zcL b).length=64*m:=by rw[zsO,hm]
 have hmb:m≤2000000000000:=ya;refine zc Tryz.func260 rfl rfl rfl (fun ext w hext=>?_);refine ze (d:=0) rfl zi (fun hsl0=>?_);refine qbD ?_;refine qau ?_;refine A0 (oCl (zC (rpad_ok b hb)) rfl fn_302 yc) ?_;refine qah ?_;refine A0 (oCl (rfirst_ok) rfl fn_303 trivial) ?_;refine qcc ?_;refine Lp (ι:=Nat) 1 (fun (k:Nat)=>((((Fr.none).set 2 (.ptr 0 0)).set 3 (.val (sl u8T) (zcL b))).set 4 (.val (sl u32T) (shaN (zcL b) k))).set 5 (.val i64T ((64*k:Nat):Int))) (fun (k:Nat)=>(Hp.none).set 0 (.box 46 idT zId)) (fun (k:Nat)=>k≤m) (fun (k:Nat)=>m-k) (0) (uf _) ?_;intro k hinv;refine qaW ?_;refine qcr ?_;refine qav ?_;refine Cf (p:=64*k<(zcL b).length) (fun ht14=>?_) (fun ht14=>?_)
 ·
  refine qa8 ?_;refine CR ?_;refine qad ?_;refine qad ?_;refine A0 zcn ?_;refine A0 (zui rfl rfl rfl rfl zb4 yg) ?_;refine zj (d:=22) (y:=((zcL b).take (64*k+64)).drop (64*k)) rfl (by congr 1) ?_;refine A0 (oCl (zC (rwords_ok (((zcL b).take (64*k+64)).drop (64*k)) (by rw[List.length_drop,um];omega))) rfl fn_305 yc) ?_;refine A0 (oCl (zC (rrounds_ok (shaN (zcL b) k) (zbj (((zcL b).take (64*k+64)).drop (64*k)) 64) (zmD _ k) (zcg 64))) rfl fn_304 ye) ?_;refine A0 aV ?_;refine qaK ?_;refine zj (d:=4) (y:=shaN (zcL b) (k+1)) rfl zny ?_;refine zj (d:=5) (y:=((64*(k+1):Nat):Int)) rfl ya ?_;exact Nx (k+1) ya ya
 obtain rfl:m=k:=ya;refine qdl ?_;refine qaB ?_;refine qaw ?_;refine Lp (ι:=Nat) 2 (fun (k:Nat)=>((((Fr.none).set 2 (.ptr 0 0)).set 4 (.val (sl u32T) (shaN (zcL b) m))).set 6 (.ptr 1 0)).set 7 (.val i64T (k:Int))) (fun (k:Nat)=>((Hp.none).set 0 (.box 46 idT zId)).set 1 (.box 46 idT (zen (shaN (zcL b) m) (4*k)))) (fun (k:Nat)=>k≤8) (fun (k:Nat)=>8-k) (0) (uf _) ?_;intro k hinv;refine qaF ?_;refine qav ?_;refine Cf (p:=k<8) (fun ht26=>?_) (fun ht26=>?_)
 ·
  obtain⟨v,hv⟩:∃x,(shaN (zcL b) m)[k]?=some x:=⟨_,ub (by rw[zmD];exact ht26)⟩;refine qbh ?_;refine A0 zh0 ?_;refine qad ?_;refine A0 (zr (i:=k) rfl rfl rfl ya zbr yh) ?_;refine A0 (zh rfl rfl zbp) ?_;refine A0 (zj1 rfl rfl rfl yn) ?_;refine A0 (zh6 rfl (ui_5) (znk) rfl) ?_;refine A0 (zG (i:=4*k) rfl rfl rfl yi zfj ya) ?_;refine zg rfl rfl rfl rfl rfl (Lens.elem (i:=4*k) ya u8T) ty_5 rfl ?_;refine qcZ ?_;refine A0 zh0 ?_;refine A0 zcn ?_;refine qad ?_;refine A0 (zr (i:=k) rfl rfl rfl ya zbr yh) ?_;refine A0 (zh rfl rfl zbp) ?_;refine A0 (zj1 rfl rfl rfl yn) ?_;refine A0 (zrl rfl rfl rfl yn) ?_;refine A0 (zh6 rfl (ui_5) (znk) rfl) ?_;refine A0 (zG (i:=4*k+1) rfl rfl rfl yi zfj ya) ?_;refine zg rfl rfl rfl rfl rfl (Lens.elem (i:=4*k+1) ya u8T) ty_5 rfl ?_;refine qcZ ?_;refine A0 zh0 ?_;refine A0 zcn ?_;refine qad ?_;refine A0 (zr (i:=k) rfl rfl rfl ya zbr yh) ?_;refine A0 (zh rfl rfl zbp) ?_;refine A0 (zj1 rfl rfl rfl yn) ?_;refine A0 (zrl rfl rfl rfl yn) ?_;refine A0 (zh6 rfl (ui_5) (znk) rfl) ?_;refine A0 (zG (i:=4*k+2) rfl rfl rfl yi zfj ya) ?_;refine zg rfl rfl rfl rfl rfl (Lens.elem (i:=4*k+2) ya u8T) ty_5 rfl ?_;refine CNR ?_;refine qau ?_;refine A0 zh0 ?_;refine A0 zcn ?_;refine qad ?_;refine A0 (zr (i:=k) rfl rfl rfl ya zbr yh) ?_;refine A0 (zh rfl rfl zbp) ?_;refine A0 (zrl rfl rfl rfl yn) ?_;refine A0 (zh6 rfl (ui_5) (znk) rfl) ?_;refine A0 (zG (i:=4*k+3) rfl rfl rfl yi zfj ya) ?_;refine zg rfl rfl rfl rfl rfl (Lens.elem (i:=4*k+3) ya u8T) ty_5 rfl ?_;refine qaK ?_;refine zJ (n:=1) (y:=zen (shaN (zcL b) m) (4*(k+1))) rfl (out4 hv) ?_;exact Nx (k+1) ya ya
 obtain rfl:k=8:=ya;refine qdl ?_;refine qb4 ?_;refine qaq ?_;exact zF rfl rfl rfl rfl zab yb4
theorem zvj (ls:List (List UInt8)) (hl:ls.flatten.length≤70368744177664):Tells P 200 [.val (bsl (bsl u8T)) ls] (.val idT (zfA ls.flatten)):=by
 refine zc Tryz.func200 rfl rfl rfl (fun ext w hext=>?_);refine ze (d:=0) rfl zi (fun hsl0=>?_);refine qbD ?_;refine A0 aL ?_;refine qaw ?_;refine zbd (T:=u8T) (d:=3) 5 rfl ?_;refine Lp (ι:=Nat) 2 (fun (k:Nat)=>((((Fr.none).set 0 (.val (bsl (bsl u8T)) ls)).set 2 (.ptr 0 0)).set 3 (.own 1)).set 4 (.val i64T (k:Int))) (fun (k:Nat)=>((Hp.none).set 0 (.box 46 idT zId)).set 1 (.row 5 u8T (ls.take k).flatten)) (fun (k:Nat)=>k≤ls.length) (fun (k:Nat)=>ls.length-k) (0) (uf _) ?_;intro k hinv;refine qaW ?_;refine qcA ?_;refine qav ?_;refine Cf (p:=k<ls.length) (fun ht8=>?_) (fun ht8=>?_)
 ·
  obtain⟨x,hx⟩:∃x,ls[k]?=some x:=⟨_,ub ht8⟩;have hfl:=flat_take (k:=k+1) ls;have hfs:=flat_succ hx;rw[hfs,ue] at hfl;refine qa8 ?_;refine qbE ?_;refine qad ?_;refine A0 (zr (i:=k) rfl rfl rfl ya zfJ yh) ?_;refine qcM ?_;refine zo rfl rfl rfl rfl rfl rfl rfl zaE ya ?_;refine qcH ?_;refine qcs ?_;refine zl (n:=1) (y:=(ls.take (k+1)).flatten) rfl hfs.symm ?_;exact Nx (k+1) ya ya
 refine zl (n:=1) (y:=ls.flatten) rfl yO ?_;refine CE ?_;refine qcb ?_;refine A0 (oCl (zmF ls.flatten hl) rfl zv5 ⟨(zI rfl rfl),trivial⟩) ?_;refine qaq ?_;exact zF rfl rfl rfl rfl zab (rfl)
theorem rput_ok (t:Tx):Tells P 300 [.val txT t] (.tup2 (.fresh 5 u8T (if zaN t=true then zt5 t else [])) (.val zs (zaN t))):=by
 refine zc Tryz.func300 rfl rfl rfl (fun ext w hext=>?_);refine ze (d:=0) rfl zuo (fun h32=>?_);refine qca ?_;refine qah ?_;refine qbF ?_;refine A0 (oCl (znK _) rfl fn_253 yc) ?_;refine qaj ?_;refine qaJ ?_;refine zq (p:=¬zaN t=true) rfl yw (fun ht11=>?_) (fun ht11=>?_)
 ·
  refine qaT ?_;exact zx rfl rfl (by rw[ur ht11];exact zm rfl) (za rfl (by simpa using ht11))
 have hmay:=ua ht11;obtain⟨hmi,hm0,hmo⟩:=zdv hmay;refine CSQR ?_;refine qa9 ?_;refine qcB ?_;refine qaw ?_;refine Lp (ι:=Nat) 2 (fun (k:Nat)=>(((Fr.none).set 1 (.ptr 0 0)).set 5 (.own 1)).set 6 (.val i64T (k:Int))) (fun (k:Nat)=>((Hp.none).set 0 (.box 133 txT t)).set 1 (.row 5 u8T (ziJ t k))) (fun (k:Nat)=>k≤t.ins.length∧(ziJ t k).length=33*k+1) (fun (k:Nat)=>t.ins.length-k) (0) (⟨uf _,by simp[ziJ]⟩) ?_;intro k hinv;obtain⟨hk,hpl⟩:=hinv;have hinv:=And.intro hk hpl;refine qaF ?_;refine qa9 ?_;refine qav ?_;refine Cf (p:=k<t.ins.length) (fun ht21=>?_) (fun ht21=>?_)
 ·
  obtain⟨x,hx⟩:∃x,t.ins[k]?=some x:=⟨_,ub ht21⟩;have hx32:=h32 x (ud hx);refine CSQBQR ?_;refine A0 mO ?_;refine qcW ?_;refine qau ?_;refine A0 (zr (i:=k) rfl rfl rfl ya ze5 yh) ?_;refine A0 (oFr zdd zeX) ?_;refine qbH ?_;refine zo rfl rfl rfl rfl rfl rfl rfl zaE (by show(_+x.tx.length)*1≤_∧_+x.tx.length≤_;omega) ?_;refine A0 aO ?_;refine CNR ?_;refine A0 mO ?_;refine qcW ?_;refine qau ?_;refine A0 (zr (i:=k) rfl rfl rfl ya ze5 yh) ?_;refine A0 (oFr zb1 zfn) ?_;refine qaR ?_;refine xh ?_;refine qa5 ?_;refine zo rfl rfl rfl rfl rfl rfl rfl zaE (by simp only[ue,List.length_cons,List.length_nil,hx32];omega) ?_;refine qcH ?_;refine xu ?_;refine zl (n:=1) rfl (zhV hx).symm ?_;exact Nx (k+1) (⟨by omega,by rw[zhV hx];simp only[ue,List.length_cons,List.length_nil,hx32];omega⟩) ya
 obtain rfl:k=t.ins.length:=ya;obtain⟨hli,_⟩:=hinv;refine CE ?_;refine qcb ?_;refine qaU ?_;refine xh ?_;refine qa5 ?_;refine zo rfl rfl rfl rfl rfl rfl rfl zaE y4 ?_;refine A0 aO ?_;refine qaw ?_;refine qcs ?_;refine zl (y:=zd3 t 0) (n:=1) rfl (by simp[zd3]) ?_;refine Lp (ι:=Nat) 2 (fun k=>((Fr.none.set 1 (.ptr 0 0)).set 5 (.own 1)).set 7 (.val i64T (k:Int))) (fun k=>(Hp.none.set 0 (.box 133 txT t)).set 1 (.row 5 u8T (zd3 t k))) (fun k=>k≤t.outs.length∧(zd3 t k).length=7*k+2+33*t.ins.length) (fun k=>t.outs.length-k) (0) (⟨uf _,by simp[zd3,hpl];omega⟩) ?_;intro k hinv;refine qaF ?_;refine qaU ?_;refine qav ?_;refine Cf (p:=k<t.outs.length) (fun ht53=>?_) (fun ht53=>?_)
 ·
  obtain⟨x,hx⟩:∃x,t.outs[k]?=some x:=⟨_,ub ht53⟩;refine CSQBQR ?_;refine A0 mO ?_;refine A0 (oFp zcb) ?_;refine A0 (oLb zbJ zeO) ?_;refine qau ?_;refine A0 (zr (i:=k) rfl rfl rfl ya zf7 yh) ?_;refine A0 (oFr zcx zd7) ?_;refine qaR ?_;refine qdq ?_;refine A0 (oCl (zC (zjW _ 6 yn)) rfl zuj ye) ?_;refine zo rfl rfl rfl rfl rfl rfl rfl zaE yaE ?_;refine A0 aO ?_;refine CNR ?_;refine A0 mO ?_;refine A0 (oFp zcb) ?_;refine A0 (oLb zbJ zeO) ?_;refine qau ?_;refine A0 (zr (i:=k) rfl rfl rfl ya zf7 yh) ?_;refine A0 (oFr zdz zeL) ?_;refine qaR ?_;refine xh ?_;refine qa5 ?_;refine zo rfl rfl rfl rfl rfl rfl rfl zaE yaE ?_;refine qcH ?_;refine xu ?_;refine zl (n:=1) rfl (zgL hx).symm ?_;exact Nx (k+1) (⟨by omega,by rw[zgL hx];simp only[ue,List.length_cons,List.length_nil,zE];omega⟩) ya
 refine CE ?_;refine qcb ?_;refine qcl ?_;exact zx rfl rfl (zf rfl rfl (by rw[ut hmay,show k=t.outs.length by omega];rfl)) (za rfl hmay.symm)
theorem zvn (t:Tx):Tells P 255 [.val txT t] (.val idT (idOf t)):=by
 refine zc Tryz.func255 rfl rfl rfl (fun ext w hext=>?_);refine ze (d:=0) rfl zuo (fun h32=>?_);refine qae ?_;refine qaB ?_;refine CNQR ?_;refine qbF ?_;refine A0 (oCl (zbo (rput_ok t)) rfl fn_300 yc) ?_;refine qb1 ?_;refine qaJ ?_;refine zq (p:=¬zaN t=true) rfl yw (fun ht11=>?_) (fun ht11=>?_)
 ·
  refine CQR ?_;refine A0 (zev rfl zfj ztN rfl) ?_;refine qaq ?_;exact zF rfl rfl rfl rfl zab (by unfold idOf;rw[ur ht11])
 refine zj (d:=3) rfl (ut (ua ht11)) ?_;refine CSQR ?_;refine qa5 ?_;refine qau ?_;refine A0 (zag (T:=(sl u8T)) (xs:=[_,_]) rfl zfJ ze6 yaD rfl rfl) ?_;refine A0 (oCl (zvj [[6],zt5 t] (by have:=zsF (ua ht11) h32;simp;omega)) rfl zv9 yc) ?_;refine qaq ?_;exact zF rfl rfl rfl rfl zab (by unfold idOf;rw[ut (ua ht11)];simp)
def setN {α:Type} (f:Nat→α) (z:List α) (k:Nat):List α:=(List.range k).foldl (fun l i=>l.set i (f i)) z
theorem zf9 {α:Type} {f:Nat→α} {z:List α} {k:Nat}:(setN f z k).set k (f k)=setN f z (k+1):=(zcZ (f:=fun (l:List α) i=>l.set i (f i))).symm
theorem zkt {α:Type} {f:Nat→α} {z:List α} {k:Nat} (h:z.length=k):setN f z k=(List.range k).map f:=by
  apply List.ext_getElem?;intro j;unfold setN;rw[ziV,List.getElem?_map];by_cases c:j<k
  · rw[ut ⟨c,by omega⟩,List.getElem?_range c];rfl
  rw[ur ya,List.getElem?_eq_none ya,List.getElem?_eq_none yy];rfl
theorem zid {a:Ab.Id} {ρ:Nat→Value} {B:Nat→Prop} {U N:Nat→Prop} {w:World} {v:Value} (h:(AV.val idT a).rel ρ B U N w v):a.length=32:=by
  obtain⟨cs,h,_⟩:=h;exact h.1
theorem zaS {a:Wide} {ρ:Nat→Value} {B:Nat→Prop} {U N:Nat→Prop} {w:World} {v:Value} (h:(AV.val z7 a).rel ρ B U N w v):a.length=4:=by
  obtain⟨cs,h,_⟩:=h;exact h.1
def cmpU (x y:UInt64):Int:=if x<y then -1 else if y<x then 1 else 0
def atW (a:Wide) (i:Int):UInt64:=if i<0∨4≤i then 0 else a.getD i.toNat default
def upF (a:Wide) (n:Int) (i:Nat):UInt64:=zg1 (atW a ((i:Int)-n/64)) (n%64).toNat|||zaF (zaF (atW a ((i:Int)-n/64-1)) 1) (63-n%64).toNat
def upW (a:Wide) (n:Int):Wide:=if n<0 then a else if 256≤n then zaP else (List.range 4).map (upF a n)
def zpa (a:Wide) (n:Int) (i:Nat):UInt64:=zaF (atW a ((i:Int)+n/64)) (n%64).toNat|||zg1 (zg1 (atW a ((i:Int)+n/64+1)) 1) (63-n%64).toNat
def zdG (a:Wide) (n:Int):Wide:=if n<0 then a else if 256≤n then zaP else (List.range 4).map (zpa a n)
def zrC (a:Wide) (i:Nat):UInt8:=zaL (IntL.toI u64T (zaF (a.getD (3-i/8) default) (56-8*((i:Int)%8)).toNat))
def zeR (a:Wide):Ab.Id:=(List.range 32).map (zrC a)
def of32S (b:Ab.Id) (w:Wide) (i:Nat):Wide:=w.set (3-i/8) (zg1 (w.getD (3-i/8) default) 8|||zL (IntL.toI u8T (b.getD i default)))
def zqX (b:Ab.Id) (k:Nat):Wide:=(List.range k).foldl (of32S b) zaP
def ze8 (b:Ab.Id):Wide:=zqX b 32
def cmpW (a b:Wide):Int:=orL [cmpU (a.getD 3 default) (b.getD 3 default),cmpU (a.getD 2 default) (b.getD 2 default),cmpU (a.getD 1 default) (b.getD 1 default),cmpU (a.getD 0 default) (b.getD 0 default)]
theorem zsW (x:UInt64):Tells P 308 [.val u64T x] (.val zs false):=by
 refine zc Tryz.func308 rfl rfl rfl (fun ext w hext=>?_);refine CQR ?_;refine qbr ?_;refine A0 zgB ?_;refine qac ?_;exact zd rfl rfl (zdn (by simp[Fr.set]))
theorem zrA (x y:UInt64):Tells P 269 [.val u64T x,.val u64T y] (.val i64T (cmpU x y)):=by
 refine zc Tryz.func269 rfl rfl rfl (fun ext w hext=>?_);refine qdt ?_;refine A0 (oCl (zsW _) rfl fn_308 yc) ?_;refine qaA ?_;refine A0 (oCl (zsW _) rfl fn_308 yc) ?_;refine qaj ?_;refine CN ?_;refine Cg ?_;refine qbP ?_;refine CN ?_;refine Cg ?_;refine CSQQR ?_;refine qad ?_;refine qav ?_;refine zq (p:=x<y) rfl yba (fun ht16=>?_) (fun ht16=>?_)
 ·
  refine qay ?_;exact zd rfl rfl (za rfl yae)
 refine CSQQR ?_;refine qad ?_;refine qbT ?_;refine zq (p:=y<x) rfl yba (fun ht19=>?_) (fun ht19=>?_)
 ·
  refine qay ?_;exact zd rfl rfl (za rfl yae)
 refine CSQR ?_;refine qac ?_;exact zd rfl rfl (za rfl yae)
theorem zwE (a:Wide) (i:Int):Tells P 220 [.val z7 a,.val i64T i] (.val u64T (atW a i)):=by
 refine zc Tryz.func220 rfl rfl rfl (fun ext w hext=>?_);refine ze (d:=1) rfl zu (fun hin1=>?_);refine ze (d:=0) rfl zaS (fun ha=>?_);refine qae ?_;refine qaj ?_;refine A0 zbb ?_;refine Sp (d:=6) (p:=i<0) (fun g6=>?_) (fun g6=>?_)
 ·
  refine qau ?_;refine qbB ?_;refine qao ?_;refine Ct ?_;refine qay ?_;exact zd rfl rfl (za rfl (by unfold atW;rw[ut (.inl g6)];rfl))
 refine qbR ?_;refine A1 zer ?_;refine Sp (d:=9) (p:=4≤i) (fun g9=>?_) (fun g9=>?_)
 ·
  refine qao ?_;refine Ct ?_;refine qay ?_;exact zd rfl rfl (za rfl (by unfold atW;rw[ut (.inr g9)];rfl))
 refine qao ?_;refine Cg ?_;refine qbw ?_;refine A0 (zG (i:=i.toNat) rfl rfl rfl yi zbf ya) ?_;refine A0 (zy rfl rfl rfl (Lens.elem (i:=i.toNat) ya u64T) za9) ?_;refine qac ?_;exact zd rfl rfl (za rfl (by unfold atW;rw[ur ya]))
theorem upW_ok (a:Wide) (n:Int):Tells P 157 [.val z7 a,.val i64T n] (.val z7 (upW a n)):=by
 refine zc Tryz.func157 rfl rfl rfl (fun ext w hext=>?_);refine ze (d:=1) rfl zu (fun hin1=>?_);refine ze (d:=0) rfl zaS (fun ha=>?_);refine qae ?_;refine qaz ?_;refine qbe ?_;refine qav ?_;refine Cf (p:=n<0) (fun ht10=>?_) (fun ht10=>?_)
 ·
  refine qb7 ?_;exact zF rfl rfl rfl rfl zal (by unfold upW;rw[ut ht10])
 refine qbP ?_;refine qb9 ?_;refine Cf (p:=256≤n) (fun ht13=>?_) (fun ht13=>?_)
 ·
  refine qaM ?_;refine CN ?_;exact zF rfl rfl rfl rfl zal (by unfold upW;rw[ur ht10,ut ht13])
 refine CSQR ?_;refine qaz ?_;refine qcZ ?_;refine qb8 ?_;refine qau ?_;refine qbn ?_;refine A0 aV ?_;refine qaj ?_;refine CNB ?_;refine Lp (ι:=Nat) 3 (fun (k:Nat)=>((((((Fr.none).set 2 (.ptr 0 0)).set 4 (.ptr 1 0)).set 5 (.ptr 2 0)).set 6 (.val i64T (n/64))).set 7 (.val i64T (n%64))).set 19 (.val i64T (k:Int))) (fun (k:Nat)=>(((Hp.none).set 0 (.box 49 z7 a)).set 1 (.box 49 z7 zaP)).set 2 (.box 49 z7 (setN (upF a n) zaP k))) (fun (k:Nat)=>k≤4) (fun (k:Nat)=>4-k) (0) (uf _) ?_;intro k hinv;refine qar ?_;refine Cf (p:=k<4) (fun ht20=>?_) (fun ht20=>?_)
 ·
  refine qbh ?_;refine qac ?_;refine zH [some 1,some 1,some 1,some 1,some 1,some 1,some 1,some 1,some 1,some 1,some 1,some 1,some 1,some 1,some 1,some 1,some 1,some 1,some 1,some 1,none] mixed yd ?_;refine X0 mV ?_;refine qcE ?_;refine qbG ?_;refine X0 za5 ?_;refine X0 (oCl (zwE _ _) rfl zv8 ye) ?_;refine X0 mV ?_;refine X0 (zlI rfl rfl rfl ym rfl) ?_;refine qcE ?_;refine qbG ?_;refine X0 za5 ?_;refine X0 za5 ?_;refine X0 (oCl (zwE _ _) rfl zv8 ye) ?_;refine X0 (zct rfl rfl rfl ym rfl) ?_;refine X0 mV ?_;refine X0 za5 ?_;refine X0 (zct rfl rfl rfl ym rfl) ?_;refine X0 (zs4 rfl rfl rfl) ?_;refine xw ?_;refine XK.e (x:=.idk) (fun fr' hfr kk H=>by exact zg rfl rfl rfl ((hfr 41 yd).trans rfl) rfl (Lens.elem (i:=k) ya u64T) za9 ((hfr 40 yd).trans rfl) (zM H)) ?_;refine qaX ?_;refine qan ?_;refine zJ (n:=2) (y:=setN (upF a n) zaP (k+1)) rfl zf9 ?_;exact Nx (k+1) ya ya
 obtain rfl:k=4:=ya;refine CE ?_;refine qb7 ?_;exact zF rfl rfl rfl rfl zal (by unfold upW;rw[ur ht10,ur ht13];exact zkt rfl)
theorem downW_ok (a:Wide) (n:Int):Tells P 218 [.val z7 a,.val i64T n] (.val z7 (zdG a n)):=by
 refine zc Tryz.func218 rfl rfl rfl (fun ext w hext=>?_);refine ze (d:=1) rfl zu (fun hin1=>?_);refine ze (d:=0) rfl zaS (fun ha=>?_);refine qae ?_;refine qaz ?_;refine qbe ?_;refine qav ?_;refine Cf (p:=n<0) (fun ht10=>?_) (fun ht10=>?_)
 ·
  refine qb7 ?_;exact zF rfl rfl rfl rfl zal (by unfold zdG;rw[ut ht10])
 refine qbP ?_;refine qb9 ?_;refine Cf (p:=256≤n) (fun ht13=>?_) (fun ht13=>?_)
 ·
  refine qaM ?_;refine CN ?_;exact zF rfl rfl rfl rfl zal (by unfold zdG;rw[ur ht10,ut ht13])
 refine CSQR ?_;refine qaz ?_;refine qcZ ?_;refine qb8 ?_;refine qau ?_;refine qbn ?_;refine A0 aV ?_;refine qaj ?_;refine CNB ?_;refine Lp (ι:=Nat) 3 (fun (k:Nat)=>((((((Fr.none).set 2 (.ptr 0 0)).set 4 (.ptr 1 0)).set 5 (.ptr 2 0)).set 6 (.val i64T (n/64))).set 7 (.val i64T (n%64))).set 19 (.val i64T (k:Int))) (fun (k:Nat)=>(((Hp.none).set 0 (.box 49 z7 a)).set 1 (.box 49 z7 zaP)).set 2 (.box 49 z7 (setN (zpa a n) zaP k))) (fun (k:Nat)=>k≤4) (fun (k:Nat)=>4-k) (0) (uf _) ?_;intro k hinv;refine qar ?_;refine Cf (p:=k<4) (fun ht20=>?_) (fun ht20=>?_)
 ·
  refine qbh ?_;refine qac ?_;refine zH [some 1,some 1,some 1,some 1,some 1,some 1,some 1,some 1,some 1,some 1,some 1,some 1,some 1,some 1,some 1,some 1,some 1,some 1,some 1,some 1,none] mixed yd ?_;refine X0 mV ?_;refine qcE ?_;refine qbG ?_;refine X0 zcn ?_;refine X0 (oCl (zwE _ _) rfl zv8 ye) ?_;refine X0 mV ?_;refine X0 (zct rfl rfl rfl ym rfl) ?_;refine qcE ?_;refine qbG ?_;refine X0 zcn ?_;refine X0 zcn ?_;refine X0 (oCl (zwE _ _) rfl zv8 ye) ?_;refine X0 (zlI rfl rfl rfl ym rfl) ?_;refine X0 mV ?_;refine X0 za5 ?_;refine X0 (zlI rfl rfl rfl ym rfl) ?_;refine X0 (zs4 rfl rfl rfl) ?_;refine xw ?_;refine XK.e (x:=.idk) (fun fr' hfr kk H=>by exact zg rfl rfl rfl ((hfr 41 yd).trans rfl) rfl (Lens.elem (i:=k) ya u64T) za9 ((hfr 40 yd).trans rfl) (zM H)) ?_;refine qaX ?_;refine qan ?_;refine zJ (n:=2) (y:=setN (zpa a n) zaP (k+1)) rfl zf9 ?_;exact Nx (k+1) ya ya
 obtain rfl:k=4:=ya;refine CE ?_;refine qb7 ?_;exact zF rfl rfl rfl rfl zal (by unfold zdG;rw[ur ht10,ur ht13];exact zkt rfl)
theorem ztu (a:Wide):Tells P 142 [.val z7 a] (.val idT (zeR a)):=by
 refine zc Tryz.func142 rfl rfl rfl (fun ext w hext=>?_);refine ze (d:=0) rfl zaS (fun ha=>?_);refine qae ?_;refine qaB ?_;refine CNQR ?_;refine qaB ?_;refine CNQQR ?_;refine qaP ?_;refine Lp (ι:=Nat) 3 (fun (k:Nat)=>((((Fr.none).set 1 (.ptr 0 0)).set 2 (.ptr 1 0)).set 3 (.ptr 2 0)).set 5 (.val i64T (k:Int))) (fun (k:Nat)=>(((Hp.none).set 0 (.box 49 z7 a)).set 1 (.box 46 idT zId)).set 2 (.box 46 idT (setN (zrC a) zId k))) (fun (k:Nat)=>k≤32) (fun (k:Nat)=>32-k) (0) (uf _) ?_;intro k hinv;refine qar ?_;refine Cf (p:=k<32) (fun ht6=>?_) (fun ht6=>?_)
 ·
  refine qbh ?_;refine qbX ?_;refine qad ?_;refine qb8 ?_;refine A0 za5 ?_;refine A0 (zG (i:=3-k/8) rfl rfl rfl yi zbf ya) ?_;refine A0 (zy rfl rfl rfl (Lens.elem (i:=3-k/8) ya u64T) za9) ?_;refine qau ?_;refine qbn ?_;refine A0 zh0 ?_;refine A0 za5 ?_;refine xi ?_;refine qbU ?_;refine A0 (zG (i:=k) rfl rfl rfl yi zfj ya) ?_;refine zg rfl rfl rfl rfl rfl (Lens.elem (i:=k) ya u8T) ty_5 rfl ?_;refine qbK ?_;refine zJ (n:=2) (y:=setN (zrC a) zId (k+1)) rfl zf9 ?_;exact Nx (k+1) ya ya
 obtain rfl:k=32:=ya;refine qdl ?_;refine qb4 ?_;refine qaq ?_;exact zF rfl rfl rfl rfl zab (zkt rfl)
theorem zvD (b:Ab.Id):Tells P 150 [.val idT b] (.val z7 (ze8 b)):=by
 refine zc Tryz.func150 rfl rfl rfl (fun ext w hext=>?_);refine ze (d:=0) rfl zid (fun hb=>?_);refine qae ?_;refine qaz ?_;refine CNQR ?_;refine qaz ?_;refine CNQQR ?_;refine qb4 ?_;refine qaP ?_;refine Lp (ι:=Nat) 3 (fun (k:Nat)=>((((Fr.none).set 2 (.ptr 1 0)).set 3 (.ptr 2 0)).set 7 (.val idT b)).set 8 (.val i64T (k:Int))) (fun (k:Nat)=>((Hp.none).set 1 (.box 49 z7 zaP)).set 2 (.box 49 z7 (zqX b k))) (fun (k:Nat)=>k≤32) (fun (k:Nat)=>32-k) (0) (uf _) ?_;intro k hinv;refine qar ?_;refine Cf (p:=k<32) (fun ht9=>?_) (fun ht9=>?_)
 ·
  obtain⟨x,hx⟩:∃x,b[k]?=some x:=yq;refine qbh ?_;refine A0 (g_index rfl rfl rfl rfl zfj ty_5 yh) ?_;refine A0 aV ?_;refine qaA ?_;refine qb8 ?_;refine A0 za5 ?_;refine qbX ?_;refine qad ?_;refine A0 (zG (i:=3-k/8) rfl rfl rfl yi zbf ya) ?_;refine A0 (zy rfl rfl rfl (Lens.elem (i:=3-k/8) ya u64T) za9) ?_;refine A0 (zlI rfl rfl rfl ym rfl) ?_;refine qau ?_;refine A0 (zfc rfl (zlk) (us_5) rfl) ?_;refine A0 (zs4 rfl rfl rfl) ?_;refine A0 (zG (i:=3-k/8) rfl rfl rfl yi zbf ya) ?_;refine zg rfl rfl rfl rfl rfl (Lens.elem (i:=3-k/8) ya u64T) za9 rfl ?_;refine qbK ?_;refine zJ (n:=2) (y:=zqX b (k+1)) rfl (by unfold zqX;rw[zcZ];unfold of32S;rw[uq (l:=b),hx];rfl) ?_;exact Nx (k+1) ya ya
 obtain rfl:k=32:=ya;refine CE ?_;refine qb7 ?_;exact zF rfl rfl rfl rfl zal (rfl)
theorem cmpW_ok (a b:Wide):Tells P 217 [.val z7 a,.val z7 b] (.val i64T (cmpW a b)):=by
 refine zc Tryz.func217 rfl rfl rfl (fun ext w hext=>?_);refine qa3 ?_;refine qcU ?_;refine G0 (zG (i:=3) rfl rfl rfl yi zbf ya) ?_;refine G0 (zy rfl rfl rfl (Lens.elem (i:=3) ya u64T) za9) ?_;refine G0 (zG (i:=3) rfl rfl rfl yi zbf ya) ?_;refine G0 (zy rfl rfl rfl (Lens.elem (i:=3) ya u64T) za9) ?_;refine G0 (oCl (zrA _ _) rfl zv4 ye) ?_;refine G0 (zG (i:=2) rfl rfl rfl yi zbf ya) ?_;refine G0 (zy rfl rfl rfl (Lens.elem (i:=2) ya u64T) za9) ?_;refine G0 (zG (i:=2) rfl rfl rfl yi zbf ya) ?_;refine G0 (zy rfl rfl rfl (Lens.elem (i:=2) ya u64T) za9) ?_;refine G0 (oCl (zrA _ _) rfl zv4 ye) ?_;refine G0 (zG (i:=1) rfl rfl rfl yi zbf ya) ?_;refine G0 (zy rfl rfl rfl (Lens.elem (i:=1) ya u64T) za9) ?_;refine G0 (zG (i:=1) rfl rfl rfl yi zbf ya) ?_;refine G0 (zy rfl rfl rfl (Lens.elem (i:=1) ya u64T) za9) ?_;refine G0 (oCl (zrA _ _) rfl zv4 ye) ?_;refine G0 (zG (i:=0) rfl rfl rfl yi zbf ya) ?_;refine G0 (zy rfl rfl rfl (Lens.elem (i:=0) ya u64T) za9) ?_;refine G0 (zG (i:=0) rfl rfl rfl yi zbf ya) ?_;refine G0 (zy rfl rfl rfl (Lens.elem (i:=0) ya u64T) za9) ?_;refine G0 (oCl (zrA _ _) rfl zv4 ye) ?_;refine G0 (zag (T:=i64T) (xs:=[_,_,_,_]) rfl zba zeQ yaZ rfl rfl) ?_;refine G0 (oCl (orInt _) rfl fn_268 yc) ?_;refine qaV ?_;exact zd rfl rfl (za rfl rfl)
def ofW (n:UInt64):Wide:=[n,0,0,0]
def tgtM (bits:UInt32):UInt64:=zL (IntL.toI u32T (bits&&&16777215))
def tgtE (bits:UInt32):Int:=IntL.toI u32T (zel bits 24)
def zbh (bits:UInt32):Bool:=decide (3≤tgtE bits∧tgtE bits≤32∧32768≤(tgtM bits).toNat∧(tgtM bits).toNat<8388608)
def tgtW (bits:UInt32):Wide:=if zbh bits=true then upW (ofW (tgtM bits)) (8*(tgtE bits-3)) else zaP
theorem zvC (n:UInt64):Tells P 158 [.val u64T n] (.val z7 (ofW n)):=by
 refine zc Tryz.func158 rfl rfl rfl (fun ext w hext=>?_);refine CQR ?_;refine qaz ?_;refine qcZ ?_;refine A0 (g_buildP (T:=u64T) (xs:=[_]) rfl zbf ziy yx rfl rfl) ?_;refine qag ?_;refine CN ?_;exact zF rfl rfl rfl rfl zal (rfl)
theorem znq (bits:UInt32):Tells P 105 [.val u32T bits] (.tup2 (.val z7 (tgtW bits)) (.val zs (zbh bits))):=by
 have he0:0≤tgtE bits:=Int.natCast_nonneg _;have heL:tgtE bits<4294967296:=ycC;refine zc Tryz.func105 rfl rfl rfl (fun ext w hext=>?_);refine CQR ?_;refine qaz ?_;refine qaA ?_;refine A0 (zon rfl rfl rfl ym rfl) ?_;refine A0 (zhy rfl (ui_3) (znk) rfl (zah (by show -9223372036854775808≤tgtE bits∧tgtE bits≤9223372036854775807;omega))) ?_;refine zj (d:=8) (y:=tgtE bits) rfl rfl ?_;refine qau ?_;refine A0 (zgi rfl rfl rfl) ?_;refine A0 (zfc rfl (zlk) (znk) rfl) ?_;refine zj (d:=11) (y:=tgtM bits) rfl rfl ?_;refine A0 aV ?_;refine qaj ?_;refine A0 zbb ?_;refine Sp (d:=13) (p:=tgtE bits<3) (fun g13=>?_) (fun g13=>?_)
 ·
  refine qau ?_;refine qaE ?_;refine qaf ?_;refine qbB ?_;refine qao ?_;refine Ct ?_;refine qaM ?_;refine qac ?_;exact zn rfl rfl (zt rfl rfl zal yX) (zS (za rfl yar))
 refine qbR ?_;refine qdo ?_;refine Sp (d:=16) (p:=32<tgtE bits) (fun g16=>?_) (fun g16=>?_)
 ·
  refine qaf ?_;refine qaE ?_;refine qao ?_;refine Ct ?_;refine qaM ?_;refine qac ?_;exact zn rfl rfl (zt rfl rfl zal yX) (zS (za rfl yar))
 refine qbA ?_;refine A1 zbb ?_;refine zX (d:=20) (p:=(tgtM bits).toNat<32768) rfl (by rw[uo];show((tgtM bits).toNat:Int)<(32768:Int)↔_;omega) (fun g20=>?_) (fun g20=>?_)
 ·
  refine qaf ?_;refine qbB ?_;refine qao ?_;refine Ct ?_;refine qaM ?_;refine qac ?_;exact zn rfl rfl (zt rfl rfl zal yX) (zS (za rfl yar))
 refine qbA ?_;refine A1 zer ?_;refine zX (d:=24) (p:=8388608≤(tgtM bits).toNat) rfl (by rw[uo];show(8388608:Int)≤((tgtM bits).toNat:Int)↔_;omega) (fun g24=>?_) (fun g24=>?_)
 ·
  refine qao ?_;refine Ct ?_;refine qaM ?_;refine qac ?_;exact zn rfl rfl (zt rfl rfl zal yX) (zS (za rfl yar))
 refine qao ?_;refine Cg ?_;refine qbw ?_;refine A0 (oCl (zvC _) rfl zwd yc) ?_;refine qbS ?_;refine A0 zh0 ?_;refine A0 (oCl (upW_ok _ _) rfl fn_157 ye) ?_;refine qag ?_;refine qac ?_;exact zn rfl rfl (zt rfl rfl zal (by unfold tgtW;rw[ut yan])) (zS (za rfl (by unfold zbh;symm;apply ui;omega)))
theorem ext_Add64:ExtAt P 275 add64E:=⟨_,rfl,rfl,rfl,rfl,rfl⟩
theorem ext_Sub64:ExtAt P 327 sub64E:=⟨_,rfl,rfl,rfl,rfl,rfl⟩
def zbz (f g:UInt64→UInt64→UInt64→UInt64) (a b:Wide) (k:Nat):Wide×UInt64:=(List.range k).foldl (fun x i=>(x.1.set i (f (x.1.getD i default) (b.getD i default) x.2),g (x.1.getD i default) (b.getD i default) x.2)) (a,0)
theorem zeW {f g:UInt64→UInt64→UInt64→UInt64} {a b:Wide} {k:Nat}:zbz f g a b (k+1)=((zbz f g a b k).1.set k (f ((zbz f g a b k).1.getD k default) (b.getD k default) (zbz f g a b k).2),g ((zbz f g a b k).1.getD k default) (b.getD k default) (zbz f g a b k).2):=by unfold zbz;rw[zcZ]
def addW (a b:Wide):Wide:=(zbz addS addC a b 4).1
def zhG (a b:Wide):Bool:=decide ((zbz addS addC a b 4).2.toNat=0)
def subW (a b:Wide):Wide:=(zbz subS subC a b 4).1
def zsb (a b:Wide):Bool:=decide ((zbz subS subC a b 4).2.toNat=0)
theorem zuC (a b:Wide):Tells P 274 [.val z7 a,.val z7 b,.clo 275 []] (.tup2 (.val z7 (zbz addS addC a b 4).1) (.val zs (decide ((zbz addS addC a b 4).2.toNat=0)))):=by
 refine zc Tryz.func274 rfl rfl rfl (fun ext w hext=>?_);refine qa3 ?_;refine qaz ?_;refine qah ?_;refine qaj ?_;refine CNB ?_;refine Lp (ι:=Nat) 3 (fun (k:Nat)=>((((((Fr.none).set 2 (.clo 275 [])).set 3 (.ptr 0 0)).set 4 (.ptr 1 0)).set 6 (.ptr 2 0)).set 8 (.val u64T (zbz addS addC a b k).2)).set 10 (.val i64T (k:Int))) (fun (k:Nat)=>(((Hp.none).set 0 (.box 49 z7 (zbz addS addC a b k).1)).set 1 (.box 49 z7 b)).set 2 (.box 49 z7 zaP)) (fun (k:Nat)=>k≤4∧(zbz addS addC a b k).2.toNat≤1) (fun (k:Nat)=>4-k) (0) (⟨uf _,uf 1⟩) ?_;intro k hinv;refine qar ?_;refine Cf (p:=k<4) (fun ht11=>?_) (fun ht11=>?_)
 ·
  refine qbh ?_;refine qac ?_;refine zH [some 1,some 1,some 1,some 1,some 1,some 1,some 1,some 1,some 1,some 1,some 1,some 1,some 1000001,some 1,none,some 1] mixed yd ?_;refine X0 mV ?_;refine X0 mC ?_;refine X0 mV ?_;refine xw ?_;refine xx ?_;refine X0 mV ?_;refine xw ?_;refine xx ?_;refine X0 mV ?_;refine X0 (g_ext3 rfl ext_Add64 rfl rfl rfl rfl (fun P w=>Go.Ab.run_add64 P w _ _ hinv.2)) ?_;refine X0 mX ?_;refine X0 yah ?_;refine xy ?_;refine xw ?_;refine XK.e (x:=.idk) (fun fr' hfr kk H=>by exact zg rfl rfl rfl ((hfr 26 yd).trans rfl) rfl (Lens.elem (i:=k) ya u64T) za9 ((hfr 24 yd).trans rfl) (zM H)) ?_;refine X0 aX ?_;refine qaX ?_;refine qan ?_;refine zJ (n:=0) (y:=(zbz addS addC a b (k+1)).1) rfl (by rw[zeW]) ?_;refine zj (d:=8) (y:=(zbz addS addC a b (k+1)).2) rfl (by rw[zeW]) ?_;exact Nx (k+1) (⟨by omega,by rw[zeW];exact zkd _ _ hinv.2⟩) ya
 obtain rfl:k=4:=ya;refine qdl ?_;refine qa4 ?_;refine qau ?_;refine A0 zbZ ?_;refine qag ?_;refine qac ?_;exact zn rfl rfl (zt rfl rfl zal (rfl)) (zS (za rfl (by rw[uo];show((_:Nat):Int)=(0:Int)↔_;omega)))
theorem zuB (a b:Wide):Tells P 274 [.val z7 a,.val z7 b,.clo 327 []] (.tup2 (.val z7 (zbz subS subC a b 4).1) (.val zs (decide ((zbz subS subC a b 4).2.toNat=0)))):=by
 refine zc Tryz.func274 rfl rfl rfl (fun ext w hext=>?_);refine qa3 ?_;refine qaz ?_;refine qah ?_;refine qaj ?_;refine CNB ?_;refine Lp (ι:=Nat) 3 (fun (k:Nat)=>((((((Fr.none).set 2 (.clo 327 [])).set 3 (.ptr 0 0)).set 4 (.ptr 1 0)).set 6 (.ptr 2 0)).set 8 (.val u64T (zbz subS subC a b k).2)).set 10 (.val i64T (k:Int))) (fun (k:Nat)=>(((Hp.none).set 0 (.box 49 z7 (zbz subS subC a b k).1)).set 1 (.box 49 z7 b)).set 2 (.box 49 z7 zaP)) (fun (k:Nat)=>k≤4∧(zbz subS subC a b k).2.toNat≤1) (fun (k:Nat)=>4-k) (0) (⟨uf _,uf 1⟩) ?_;intro k hinv;refine qar ?_;refine Cf (p:=k<4) (fun ht11=>?_) (fun ht11=>?_)
 ·
  refine qbh ?_;refine qac ?_;refine zH [some 1,some 1,some 1,some 1,some 1,some 1,some 1,some 1,some 1,some 1,some 1,some 1,some 1000001,some 1,none,some 1] mixed yd ?_;refine X0 mV ?_;refine X0 mC ?_;refine X0 mV ?_;refine xw ?_;refine xx ?_;refine X0 mV ?_;refine xw ?_;refine xx ?_;refine X0 mV ?_;refine X0 (g_ext3 rfl ext_Sub64 rfl rfl rfl rfl (fun P w=>Go.Ab.run_sub64 P w _ _ hinv.2)) ?_;refine X0 mX ?_;refine X0 yah ?_;refine xy ?_;refine xw ?_;refine XK.e (x:=.idk) (fun fr' hfr kk H=>by exact zg rfl rfl rfl ((hfr 26 yd).trans rfl) rfl (Lens.elem (i:=k) ya u64T) za9 ((hfr 24 yd).trans rfl) (zM H)) ?_;refine X0 aX ?_;refine qaX ?_;refine qan ?_;refine zJ (n:=0) (y:=(zbz subS subC a b (k+1)).1) rfl (by rw[zeW]) ?_;refine zj (d:=8) (y:=(zbz subS subC a b (k+1)).2) rfl (by rw[zeW]) ?_;exact Nx (k+1) (⟨by omega,by rw[zeW];exact zqw _ _ _⟩) ya
 obtain rfl:k=4:=ya;refine qdl ?_;refine qa4 ?_;refine qau ?_;refine A0 zbZ ?_;refine qag ?_;refine qac ?_;exact zn rfl rfl (zt rfl rfl zal (rfl)) (zS (za rfl (by rw[uo];show((_:Nat):Int)=(0:Int)↔_;omega)))
theorem zuM (a b:Wide):Tells P 229 [.val z7 a,.val z7 b] (.tup2 (.val z7 (addW a b)) (.val zs (zhG a b))):=by
 refine zc Tryz.func229 rfl rfl rfl (fun ext w hext=>?_);refine qa3 ?_;refine qaz ?_;refine qah ?_;refine qdw ?_;refine A0 (oCl (zuC a b) rfl fn_274 ⟨yj,yj,(by first|exact zeI (Cs:=[]) rfl fn_275 yJ trivial rfl (fun x=>no_contract_of_math_bits_Add64)|exact zeH (Cs:=[]) rfl fn_275 yJ trivial rfl (fun x y=>no_contract_of_math_bits_Add64)|exact zeJ rfl),trivial⟩) ?_;refine qaa ?_;refine qag ?_;refine qac ?_;exact zn rfl rfl (zt rfl rfl zal (rfl)) (zS (za rfl (rfl)))
theorem subW_ok (a b:Wide):Tells P 311 [.val z7 a,.val z7 b] (.tup2 (.val z7 (subW a b)) (.val zs (zsb a b))):=by
 refine zc Tryz.func311 rfl rfl rfl (fun ext w hext=>?_);refine qa3 ?_;refine qaz ?_;refine qah ?_;refine qdw ?_;refine A0 (oCl (zuB a b) rfl fn_274 ⟨yj,yj,(by first|exact zeI (Cs:=[]) rfl fn_327 yJ trivial rfl (fun x=>no_contract_of_math_bits_Sub64)|exact zeH (Cs:=[]) rfl fn_327 yJ trivial rfl (fun x y=>no_contract_of_math_bits_Sub64)|exact zeJ rfl),trivial⟩) ?_;refine qaa ?_;refine qag ?_;refine qac ?_;exact zn rfl rfl (zt rfl rfl zal (rfl)) (zS (za rfl (rfl)))
def zas (n:Nat):Nat:=if n=0 then 0 else Nat.log2 n+1
theorem ztx {n s:Nat} (h:2^s≤n):zas n=s+zas (n/2^s):=by
  have hp:=Nat.two_pow_pos s;have h1:1≤n/2^s:=(Nat.le_div_iff_mul_le hp).2 ya;unfold zas;rw[ur ya,ur ya];obtain⟨k,hk⟩:∃k,k=Nat.log2 (n/2^s):=⟨_,rfl⟩;have h2:=(Nat.log2_eq_iff (n:=n/2^s) (k:=k) ya).1 hk.symm;have h3:Nat.log2 n=k+s:=by
    rw[Nat.log2_eq_iff ya]
    constructor
    · rw[Nat.pow_add];exact(Nat.le_div_iff_mul_le hp).1 h2.1
    rw[show k+s+1=k+1+s by omega,Nat.pow_add];exact(Nat.div_lt_iff_lt_mul hp).1 h2.2
  rw[h3,←hk];omega
theorem zhF {n s:Nat} (h:n<2^s):zas n≤s:=by
  unfold zas
  split
  · omega
  rename_i h0
  have:=(Nat.log2_lt h0).2 h
  omega
theorem zbF (x:UInt64) {m:Nat} (h:m≤64):(zaF x m).toNat=x.toNat/2^m:=by
  have hx:x.toNat<18446744073709551616:=x.toNat_lt;unfold zaF;rw[UInt64.toNat_ofNat_of_lt' (Nat.lt_of_le_of_lt (Nat.div_le_self _ _) hx),Nat.min_eq_left h]
theorem u8_small {x:UInt64} (h:x.toNat<256):(zaL (IntL.toI u64T x)).toNat=x.toNat:=by
  unfold zaL;show(UInt8.ofNat ((x.toNat:Int)%256).toNat).toNat=x.toNat
  rw[UInt8.toNat_ofNat_of_lt' ybP];omega
theorem len_small {x:UInt64} (h:x.toNat<256):IntL.toI u8T (UInt8.ofNat (zas (zaL (IntL.toI u64T x)).toNat))=zas x.toNat:=by
  have:=zhF (s:=8) (n:=x.toNat) ya
  rw[u8_small h];show((UInt8.ofNat (zas x.toNat)).toNat:Int)=_;rw[UInt8.toNat_ofNat_of_lt' ybP]
theorem ziN {x y:UInt64} {b:Int} {s:Nat} (hy:y.toNat<256) (hx:zas x.toNat=s+zas y.toNat) (hs:s≤64) (hb:b=(s:Int)):IntKind.i64.wrap (b+IntKind.i64.wrap (IntL.toI u8T (UInt8.ofNat (zas (zaL (IntL.toI u64T y)).toNat))))=(zas x.toNat:Nat):=by
  have:=zhF (s:=8) (n:=y.toNat) ya
  rw[len_small hy,zah (n:=((zas y.toNat:Nat):Int)) ya,zah ya,hx,hb];omega
theorem zdV {x:UInt64} {s:Nat} (hs:s≤64) (h:2^s≤x.toNat):zas x.toNat=s+zas (zaF x s).toNat:=by
  rw[zbF x hs];exact ztx h
theorem zvK (x:UInt64):Tells P 215 [.val u64T x] (.val i64T (zas x.toNat:Nat)):=by
 refine zc Tryz.func215 rfl rfl rfl (fun ext w hext=>?_);refine CQR ?_;refine qaj ?_;refine qb9 ?_;refine zq (p:=4294967296≤(x).toNat) rfl (by rw[uo];show(4294967296:Int)≤((x).toNat:Int)↔_;omega) (fun ht4=>?_) (fun ht4=>?_)
 ·
  refine qa7 ?_;refine xi ?_;refine qbX ?_;refine qaj ?_;refine qb9 ?_;refine zq (p:=65536≤(zaF x 32).toNat) rfl (by rw[uo];show(65536:Int)≤((zaF x 32).toNat:Int)↔_;omega) (fun ht8=>?_) (fun ht8=>?_)
  ·
   refine qa7 ?_;refine xi ?_;refine qbX ?_;refine qc2 ?_;refine qaj ?_;refine qb9 ?_;refine zq (p:=256≤(zaF (zaF x 32) 16).toNat) rfl (by rw[uo];show(256:Int)≤((zaF (zaF x 32) 16).toNat:Int)↔_;omega) (fun ht14=>?_) (fun ht14=>?_)
   ·
    refine qa7 ?_;refine xi ?_;refine qbX ?_;refine qc2 ?_;refine qbr ?_;refine qbU ?_;refine A0 (zee (fun n=>UInt8.ofNat (zas n)) rfl rfl st_9 yd) ?_;refine qaQ ?_;exact zd rfl rfl (za rfl (ziN (y:=zaF (zaF (zaF x 32) 16) 8) (s:=56) yu (by rw[zdV (s:=32) yn ht4,zdV (s:=16) yn ht8,zdV (s:=8) yn ht14];omega) yn (by rfl)))
   refine qcz ?_;refine qbU ?_;refine A0 (zee (fun n=>UInt8.ofNat (zas n)) rfl rfl st_9 yd) ?_;refine qaQ ?_;exact zd rfl rfl (za rfl (ziN (y:=zaF (zaF x 32) 16) (s:=48) yu (by rw[zdV (s:=32) yn ht4,zdV (s:=16) yn ht8];omega) yn (by rfl)))
  refine qbP ?_;refine qb9 ?_;refine zq (p:=256≤(zaF x 32).toNat) rfl (by rw[uo];show(256:Int)≤((zaF x 32).toNat:Int)↔_;omega) (fun ht14=>?_) (fun ht14=>?_)
  ·
   refine qa7 ?_;refine xi ?_;refine qbX ?_;refine qc2 ?_;refine qbr ?_;refine qbU ?_;refine A0 (zee (fun n=>UInt8.ofNat (zas n)) rfl rfl st_9 yd) ?_;refine qaQ ?_;exact zd rfl rfl (za rfl (ziN (y:=zaF (zaF x 32) 8) (s:=40) yu (by rw[zdV (s:=32) yn ht4,zdV (s:=8) yn ht14];omega) yn (by rfl)))
  refine qcz ?_;refine qbU ?_;refine A0 (zee (fun n=>UInt8.ofNat (zas n)) rfl rfl st_9 yd) ?_;refine qaQ ?_;exact zd rfl rfl (za rfl (ziN (y:=zaF x 32) (s:=32) yu (zdV (s:=32) yn ht4) yn (by rfl)))
 refine qbP ?_;refine qb9 ?_;refine zq (p:=65536≤(x).toNat) rfl (by rw[uo];show(65536:Int)≤((x).toNat:Int)↔_;omega) (fun ht8=>?_) (fun ht8=>?_)
 ·
  refine qa7 ?_;refine xi ?_;refine qbX ?_;refine qc2 ?_;refine qaj ?_;refine qb9 ?_;refine zq (p:=256≤(zaF x 16).toNat) rfl (by rw[uo];show(256:Int)≤((zaF x 16).toNat:Int)↔_;omega) (fun ht14=>?_) (fun ht14=>?_)
  ·
   refine qa7 ?_;refine xi ?_;refine qbX ?_;refine qc2 ?_;refine qbr ?_;refine qbU ?_;refine A0 (zee (fun n=>UInt8.ofNat (zas n)) rfl rfl st_9 yd) ?_;refine qaQ ?_;exact zd rfl rfl (za rfl (ziN (y:=zaF (zaF x 16) 8) (s:=24) yu (by rw[zdV (s:=16) yn ht8,zdV (s:=8) yn ht14];omega) yn (by rfl)))
  refine qcz ?_;refine qbU ?_;refine A0 (zee (fun n=>UInt8.ofNat (zas n)) rfl rfl st_9 yd) ?_;refine qaQ ?_;exact zd rfl rfl (za rfl (ziN (y:=zaF x 16) (s:=16) yu (zdV (s:=16) yn ht8) yn (by rfl)))
 refine qbP ?_;refine qb9 ?_;refine zq (p:=256≤(x).toNat) rfl (by rw[uo];show(256:Int)≤((x).toNat:Int)↔_;omega) (fun ht14=>?_) (fun ht14=>?_)
 ·
  refine qa7 ?_;refine xi ?_;refine qbX ?_;refine qc2 ?_;refine qbr ?_;refine qbU ?_;refine A0 (zee (fun n=>UInt8.ofNat (zas n)) rfl rfl st_9 yd) ?_;refine qaQ ?_;exact zd rfl rfl (za rfl (ziN (y:=zaF x 8) (s:=8) yu (zdV (s:=8) yn ht14) yn (by rfl)))
 refine qcz ?_;refine qbU ?_;refine A0 (zee (fun n=>UInt8.ofNat (zas n)) rfl rfl st_9 yd) ?_;refine qaQ ?_;exact zd rfl rfl (za rfl (ziN (y:=x) (s:=0) yu ((Nat.zero_add _).symm) yn (by rfl)))
theorem lenU_ok (x:UInt64):Tells P 155 [.val u64T x] (.val i64T (zas x.toNat:Nat)):=by
 refine zc Tryz.func155 rfl rfl rfl (fun ext w hext=>?_);refine CQR ?_;refine qaY ?_;refine Cg ?_;refine qbw ?_;refine A0 (oCl (zvK _) rfl fn_215 yc) ?_;refine qac ?_;exact zd rfl rfl (za rfl rfl)
def zmv (a:Wide):Nat→Nat
  | 0=>0
  | k+1=>if 0<(a.getD k default).toNat then k*64+zas (a.getD k default).toNat else zmv a k
def longW (a:Wide):Nat:=zmv a 4
theorem longN_yes {a:Wide} {k:Nat} (hk:0<k) (h:0<(a.getD (k-1) default).toNat):zmv a k=(k-1)*64+zas (a.getD (k-1) default).toNat:=by
  obtain⟨j,rfl⟩:∃j,k=j+1:=⟨k-1,by omega⟩;rw[Nat.add_sub_cancel] at *;rw[zmv,ut h]
theorem longN_no {a:Wide} {k:Nat} (hk:0<k) (h:¬0<(a.getD (k-1) default).toNat):zmv a k=zmv a (k-1):=by
  obtain⟨j,rfl⟩:∃j,k=j+1:=⟨k-1,by omega⟩;rw[Nat.add_sub_cancel] at *;rw[zmv,ur h]
theorem zvJ (a:Wide):∀k,zmv a k≤k*64
  | 0=>ug _
  | k+1=>by
    have:=zvJ a k
    have hb:=zhF (s:=64) (n:=(a.getD k default).toNat) (UInt64.toNat_lt _);rw[zmv]
    split<;>omega
theorem zq8 (a:Wide):longW a≤256:=zvJ a 4
theorem zqc {n:Nat} (h:0<n):1≤zas n:=by unfold zas;rw[ur ya];omega
theorem longW_pos {a:Wide} (hl:a.length=4) (h:a≠zaP):1≤longW a:=by
  match a,hl with
  | [a0,a1,a2,a3],_ =>
    unfold longW;simp only[zmv,List.getD_cons_succ,List.getD_cons_zero];have hp:∀x:UInt64,0<x.toNat→1≤zas x.toNat:=fun x hx=>zqc hx
    have hz:∀x:UInt64,¬0<x.toNat→x=0:=fun x hx=>UInt64.toNat_inj.1 yy
    split
    · have:=hp _ ‹_›;omega
    split
    · have:=hp _ ‹_›;omega
    split
    · have:=hp _ ‹_›;omega
    split
    · have:=hp _ ‹_›;omega
    exact absurd (by rw[hz a0 ‹_›,hz a1 ‹_›,hz a2 ‹_›,hz a3 ‹_›];rfl) h
def zkG (out:Wide) (n:Nat):Wide:=out.set (n/64) (out.getD (n/64) default|||zg1 1 (n%64))
def zi0 (b:Wide) (x:Wide×Wide) (n:Nat):Wide×Wide:=if zsb x.1 (upW b n)=true then (subW x.1 (upW b n),zkG x.2 n) else x
def divN (b:Wide):Nat→Wide×Wide→Wide×Wide
  | 0,x=>x
  | n+1,x=>divN b n (zi0 b x n)
theorem zrw {b:Wide} {n:Int} (h:0≤n) (x:Wide×Wide):divN b (n+1).toNat x=divN b (n-1+1).toNat (zi0 b x n.toNat):=by
  rw[show(n+1).toNat=n.toNat+1 by omega,show(n-1+1).toNat=n.toNat by omega,divN]
def divP (a b:Wide):Wide×Wide:=if b=zaP then (zaP,zaP) else ((divN b (longW a+1-longW b) (a,zaP)).2,(divN b (longW a+1-longW b) (a,zaP)).1)
def divW (a b:Wide):Wide:=(divP a b).1
def remW (a b:Wide):Wide:=(divP a b).2
def divOk (b:Wide):Bool:=decide (b≠zaP)
theorem zvI (a:Wide):Tells P 310 [.val z7 a] (.val i64T (longW a:Nat)):=by
 refine zc Tryz.func310 rfl rfl rfl (fun ext w hext=>?_);refine ze (d:=0) rfl zaS (fun ha=>?_);refine qae ?_;refine qcc ?_;refine Lp (ι:=Nat) 1 (fun (k:Nat)=>((Fr.none).set 1 (.ptr 0 0)).set 3 (.val i64T ((k:Int)-1))) (fun (k:Nat)=>(Hp.none).set 0 (.box 49 z7 a)) (fun (k:Nat)=>k≤4∧longW a=zmv a k) (fun (k:Nat)=>k) (4) (⟨ug _,rfl⟩) ?_;intro k hinv;refine qaF ?_;refine qb9 ?_;refine Cf (p:=0<k) (fun ht5=>?_) (fun ht5=>?_)
 ·
  refine qbh ?_;refine xz ?_;refine xA ?_;refine qbT ?_;refine zq (p:=0<(a.getD (k-1) default).toNat) rfl (by rw[uo];show(0:Int)<((a.getD (k-1) default).toNat:Int)↔_;omega) (fun ht11=>?_) (fun ht11=>?_)
  ·
   have hb:=zhF (s:=64) (n:=(a.getD (k-1) default).toNat) (UInt64.toNat_lt _);refine qa7 ?_;refine A0 zh0 ?_;refine qau ?_;refine xz ?_;refine xA ?_;refine A0 (oCl (zvK _) rfl fn_215 yc) ?_;refine A0 zcn ?_;refine qac ?_;exact zd rfl rfl (za rfl (by rw[hinv.2,longN_yes ht5 ht11];omega))
  refine CSIR ?_;refine qbS ?_;refine qac ?_;refine zj (d:=3) (y:=((k-1:Nat):Int)-1) rfl ya ?_;exact Nx (k-1) (⟨by omega,by rw[hinv.2,longN_no ht5 ht11]⟩) ya
 obtain rfl:k=0:=ya;refine qcT ?_;exact zd rfl rfl (za rfl (by rw[hinv.2];rfl))
theorem divW_ok (a b:Wide):Tells P 276 [.val z7 a,.val z7 b] (.tup3 (.val z7 (divW a b)) (.val z7 (remW a b)) (.val zs (divOk b))):=by
 refine zc Tryz.func276 rfl rfl rfl (fun ext w hext=>?_);refine ze (d:=0) rfl zaS (fun ha=>?_);refine ze (d:=1) rfl zaS (fun hb=>?_);refine qa3 ?_;refine qaz ?_;refine qaz ?_;refine qc8 ?_;refine qa4 ?_;refine xe ?_;refine A0 (zim rfl rfl rfl (zwo)) ?_;refine CN ?_;refine zq (p:=b=zaP) rfl yw (fun ht13=>?_) (fun ht13=>?_)
 ·
  refine CQR ?_;refine xe ?_;refine xe ?_;refine qag ?_;refine qag ?_;refine qac ?_;exact zm7 rfl rfl (zt rfl rfl zal (by unfold divW divP;rw[ut ht13])) (zt rfl rfl zal (by unfold remW divP;rw[ut ht13])) (zS (za rfl (by unfold divOk;symm;exact uh (fun h=>h ht13))))
 have hz:=longW_pos hb ht13;have hla:=zq8 a;have hlb:=zq8 b;refine CSQR ?_;refine qaz ?_;refine CNQ ?_;refine qaG ?_;refine G0 (oLs rfl rfl rfl zal) ?_;refine G0 (oCl (zvI _) rfl fn_310 yc) ?_;refine G0 (oLs rfl rfl rfl zal) ?_;refine G0 (oCl (zvI _) rfl fn_310 yc) ?_;refine G0 za5 ?_;refine qaV ?_;refine CB ?_;refine Lp (ι:=Int×Wide×Wide) 5 (fun(n,x)=>(((((Fr.none.set 2 (.ptr 0 0)).set 3 (.ptr 1 0)).set 4 (.ptr 2 0)).set 5 (.ptr 3 0)).set 7 (.ptr 4 0)).set 8 (.val i64T n)) (fun(n,x)=>((((Hp.none.set 0 (.box 49 z7 x.1)).set 1 (.box 49 z7 b)).set 2 (.box 49 z7 zaP)).set 3 (.box 49 z7 zaP)).set 4 (.box 49 z7 x.2)) (fun(n,x)=>n≤255∧-256≤n∧x.2.length=4∧divN b (n+1).toNat x=divN b (longW a+1-longW b) (a,zaP)) (fun(n,x)=>(n+1).toNat) (((longW a:Int)-(longW b:Int),a,zaP)) (⟨by omega,by omega,rfl,by rw[show((longW a:Int)-(longW b:Int)+1).toNat=longW a+1-longW b by omega]⟩) ?_;intro⟨n,x⟩ hinv;dsimp only at hinv;refine qaF ?_;refine qb9 ?_;refine Cf (p:=0≤n) (fun ht22=>?_) (fun ht22=>?_)
 ·
  refine qa8 ?_;refine CQ ?_;refine zH [some 1000001,some 1000001,some 1000001,some 1000001,some 1000001,some 1000001,some 1000001,some 1000001,none,none,some 1] mixed yd ?_;refine XK.gf (t:=2) rfl rfl (fun _ he=>zy rfl rfl he (Lens.self _) zal) ⟨rfl,trivial⟩ rfl rfl rfl ?_;refine XK.gf (t:=3) rfl rfl (fun _ he=>zy rfl rfl he (Lens.self _) zal) ⟨rfl,trivial⟩ rfl rfl rfl ?_;refine XK.ga (fun _=>g_mv (.inl rfl) rfl) rfl rfl rfl ?_;refine XK.ga (fun _=>zdC (upW_ok _ _) rfl fn_157 ye rfl) rfl rfl rfl ?_;refine XK.ga (fun _=>zdC (subW_ok _ _) rfl fn_311 ye rfl) rfl rfl rfl ?_;refine XK.ga yo rfl rfl rfl ?_;refine XK.ga yaj rfl rfl rfl ?_;refine xy ?_;refine XK.e (fun fr' hfr kk H=>by exact z8 ziy rfl rfl rfl rfl (zM H)) ?_;refine XK.e (x:=.idk) (fun fr' hfr kk H=>by exact zg rfl rfl rfl ((hfr 9 yd).trans rfl) rfl (Lens.self _) zal ((hfr 31 yd).trans rfl) (zM H)) ?_;refine X0 aV ?_;refine XK.nilp ⟨yx,yx,trivial⟩ ?_;refine qa7 ?_;refine CN ?_;refine zq (p:=zsb x.1 (upW b n)=true) rfl yw (fun ht33=>?_) (fun ht33=>?_)
  ·
   refine qb7 ?_;refine xo ?_;refine X0 mV ?_;refine X0 (g_quo rfl rfl rfl ycb (by first|decide|omega) rfl) ?_;refine X0 (zG (i:=n.toNat/64) rfl rfl rfl yi zbf ya) ?_;refine X0 (zy rfl rfl rfl (Lens.elem (i:=n.toNat/64) ya u64T) za9) ?_;refine X0 mV ?_;refine X0 (g_rem rfl rfl rfl ycb (by first|decide|omega) rfl) ?_;refine X0 (zlI rfl rfl rfl ym rfl) ?_;refine X0 (zs4 rfl rfl rfl) ?_;refine X0 (zG (i:=n.toNat/64) rfl rfl rfl yi zbf ya) ?_;refine XK.e (x:=.idk) (fun fr' hfr kk H=>by exact zg rfl rfl rfl ((hfr 43 yd).trans rfl) rfl (Lens.elem (i:=n.toNat/64) ya u64T) za9 ((hfr 42 yd).trans rfl) (zM H)) ?_;refine qaX ?_;refine qbS ?_;refine qac ?_;refine zJ (n:=4) (y:=zkG x.2 n.toNat) rfl (by unfold zkG;rw[show(IntL.toI i64T (n%64)).toNat=n.toNat%64 by simp only[IntL.toI,id_eq];omega];rfl) ?_;exact Nx ((n-1,subW x.1 (upW b n),zkG x.2 n.toNat)) y6 (by show(n-1+1).toNat<(n+1).toNat;omega)
  refine CSIR ?_;refine qbS ?_;refine qac ?_;exact Nx ((n-1,x)) y6 (by show(n-1+1).toNat<(n+1).toNat;omega)
 refine CE ?_;refine CQ ?_;refine zH [some 1,some 1000001,none,none,some 1] mixed yd ?_;refine qcE ?_;refine XK.gf (t:=2) rfl rfl (fun _ he=>zy rfl rfl he (Lens.self _) zal) ⟨rfl,trivial⟩ rfl rfl rfl ?_;refine XK.e (x:=.idk) (fun fr' hfr kk H=>by exact zg rfl rfl rfl ((hfr 4 yd).trans rfl) rfl (Lens.self _) zal ((hfr 44 yd).trans rfl) (zM H)) ?_;refine XK.e (x:=.idk) (fun fr' hfr kk H=>by exact zg rfl rfl rfl ((hfr 5 yd).trans rfl) rfl (Lens.self _) zal ((hfr 45 yd).trans rfl) (zM H)) ?_;refine X0 aV ?_;refine XK.nilp ⟨yx,trivial⟩ ?_;exact zm7 rfl rfl (zt rfl rfl zal (by unfold divW divP;rw[ur ht13,←hinv.2.2.2,show(n+1).toNat=0 by omega];rfl)) (zt rfl rfl zal (by unfold remW divP;rw[ur ht13,←hinv.2.2.2,show(n+1).toNat=0 by omega];rfl)) (zS (za rfl (by unfold divOk;symm;exact ui ht13)))
def searchN (f:Int→Bool) (lo hi:Nat):Nat :=
  if h:lo<hi then (if f (((lo+hi)/2:Nat):Int)=true then searchN f lo ((lo+hi)/2) else searchN f ((lo+hi)/2+1) hi) else lo
termination_by hi-lo
theorem znA {f:Int→Bool} {lo hi:Nat} (h:lo<hi) (hf:¬f (((lo+hi)/2:Nat):Int)=true):searchN f lo hi=searchN f ((lo+hi)/2+1) hi:=by
  rw[searchN,dif_pos h,ur hf]
theorem zlo {f:Int→Bool} {lo hi:Nat} (h:lo<hi) (hf:f (((lo+hi)/2:Nat):Int)=true):searchN f lo hi=searchN f lo ((lo+hi)/2):=by
  conv=>lhs;rw[searchN,dif_pos h,ut hf]
theorem search_end {f:Int→Bool} {lo:Nat}:searchN f lo lo=lo:=by rw[searchN,dif_neg (Nat.lt_irrefl _)]
def zgR (n t:Wide) (k:Int):Bool:=decide (0<cmpW n (zdG t k))
def zn9 (id:Ab.Id) (t:Wide):Int:=(searchN (zgR (ze8 id) t) 0 32:Nat)-1
theorem zku {f:Int→Bool} (lo hi:Nat) (h:lo≤hi):searchN f lo hi≤hi:=by
  rw[searchN]
  split
  · split
    · have:=zku (f:=f) lo ((lo+hi)/2) ya;omega
    exact zku _ _ ya
  exact h
termination_by hi-lo
theorem search_ok (n:Nat) (f:Int→Bool) (hn:n<4611686018427387904):Tells P 219 [.val i64T (n:Int),.fn1 P i64T zs f] (.val i64T (searchN f 0 n:Nat)):=by
 refine zc Tryz.func219 rfl rfl rfl (fun ext w hext=>?_);refine ze (d:=0) rfl zu (fun hin0=>?_);refine qdt ?_;refine A0 aV ?_;refine qaY ?_;refine CB ?_;refine Lp (ι:=Nat×Nat) 0 (fun (i:Nat×Nat)=>match i with|(lo,hi)=>(((Fr.none).set 1 (.fn1 P i64T zs f)).set 5 (.val i64T (lo:Int))).set 6 (.val i64T (hi:Int))) (fun (i:Nat×Nat)=>match i with|(lo,hi)=>Hp.none) (fun (i:Nat×Nat)=>match i with|(lo,hi)=>lo≤hi∧hi≤n∧searchN f 0 n=searchN f lo hi) (fun (i:Nat×Nat)=>match i with|(lo,hi)=>hi-lo) ((0,n)) (⟨uf _,ug _,rfl⟩) ?_;intro⟨lo,hi⟩ hinv;dsimp only at hinv;refine qaW ?_;refine qav ?_;refine Cf (p:=lo<hi) (fun ht11=>?_) (fun ht11=>?_)
 ·
  refine qdu ?_;refine xi ?_;refine A0 (zhy rfl (ui_3) (zuX) rfl (mid_eq ya)) ?_;refine qah ?_;refine A0 mF ?_;refine qau ?_;refine A0 (zkR rfl rfl yj) ?_;refine qaJ ?_;refine zq (p:=¬f (((lo+hi)/2:Nat):Int)=true) rfl yw (fun ht21=>?_) (fun ht21=>?_)
  ·
   refine CR ?_;refine qak ?_;refine CI ?_;exact Nx (((lo+hi)/2+1,hi)) yaX yaH
  refine CR ?_;refine qau ?_;refine qac ?_;refine CI ?_;exact Nx ((lo,(lo+hi)/2)) yaX yaH
 obtain rfl:hi=lo:=ya;refine qcu ?_;refine qac ?_;exact zd rfl rfl (za rfl (by rw[hinv.2.2,search_end]))
theorem zsS (n t:Wide) (k:Int):Tells P 216 [.val i64T k,.rptr z7 n,.rptr z7 t] (.val zs (zgR n t k)):=by
 refine zc Tryz.func216 rfl rfl rfl (fun ext w hext=>?_);refine ze (d:=0) rfl zu (fun hin0=>?_);refine CQR ?_;refine qcU ?_;refine G0 (zh rfl rfl zal) ?_;refine G0 (zh rfl rfl zal) ?_;refine G0 mV ?_;refine G0 (oCl (downW_ok _ _) rfl fn_218 ye) ?_;refine G0 (oCl (cmpW_ok _ _) rfl fn_217 ye) ?_;refine G0 zjC ?_;refine qaV ?_;exact zd rfl rfl (za rfl rfl)
theorem levelW_ok (id:Ab.Id) (t:Wide):Tells P 156 [.val idT id,.val z7 t] (.val i64T (zn9 id t)):=by
 refine zc Tryz.func156 rfl rfl rfl (fun ext w hext=>?_);have hsl:=zku (f:=zgR (ze8 id) t) 0 32 yn;refine qa3 ?_;refine qah ?_;refine qb4 ?_;refine A0 (oCl (zvD _) rfl fn_150 yc) ?_;refine qaz ?_;refine qag ?_;refine CNQR ?_;refine A0 (g_mkf (caps:=[_,_]) rfl rfl) ?_;refine A0 aC ?_;refine CNQR ?_;refine A0 mC ?_;refine A0 (oCl (search_ok 32 (zgR (ze8 id) t) yn) rfl fn_219 ⟨yj,(by first|exact zeI (Cs:=[_,_]) rfl fn_216 ya8 ⟨yab,yab,trivial⟩ rfl (fun x=>zsS (ze8 id) t x)|exact zeH (Cs:=[_,_]) rfl fn_216 ya8 ⟨yab,yab,trivial⟩ rfl (fun x y=>zsS (ze8 id) t x)|exact zeJ rfl),trivial⟩) ?_;refine A0 za5 ?_;refine qac ?_;exact zd rfl rfl (za rfl rfl)
def zlh (t:Wide):Wide:=if zhG t (ofW 1)=true then addW (divW [~~~ t.getD 0 default,~~~ t.getD 1 default,~~~ t.getD 2 default,~~~ t.getD 3 default] (addW t (ofW 1))) (ofW 1) else ofW 1
theorem workW_ok (t:Wide):Tells P 231 [.val z7 t] (.val z7 (zlh t)):=by
 refine zc Tryz.func231 rfl rfl rfl (fun ext w hext=>?_);refine ze (d:=0) rfl zaS (fun ha=>?_);refine qae ?_;refine qaz ?_;refine CNQ ?_;refine xB ?_;refine XK.gf (t:=1) rfl rfl (fun _ he=>zy rfl rfl he (Lens.self _) zal) ⟨rfl,trivial⟩ rfl rfl rfl ?_;refine XK.ga (fun _=>zdC (zvC 1) rfl zwd yc rfl) rfl rfl rfl ?_;refine XK.ga (fun _=>zdC (zuM _ _) rfl fn_229 ye rfl) rfl rfl rfl ?_;refine XK.ga yo rfl rfl rfl ?_;refine XK.ga yaj rfl rfl rfl ?_;refine xy ?_;refine XK.e (fun fr' hfr kk H=>by exact z8 ziy rfl rfl rfl rfl (zM H)) ?_;refine XK.e (x:=.idk) (fun fr' hfr kk H=>by exact zg rfl rfl rfl ((hfr 3 yd).trans rfl) rfl (Lens.self _) zal ((hfr 13 yd).trans rfl) (zM H)) ?_;refine X0 aV ?_;refine XK.nilp ⟨yx,trivial⟩ ?_;refine qaF ?_;refine qaJ ?_;refine zq (p:=¬zhG t (ofW 1)=true) rfl (by cases zhG t (ofW 1)<;>rfl) (fun ht16=>?_) (fun ht16=>?_)
 ·
  refine CQR ?_;refine A0 (oCl (zvC 1) rfl zwd yc) ?_;refine qag ?_;refine CN ?_;exact zF rfl rfl rfl rfl zal (by unfold zlh;rw[ur ht16]<;>rfl)
 refine CSQR ?_;refine A0 (zG (i:=0) rfl rfl rfl yi zbf ya) ?_;refine A0 (zy rfl rfl rfl (Lens.elem (i:=0) ya u64T) za9) ?_;refine A0 (zrm rfl rfl) ?_;refine A0 (zG (i:=1) rfl rfl rfl yi zbf ya) ?_;refine A0 (zy rfl rfl rfl (Lens.elem (i:=1) ya u64T) za9) ?_;refine A0 (zrm rfl rfl) ?_;refine A0 (zG (i:=2) rfl rfl rfl yi zbf ya) ?_;refine A0 (zy rfl rfl rfl (Lens.elem (i:=2) ya u64T) za9) ?_;refine A0 (zrm rfl rfl) ?_;refine A0 (zG (i:=3) rfl rfl rfl yi zbf ya) ?_;refine A0 (zy rfl rfl rfl (Lens.elem (i:=3) ya u64T) za9) ?_;refine A0 (zrm rfl rfl) ?_;refine A0 (zh7 (T:=u64T) (xs:=[_,_,_,_]) rfl zbf ziy yaZ rfl) ?_;refine qaz ?_;refine qag ?_;refine CNQR ?_;refine qdw ?_;refine A0 (oCl (divW_ok _ _) rfl fn_276 ye) ?_;refine qa6 ?_;refine A0 e32 ?_;refine qaz ?_;refine qaz ?_;refine qag ?_;refine qag ?_;refine qaY ?_;refine zH [some 1,some 1,some 1,some 1,some 1,some 1000001,none] mixed yd ?_;refine qcE ?_;refine X0 (oCl (zvC 1) rfl zwd yc) ?_;refine X0 (oCl (zuM _ _) rfl fn_229 ye) ?_;refine X0 mX ?_;refine X0 yah ?_;refine xy ?_;refine XK.e (x:=.idk) (fun fr' hfr kk H=>by exact zg rfl rfl rfl ((hfr 6 yd).trans rfl) rfl (Lens.self _) zal ((hfr 42 yd).trans rfl) (zM H)) ?_;refine XK.nil' ?_;refine qb7 ?_;exact zF rfl rfl rfl rfl zal (by unfold zlh;rw[ut (ua ht16)]<;>rfl)
def hOk (h:Head):Bool:=decide (0≤h.height∧h.height≤1048576)
def zb6 (h:Head):List UInt8:=[zD (zL (IntL.toI i64T h.height)) 4,h.prev,h.links,h.txs,h.past,zeR h.work,zD (zL (IntL.toI u32T h.bits)) 4,zD h.nonce 8].flatten
def zaj (h:Head):List UInt8:=if hOk h=true then zb6 h else []
def zdo (h:Head):Ab.Id:=if hOk h=true then zfA ([5]++zb6 h) else zId
def zW (h:Head):Int:=if zbh h.bits=true∧hOk h=true then (if h.height=0 then 31 else zn9 (zdo h) (tgtW h.bits)) else -1
def zdx (h:Head):Wide:=if zbh h.bits=true then zlh (tgtW h.bits) else zaP
def zbG (h:Head):Bool:=!decide (zW h = -1)
theorem zkU {h:Head} {ρ:Nat→Value} {B:Nat→Prop} {U N:Nat→Prop} {w:World} {v:Value} (hv:(AV.val zbx h).rel ρ B U N w v):h.prev.length=32∧h.links.length=32∧h.txs.length=32∧h.past.length=32∧h.work.length=4:=by
  obtain⟨cs,⟨_,_,_,_,_,_,_,h1,_,_,_,h2,_,_,_,h3,_,_,_,h4,_,_,_,h5,_⟩,_⟩:=hv;exact⟨h1.1,h2.1,h3.1,h4.1,h5.1⟩
theorem zc5 (a:Wide):(zeR a).length=32:=by unfold zeR;simp
theorem hput_ok (h:Head):Tells P 88 [.val zbx h] (.tup2 (.fresh 5 u8T (zaj h)) (.val zs (hOk h))):=by
 refine zc Tryz.func88 rfl rfl rfl (fun ext w hext=>?_);refine ze (d:=0) rfl zkU (fun hh=>?_);obtain⟨hh1,hh2,hh3,hh4,hh5⟩:=hh;refine qca ?_;refine qc8 ?_;refine qbL ?_;refine A0 zbb ?_;refine Sp (d:=7) (p:=h.height<0) (fun g7=>?_) (fun g7=>?_)
 ·
  refine qau ?_;refine qab ?_;refine qao ?_;refine Ct ?_;refine qaT ?_;exact zx rfl rfl ybZ (za rfl (by unfold hOk;symm;apply uh;omega))
 refine qau ?_;refine A1 (oFp zc9) ?_;refine A1 (oLb zap ty_3) ?_;refine qdo ?_;refine qao ?_;refine Cf (p:=1048576<h.height) (fun ht12=>?_) (fun ht12=>?_)
 ·
  refine qaT ?_;exact zx rfl rfl ybZ (za rfl (by unfold hOk;symm;apply uh;omega))
 refine CSQR ?_;refine A0 (oFp zg7) ?_;refine A0 (oLb zcT zal) ?_;refine A0 (oCl (ztu _) rfl fn_142 yc) ?_;refine qbV ?_;refine qcX ?_;refine zeF (d:=4) rfl rfl (Lens.self _) ?_;have hbl:=zc5 h.work;have hn1:=zE (zL (IntL.toI i64T h.height)) 4;have hn2:=zE (zL (IntL.toI u32T h.bits)) 4;have hn3:=zE h.nonce 8;refine zH [some 1,some 1,some 1,some 1,some 1,some 1,some 1,some 1,some 1,some 1,some 1,some 1,some 1,some 1,some 1,some 1,some 1,some 1,some 1,some 1,some 1,none,some 1,some 1] mixed yd ?_;refine X0 (oFr zc9 zap) ?_;refine X0 (zh rfl rfl ty_3) ?_;refine X0 (zfc rfl (zlk) (us_3) rfl) ?_;refine qcJ ?_;refine X0 (oFr zfv zb8) ?_;refine qcN ?_;refine X0 (oFr zex zbg) ?_;refine qcN ?_;refine X0 (oFr zfu zcF) ?_;refine qcN ?_;refine X0 (oFr zft zb9) ?_;refine qcN ?_;refine qcN ?_;refine X0 (oFr zce zaq) ?_;refine X0 (zh rfl rfl zbp) ?_;refine X0 (zfc rfl (zlk) (znk) rfl) ?_;refine qcJ ?_;refine X0 (oFr zfs zbK) ?_;refine X0 (zh rfl rfl za9) ?_;refine X0 (zmf (T:=sl u8T) (S:=bsl u8T) (zdC (zC (zk3 _ 8 yn)) rfl zwe yci rfl)) ?_;refine X0 (zag (T:=(bsl u8T)) (xs:=[_,_,_,_,_,_,_,_]) rfl zfJ ze6 yaq rfl rfl) ?_;refine XK.e (fun fr' hfr kk H=>by exact zaH (zhB [zD (zL (IntL.toI i64T h.height)) 4,h.prev,h.links,h.txs,h.past,zeR h.work,zD (zL (IntL.toI u32T h.bits)) 4,zD h.nonce 8] (by simp[hh1,hh2,hh3,hh4,hbl,hn1,hn2,hn3])) rfl zpV ⟨(zb ((hfr 36 yd).trans rfl)),trivial⟩ rfl rfl rfl (zM H)) ?_;refine X0 aO ?_;refine X0 aV ?_;refine XK.nil' ?_;exact zx rfl rfl (zf rfl rfl (by unfold zaj;rw[ut (by unfold hOk;rw[uj];omega)];rfl)) (za rfl (by unfold hOk;symm;apply ui;omega))
theorem zkN (h:Head):Tells P 67 [.val zbx h] (.val idT (zdo h)):=by
 refine zc Tryz.func67 rfl rfl rfl (fun ext w hext=>?_);refine ze (d:=0) rfl zkU (fun hh=>?_);obtain⟨hh1,hh2,hh3,hh4,hh5⟩:=hh;refine qae ?_;refine qaB ?_;refine CNQR ?_;refine qcq ?_;refine A0 (oCl (zbo (hput_ok h)) rfl fn_88 yc) ?_;refine qb1 ?_;refine qaJ ?_;refine zq (p:=¬hOk h=true) rfl (by cases hOk h<;>rfl) (fun ht11=>?_) (fun ht11=>?_)
 ·
  refine CQR ?_;refine A0 (zev rfl zfj ztN rfl) ?_;refine qaq ?_;exact zF rfl rfl rfl rfl zab (by unfold zdo;rw[ur ht11]<;>rfl)
 refine CSQR ?_;refine qa5 ?_;refine zfx (S:=bsl u8T) (d:=13) rfl ?_;refine qau ?_;refine zfx (S:=bsl u8T) (d:=14) rfl ?_;refine qcd ?_;refine A0 (oCl (of_ok [[5],zaj h] (by unfold zaj;split<;>simp[zb6,hh1,hh2,hh3,hh4,zc5,zE])) rfl zwg yc) ?_;refine qaq ?_;exact zF rfl rfl rfl rfl zab (by unfold zdo zaj;rw[ut (ua ht11),ut (ua ht11)];simp)
theorem ziQ (h:Head):Tells P 104 [.val zbx h] (.val i64T (zW h)):=by
 refine zc Tryz.func104 rfl rfl rfl (fun ext w hext=>?_);refine qae ?_;refine qah ?_;refine A0 (oFp zce) ?_;refine A0 (oLb zaq zbp) ?_;refine A0 (oCl (znq _) rfl fn_105 yc) ?_;refine qcD ?_;refine qaY ?_;refine CB ?_;refine qaF ?_;refine A0 oN ?_;refine zX (d:=13) (p:=¬zbh h.bits=true) rfl ycc (fun g13=>?_) (fun g13=>?_)
 ·
  refine qac ?_;refine Ct ?_;refine CS ?_;refine Ct ?_;refine qay ?_;exact zd rfl rfl (za rfl (by unfold zW;rw[ur (by unfold hOk;rw[uj];exact fun h=>g13 h.1)]<;>rfl))
 refine qac ?_;refine Cg ?_;refine CQR ?_;refine qbL ?_;refine A0 zbb ?_;refine Sp (d:=16) (p:=h.height<0) (fun g16=>?_) (fun g16=>?_)
 ·
  refine qac ?_;refine Ct ?_;refine CS ?_;refine Ct ?_;refine qay ?_;exact zd rfl rfl (za rfl (by unfold zW;rw[ur (by unfold hOk;rw[uj];omega)]<;>rfl))
 refine qac ?_;refine Cg ?_;refine CR ?_;refine qbL ?_;refine A0 zjC ?_;refine Sp (d:=19) (p:=1048576<h.height) (fun g19=>?_) (fun g19=>?_)
 ·
  refine qac ?_;refine Ct ?_;refine qay ?_;exact zd rfl rfl (za rfl (by unfold zW;rw[ur (by unfold hOk;rw[uj];omega)]<;>rfl))
 refine qac ?_;refine Cg ?_;refine CQR ?_;refine qbL ?_;refine A0 zbZ ?_;refine qac ?_;refine Cf (p:=h.height=0) (fun ht20=>?_) (fun ht20=>?_)
 ·
  refine qay ?_;exact zd rfl rfl (za rfl (by unfold zW;rw[ut ⟨ua g13,by unfold hOk;rw[uj];omega⟩,ut ht20]<;>rfl))
 refine CS ?_;refine CI ?_;refine qaG ?_;refine G0 (oLs rfl rfl rfl zaM) ?_;refine G0 (oCl (zkN _) rfl fn_67 yc) ?_;refine G0 (oLs rfl rfl rfl zal) ?_;refine G0 (oCl (levelW_ok _ _) rfl fn_156 ye) ?_;refine qaV ?_;exact zd rfl rfl (za rfl (by unfold zW;rw[ut ⟨ua g13,by unfold hOk;rw[uj];omega⟩,ur ht20]))
theorem zuf (h:Head):Tells P 168 [.val zbx h] (.val z7 (zdx h)):=by
 refine zc Tryz.func168 rfl rfl rfl (fun ext w hext=>?_);refine qae ?_;refine qaz ?_;refine CNQR ?_;refine A0 (oFp zce) ?_;refine A0 (oLb zaq zbp) ?_;refine A0 (oCl (znq _) rfl fn_105 yc) ?_;refine qcD ?_;refine qaj ?_;refine qaJ ?_;refine zq (p:=¬zbh h.bits=true) rfl ycc (fun ht12=>?_) (fun ht12=>?_)
 ·
  refine qaM ?_;refine CN ?_;exact zF rfl rfl rfl rfl zal (by unfold zdx;rw[ur ht12]<;>rfl)
 refine CSQR ?_;refine qa4 ?_;refine A0 (oCl (workW_ok _) rfl fn_231 yc) ?_;refine qag ?_;refine CN ?_;exact zF rfl rfl rfl rfl zal (by unfold zdx;rw[ut (ua ht12)])
theorem zpQ (h:Head):Tells P 125 [.val zbx h] (.val zs (zbG h)):=by
 refine zc Tryz.func125 rfl rfl rfl (fun ext w hext=>?_);refine qae ?_;refine qah ?_;refine qcq ?_;refine A0 (oCl (ziQ _) rfl fn_104 yc) ?_;refine A0 zgB ?_;refine qac ?_;exact zd rfl rfl (za rfl rfl)
theorem zup (l m:List Ab.Id):Tells P 53 [.val (bsl idT) l,.val (bsl idT) m] (.val zs (decide (l=m))):=by
 refine zc Tryz.func53 rfl rfl rfl (fun ext w hext=>?_);refine ze (d:=0) rfl zi (fun hsl0=>?_);refine ze (d:=1) rfl zi (fun hsl1=>?_);refine CQR ?_;refine qaj ?_;refine qb3 ?_;refine qau ?_;refine qb3 ?_;refine qaO ?_;refine Cf (p:=¬l.length=m.length) (fun ht10=>?_) (fun ht10=>?_)
 ·
  refine qay ?_;exact zd rfl rfl (za rfl (uh (fun e=>ht10 ybE)).symm)
 refine qbP ?_;refine qb3 ?_;refine qaP ?_;refine Lp (ι:=Nat) 0 (fun (k:Nat)=>((((Fr.none).set 0 (.val (bsl idT) l)).set 1 (.val (bsl idT) m)).set 12 (.val i64T (l.length:Int))).set 13 (.val i64T (k:Int))) (fun (k:Nat)=>Hp.none) (fun (k:Nat)=>k≤l.length∧l.take k=m.take k) (fun (k:Nat)=>l.length-k) (0) (⟨uf _,by simp⟩) ?_;intro k hinv;refine qar ?_;refine Cf (p:=k<l.length) (fun ht14=>?_) (fun ht14=>?_)
 ·
  obtain⟨x,hx⟩:∃x,l[k]?=some x:=⟨_,ub ht14⟩;obtain⟨y,hy⟩:∃y,m[k]?=some y:=yq;refine qbh ?_;refine qcU ?_;refine qbv ?_;refine G0 (zbH rfl rfl rfl zek yh) ?_;refine G0 (zh rfl rfl zab) ?_;refine qbv ?_;refine G0 (zbH rfl rfl rfl zek yh) ?_;refine G0 (zh rfl rfl zab) ?_;refine G0 (zgg rfl rfl rfl (zjH)) ?_;refine GK.nil ?_;refine zq (p:=¬x=y) rfl yw (fun ht24=>?_) (fun ht24=>?_)
  ·
   refine qay ?_;exact zd rfl rfl (za rfl (uh (zes hx hy ht24)).symm)
  refine qcp ?_;exact Nx (k+1) (⟨by omega,zb3 hx hy hinv.2 (by simpa using ht24)⟩) ya
 refine qcT ?_;exact zd rfl rfl (za rfl (ui yR).symm)
theorem equalIn (l m:List In):Tells P 169 [.val (bsl inT) l,.val (bsl inT) m] (.val zs (decide (l=m))):=by
 refine zc Tryz.func169 rfl rfl rfl (fun ext w hext=>?_);refine ze (d:=0) rfl zi (fun hsl0=>?_);refine ze (d:=1) rfl zi (fun hsl1=>?_);refine CQR ?_;refine qaj ?_;refine A0 (zat rfl rfl zgf) ?_;refine qau ?_;refine A0 (zat rfl rfl zgf) ?_;refine qaO ?_;refine Cf (p:=¬l.length=m.length) (fun ht10=>?_) (fun ht10=>?_)
 ·
  refine qay ?_;exact zd rfl rfl (za rfl (uh (fun e=>ht10 ybE)).symm)
 refine qbP ?_;refine A0 (zat rfl rfl zgf) ?_;refine qaP ?_;refine Lp (ι:=Nat) 0 (fun (k:Nat)=>((((Fr.none).set 0 (.val (bsl inT) l)).set 1 (.val (bsl inT) m)).set 12 (.val i64T (l.length:Int))).set 13 (.val i64T (k:Int))) (fun (k:Nat)=>Hp.none) (fun (k:Nat)=>k≤l.length∧l.take k=m.take k) (fun (k:Nat)=>l.length-k) (0) (⟨uf _,by simp⟩) ?_;intro k hinv;refine qar ?_;refine Cf (p:=k<l.length) (fun ht14=>?_) (fun ht14=>?_)
 ·
  obtain⟨x,hx⟩:∃x,l[k]?=some x:=⟨_,ub ht14⟩;obtain⟨y,hy⟩:∃y,m[k]?=some y:=yq;refine qbh ?_;refine qcU ?_;refine qbv ?_;refine G0 (zbH rfl rfl rfl ze5 yh) ?_;refine G0 (zh rfl rfl zcc) ?_;refine qbv ?_;refine G0 (zbH rfl rfl rfl ze5 yh) ?_;refine G0 (zh rfl rfl zcc) ?_;refine G0 (zgg rfl rfl rfl (zoA)) ?_;refine GK.nil ?_;refine zq (p:=¬x=y) rfl yw (fun ht24=>?_) (fun ht24=>?_)
  ·
   refine qay ?_;exact zd rfl rfl (za rfl (uh (zes hx hy ht24)).symm)
  refine qcp ?_;exact Nx (k+1) (⟨by omega,zb3 hx hy hinv.2 (by simpa using ht24)⟩) ya
 refine qcT ?_;exact zd rfl rfl (za rfl (ui yR).symm)
theorem equalOut (l m:List Out):Tells P 170 [.val (bsl outT) l,.val (bsl outT) m] (.val zs (decide (l=m))):=by
 refine zc Tryz.func170 rfl rfl rfl (fun ext w hext=>?_);refine ze (d:=0) rfl zi (fun hsl0=>?_);refine ze (d:=1) rfl zi (fun hsl1=>?_);refine CQR ?_;refine qaj ?_;refine A0 (zat rfl rfl ziP) ?_;refine qau ?_;refine A0 (zat rfl rfl ziP) ?_;refine qaO ?_;refine Cf (p:=¬l.length=m.length) (fun ht10=>?_) (fun ht10=>?_)
 ·
  refine qay ?_;exact zd rfl rfl (za rfl (uh (fun e=>ht10 ybE)).symm)
 refine qbP ?_;refine A0 (zat rfl rfl ziP) ?_;refine qaP ?_;refine Lp (ι:=Nat) 0 (fun (k:Nat)=>((((Fr.none).set 0 (.val (bsl outT) l)).set 1 (.val (bsl outT) m)).set 12 (.val i64T (l.length:Int))).set 13 (.val i64T (k:Int))) (fun (k:Nat)=>Hp.none) (fun (k:Nat)=>k≤l.length∧l.take k=m.take k) (fun (k:Nat)=>l.length-k) (0) (⟨uf _,by simp⟩) ?_;intro k hinv;refine qar ?_;refine Cf (p:=k<l.length) (fun ht14=>?_) (fun ht14=>?_)
 ·
  obtain⟨x,hx⟩:∃x,l[k]?=some x:=⟨_,ub ht14⟩;obtain⟨y,hy⟩:∃y,m[k]?=some y:=yq;refine qbh ?_;refine qcU ?_;refine qbv ?_;refine G0 (zbH rfl rfl rfl zf7 yh) ?_;refine G0 (zh rfl rfl zf3) ?_;refine qbv ?_;refine G0 (zbH rfl rfl rfl zf7 yh) ?_;refine G0 (zh rfl rfl zf3) ?_;refine G0 (zgg rfl rfl rfl (eqt_221)) ?_;refine GK.nil ?_;refine zq (p:=¬x=y) rfl yw (fun ht24=>?_) (fun ht24=>?_)
  ·
   refine qay ?_;exact zd rfl rfl (za rfl (uh (zes hx hy ht24)).symm)
  refine qcp ?_;exact Nx (k+1) (⟨by omega,zb3 hx hy hinv.2 (by simpa using ht24)⟩) ya
 refine qcT ?_;exact zd rfl rfl (za rfl (ui yR).symm)
theorem zlQ (l:List Ab.Id) (hl:l.length*32≤140737488355328∧l.length≤9223372036854775807):Tells P 74 [.val (bsl idT) l] (.fresh 46 idT l):=by
 refine zc Tryz.func74 rfl rfl rfl (fun ext w hext=>?_);refine ze (d:=0) rfl zi (fun hsl0=>?_);refine qap ?_;refine qbe ?_;refine zii rfl rfl rfl rfl rfl zhx (fun c4 hc4=>?_);refine CN ?_;refine zq (p:=c4=true) rfl yw (fun ht4=>?_) (fun ht4=>?_)
 ·
  obtain rfl:=hc4 ht4;refine qap ?_;refine CN ?_;exact zd rfl rfl (zm rfl)
 refine CSQR ?_;refine zbm (T:=idT) (xs:=[]) rfl rfl rfl rfl zek zeP trivial rfl rfl ?_;refine qau ?_;refine zo rfl rfl rfl rfl rfl rfl rfl zeP ya1 ?_;refine qbJ ?_;exact zd rfl rfl (zf rfl rfl yw)
theorem zp5 (l:List Total) (hl:l.length*72≤140737488355328∧l.length≤9223372036854775807):Tells P 166 [.val (bsl zaC) l] (.fresh 164 zaC l):=by
 refine zc Tryz.func166 rfl rfl rfl (fun ext w hext=>?_);refine ze (d:=0) rfl zi (fun hsl0=>?_);refine qap ?_;refine qbe ?_;refine zii rfl rfl rfl rfl rfl zgS (fun c4 hc4=>?_);refine CN ?_;refine zq (p:=c4=true) rfl yw (fun ht4=>?_) (fun ht4=>?_)
 ·
  obtain rfl:=hc4 ht4;refine qap ?_;refine CN ?_;exact zd rfl rfl (zm rfl)
 refine CSQR ?_;refine zbm (T:=zaC) (xs:=[]) rfl rfl rfl rfl zfK zgK trivial rfl rfl ?_;refine qau ?_;refine zo rfl rfl rfl rfl rfl rfl rfl zgK ya1 ?_;refine qbJ ?_;exact zd rfl rfl (zf rfl rfl yw)
theorem cloneIn (l:List In) (hl:l.length*40≤140737488355328∧l.length≤9223372036854775807):Tells P 181 [.val (bsl inT) l] (.fresh 218 inT l):=by
 refine zc Tryz.func181 rfl rfl rfl (fun ext w hext=>?_);refine ze (d:=0) rfl zi (fun hsl0=>?_);refine qap ?_;refine qbe ?_;refine zii rfl rfl rfl rfl rfl zgf (fun c4 hc4=>?_);refine CN ?_;refine zq (p:=c4=true) rfl yw (fun ht4=>?_) (fun ht4=>?_)
 ·
  obtain rfl:=hc4 ht4;refine qap ?_;refine CN ?_;exact zd rfl rfl (zm rfl)
 refine CSQR ?_;refine zbm (T:=inT) (xs:=[]) rfl rfl rfl rfl ze5 row_130 trivial rfl rfl ?_;refine qau ?_;refine zo rfl rfl rfl rfl rfl rfl rfl row_130 ya1 ?_;refine qbJ ?_;exact zd rfl rfl (zf rfl rfl yw)
theorem zwt (l:List Out) (hl:l.length*16≤140737488355328∧l.length≤9223372036854775807):Tells P 182 [.val (bsl outT) l] (.fresh 221 outT l):=by
 refine zc Tryz.func182 rfl rfl rfl (fun ext w hext=>?_);refine ze (d:=0) rfl zi (fun hsl0=>?_);refine qap ?_;refine qbe ?_;refine zii rfl rfl rfl rfl rfl ziP (fun c4 hc4=>?_);refine CN ?_;refine zq (p:=c4=true) rfl yw (fun ht4=>?_) (fun ht4=>?_)
 ·
  obtain rfl:=hc4 ht4;refine qap ?_;refine CN ?_;exact zd rfl rfl (zm rfl)
 refine CSQR ?_;refine zbm (T:=outT) (xs:=[]) rfl rfl rfl rfl zf7 row_131 trivial rfl rfl ?_;refine qau ?_;refine zo rfl rfl rfl rfl rfl rfl rfl row_131 ya1 ?_;refine qbJ ?_;exact zd rfl rfl (zf rfl rfl yw)
theorem cloneTx (l:List Tx) (hl:l.length*48≤140737488355328∧l.length≤9223372036854775807):Tells P 239 [.val (bsl txT) l] (.fresh 133 txT l):=by
 refine zc Tryz.func239 rfl rfl rfl (fun ext w hext=>?_);refine ze (d:=0) rfl zi (fun hsl0=>?_);refine qap ?_;refine qbe ?_;refine zii rfl rfl rfl rfl rfl isl_56 (fun c4 hc4=>?_);refine CN ?_;refine zq (p:=c4=true) rfl yw (fun ht4=>?_) (fun ht4=>?_)
 ·
  obtain rfl:=hc4 ht4;refine qap ?_;refine CN ?_;exact zd rfl rfl (zm rfl)
 refine CSQR ?_;refine zbm (T:=txT) (xs:=[]) rfl rfl rfl rfl zkq zvi trivial rfl rfl ?_;refine qau ?_;refine zo rfl rfl rfl rfl rfl rfl rfl zvi ya1 ?_;refine qbJ ?_;exact zd rfl rfl (zf rfl rfl yw)
theorem equalFTx (l m:List Tx):Tells P 111 [.val (bsl txT) l,.val (bsl txT) m,.fn2 P txT txT zs (fun x y=>decide (x=y))] (.val zs (decide (l=m))):=by
 refine zc Tryz.func111 rfl rfl rfl (fun ext w hext=>?_);refine ze (d:=0) rfl zi (fun hsl0=>?_);refine ze (d:=1) rfl zi (fun hsl1=>?_);refine CQR ?_;refine qaj ?_;refine qbZ ?_;refine qau ?_;refine qbZ ?_;refine qaO ?_;refine Cf (p:=¬l.length=m.length) (fun ht14=>?_) (fun ht14=>?_)
 ·
  refine qay ?_;exact zd rfl rfl (za rfl (uh (fun e=>ht14 ybE)).symm)
 refine qbP ?_;refine qbZ ?_;refine qaP ?_;refine Lp (ι:=Nat) 0 (fun (k:Nat)=>((((((Fr.none).set 0 (.val (bsl txT) l)).set 1 (.val (bsl txT) m)).set 2 (.fn2 P txT txT zs (fun x y=>decide (x=y)))).set 15 (.val (bsl txT) l)).set 16 (.val i64T (l.length:Int))).set 17 (.val i64T (k:Int))) (fun (k:Nat)=>Hp.none) (fun (k:Nat)=>k≤l.length∧l.take k=m.take k) (fun (k:Nat)=>l.length-k) (0) (⟨uf _,by simp⟩) ?_;intro k hinv;refine qar ?_;refine Cf (p:=k<l.length) (fun ht18=>?_) (fun ht18=>?_)
 ·
  obtain⟨x,hx⟩:∃x,l[k]?=some x:=⟨_,ub ht18⟩;obtain⟨y,hy⟩:∃y,m[k]?=some y:=yq;refine qbh ?_;refine qbz ?_;refine A0 aV ?_;refine qcO ?_;refine CNQR ?_;refine qad ?_;refine qbz ?_;refine qcO ?_;refine CNQR ?_;refine A0 mH ?_;refine qbF ?_;refine qbF ?_;refine A0 (zmX rfl rfl yj yj) ?_;refine qaJ ?_;refine zq (p:=¬x=y) rfl yw (fun ht30=>?_) (fun ht30=>?_)
  ·
   refine qay ?_;exact zd rfl rfl (za rfl (uh (zes hx hy ht30)).symm)
  refine qcp ?_;exact Nx (k+1) (⟨by omega,zb3 hx hy hinv.2 (by simpa using ht30)⟩) ya
 refine qcT ?_;exact zd rfl rfl (za rfl (ui yR).symm)
theorem zoH (a b:Tx):Tells P 112 [.val txT a,.val txT b] (.val zs (decide (a=b))):=by
 refine zc Tryz.func112 rfl rfl rfl (fun ext w hext=>?_);refine qa3 ?_;refine qah ?_;refine qcW ?_;refine qcW ?_;refine A0 (oCl (equalIn _ _) rfl fn_169 ye) ?_;refine Sp (d:=9) (p:=a.ins=b.ins) (fun g9=>?_) (fun g9=>?_)
 ·
  refine qau ?_;refine A1 (oFp zcb) ?_;refine A1 (oLb zbJ zeO) ?_;refine A1 (oFp zcb) ?_;refine A1 (oLb zbJ zeO) ?_;refine A1 (oCl (equalOut _ _) rfl fn_170 ye) ?_;refine qaS ?_;exact zd rfl rfl (za rfl yas)
 refine qau ?_;refine qab ?_;refine qbB ?_;refine qaS ?_;exact zd rfl rfl (za rfl (by symm;apply uh;intro h;exact g9 (by rw[h])))
def halfN (n:Nat):Nat:=2^(zas (n-1)-1)
theorem zrh (n:Nat):0<halfN n:=Nat.two_pow_pos _
theorem zug {n:Nat} (h:2≤n):halfN n<n:=by
  unfold halfN zas;rw[ur ya,Nat.add_sub_cancel]
  have:=Nat.log2_self_le (n:=n-1) ya
  omega
theorem half_eq {n:Nat} (h:2≤n) (hn:n<4398046511104):IntKind.i64.wrap (1*2^(min (IntL.toI i64T (((zas (zL (IntL.toI i64T ((n:Int)-1))).toNat:Nat):Int)-1)).toNat 64))=(halfN n:Nat):=by
  have e1:(zL (IntL.toI i64T ((n:Int)-1))).toNat=n-1:=by
    unfold zL;show(UInt64.ofNat (((n:Int)-1)%18446744073709551616).toNat).toNat=n-1;rw[UInt64.toNat_ofNat_of_lt' yV];omega
  have hb:=zhF (s:=42) (n:=n-1) ya;have hp:2^(zas (n-1)-1)≤2^42:=Nat.pow_le_pow_right yn ya;rw[e1];have e2:(IntL.toI i64T (((zas (n-1):Nat):Int)-1)).toNat=zas (n-1)-1:=by
    show(((zas (n-1):Nat):Int)-1).toNat=_;omega
  rw[e2,Nat.min_eq_left ya,Int.one_mul];have e3:(2:Int)^(zas (n-1)-1)=((2^(zas (n-1)-1):Nat):Int):=yw;rw[e3];show _=((2^(zas (n-1)-1):Nat):Int);obtain⟨q,hq⟩:∃q,q=2^(zas (n-1)-1):=⟨_,rfl⟩;rw[←hq] at hp ⊢;exact zah ya
theorem bitLen_one {n:Nat} (h:2≤n) (hn:n<4398046511104):1≤zas (zL (IntL.toI i64T ((n:Int)-1))).toNat∧zas (zL (IntL.toI i64T ((n:Int)-1))).toNat≤42:=by
  have e1:(zL (IntL.toI i64T ((n:Int)-1))).toNat=n-1:=by
    unfold zL;show(UInt64.ofNat (((n:Int)-1)%18446744073709551616).toNat).toNat=n-1;rw[UInt64.toNat_ofNat_of_lt' yV];omega
  rw[e1];refine⟨?_,zhF ya⟩;unfold zas;rw[ur ya];omega
theorem half_ok (n:Nat) (h:2≤n) (hn:n<4398046511104):Tells P 221 [.val i64T (n:Int)] (.val i64T (halfN n:Nat)):=by
 obtain⟨hb1,hb2⟩:=bitLen_one h hn;refine zc Tryz.func221 rfl rfl rfl (fun ext w hext=>?_);refine ze (d:=0) rfl zu (fun hin0=>?_);refine qdt ?_;refine A0 za5 ?_;refine A0 (zfc rfl (zr2) (us_3) rfl) ?_;refine A0 (oCl (lenU_ok _) rfl fn_155 yc) ?_;refine A0 za5 ?_;refine A0 (g_shlI rfl rfl rfl (by first|decide|omega|(show(0:Int)≤((_:Nat):Int)-1;omega)|(simp[IntL.toI];done)|(simp[IntL.toI];omega)) rfl) ?_;refine qac ?_;exact zd rfl rfl (za rfl (half_eq h hn))
def zpN (b:List UInt8):Ab.Id:=zfA ([0]++b)
theorem leaf_ok (b:List UInt8) (hb:b.length≤1000000):Tells P 223 [.val (bsl u8T) b] (.val idT (zpN b)):=by
 refine zc Tryz.func223 rfl rfl rfl (fun ext w hext=>?_);refine ze (d:=0) rfl zi (fun hsl0=>?_);refine qbD ?_;refine qa5 ?_;refine zfx (S:=bsl u8T) (d:=3) rfl ?_;refine qau ?_;refine qcd ?_;refine A0 (oCl (of_ok [[0],b] yy) rfl zwg yc) ?_;refine qaq ?_;exact zF rfl rfl rfl rfl zab (by unfold zpN;simp)
def zfP (a b:Ab.Id):List UInt8:=[1]++a++b
def nodeOf (a b:Ab.Id):Ab.Id:=zfA (zfP a b)
theorem ztR (a b:Ab.Id) (ha:a.length=32) (hb:b.length=32):Tells P 270 [.val (arrT 2 yn idT) [a,b]] (.fresh 5 u8T (zfP a b)):=by
 refine zc Tryz.func270 rfl rfl rfl (fun ext w hext=>?_);refine qca ?_;refine qcX ?_;have e0:([a,b]:List Ab.Id)[0]?=some a:=rfl;have e1:([a,b]:List Ab.Id)[1]?=some b:=rfl;refine xj ?_;refine qdp ?_;refine X0 (g_ia_ra (i:=0) rfl rfl rfl yi ar_295 yh) ?_;refine qcN ?_;refine X0 (g_ia_ra (i:=1) rfl rfl rfl yi ar_295 yh) ?_;refine qcN ?_;refine qc1 ?_;refine XK.e (fun fr' hfr kk H=>by exact zaH (zhB [[1],a,b] yy) rfl zpV ⟨(zb ((hfr 8 yd).trans rfl)),trivial⟩ rfl rfl rfl (zM H)) ?_;refine X0 aO ?_;refine XK.nil' ?_;exact zd rfl rfl (zf rfl rfl (by unfold zfP;simp))
theorem node_ok (a b:Ab.Id):Tells P 222 [.val idT a,.val idT b] (.val idT (nodeOf a b)):=by
 refine zc Tryz.func222 rfl rfl rfl (fun ext w hext=>?_);refine ze (d:=0) rfl zid (fun ha=>?_);refine ze (d:=1) rfl zid (fun hb=>?_);refine qa3 ?_;refine qaB ?_;refine CNQR ?_;refine qb4 ?_;refine qb4 ?_;refine A0 (zh7 (T:=idT) (xs:=[_,_]) rfl ar_295 ze_295 yaD rfl) ?_;refine A0 (oCl (zC (ztR a b ha hb)) rfl fn_270 yc) ?_;refine A0 (oCl (zu5 (zfP a b) (by unfold zfP;simp;omega)) rfl zwb yc) ?_;refine qaq ?_;exact zF rfl rfl rfl rfl zab (rfl)
def zfC (l:List Ab.Id):Ab.Id:=if l.length=0 then zfA [2] else if h1:l.length≤1 then l.headD zId else nodeOf (zfC (l.take (halfN l.length))) (zfC (l.drop (halfN l.length)))
termination_by l.length
decreasing_by
  · have:=zug (n:=l.length) ya;simp;omega
  have:=zrh l.length;simp;omega
theorem zqG (l:List Ab.Id) (hl:l.length<4398046511104):Tells P 159 [.val (bsl idT) l] (.val idT (zfC l)):=by
 refine zc Tryz.func159 rfl rfl rfl (fun ext w hext=>?_);refine ze (d:=0) rfl zi (fun hsl0=>?_);refine CQR ?_;refine qaB ?_;refine qbe ?_;refine qb3 ?_;refine CNB ?_;refine CQR ?_;refine A0 zbZ ?_;refine qac ?_;refine Cf (p:=l.length=0) (fun ht6=>?_) (fun ht6=>?_)
 ·
  refine CQR ?_;refine qa5 ?_;refine A0 (oCl (zu5 [2] yn) rfl zwb yc) ?_;refine qaq ?_;exact zF rfl rfl rfl rfl zab (by rw[zfC,ut ht6])
 refine CQR ?_;refine A0 zbZ ?_;refine qac ?_;refine Cf (p:=l.length=1) (fun ht10=>?_) (fun ht10=>?_)
 ·
  obtain⟨x,hx⟩:∃x,l[0]?=some x:=yq;refine qa7 ?_;refine A0 (zr (i:=0) rfl rfl rfl ya zek yh) ?_;refine A0 (zh rfl rfl zab) ?_;refine qaq ?_;exact zF rfl rfl rfl rfl zab ybs
 have hp:=zrh l.length;have hh:=zug (n:=l.length) ya;refine CS ?_;refine CI ?_;refine qa7 ?_;refine qb3 ?_;refine A0 (oCl (half_ok l.length ya ya) rfl fn_221 yc) ?_;refine qaY ?_;refine xo ?_;refine qbG ?_;refine qcI ?_;refine X0 (oCl (zqG (l.take (halfN l.length)) yy) rfl zwc yc) ?_;refine qbG ?_;refine X0 (ziT rfl rfl rfl zek yg) ?_;refine X0 (oCl (zqG (l.drop (halfN l.length)) yy) rfl zwc yc) ?_;refine X0 (oCl (node_ok _ _) rfl fn_222 ye) ?_;refine XK.e (x:=.idk) (fun fr' hfr kk H=>by exact zg rfl rfl rfl ((hfr 2 yd).trans rfl) rfl (Lens.self _) zab ((hfr 26 yd).trans rfl) (zM H)) ?_;refine XK.nil' ?_;exact zF rfl rfl rfl rfl zab (by conv=>rhs;rw[zfC,ur ht6,dif_neg ya])
termination_by l.length
decreasing_by
  all_goals (simp;omega)
theorem zjp {t:Total} {ρ:Nat→Value} {B:Nat→Prop} {U N:Nat→Prop} {w:World} {v:Value} (hv:(AV.val zaC t).rel ρ B U N w v):t.h.length=32∧t.w.length=4:=by
  obtain⟨cs,⟨_,_,_,h1,_,_,_,h2,_⟩,_⟩:=hv;exact⟨h1.1,h2.1⟩
def zdk (t:Total):List UInt8:=[t.h,zeR t.w,zD (zL (IntL.toI i64T t.n)) 4].flatten
theorem zfI {t:Total} (h:t.h.length=32):(zdk t).length=68:=by unfold zdk;simp[h,zc5,zE]
def zh2 (a b:Total):Total:=⟨zfA ([3]++zdk a++zdk b),addW a.w b.w,IntKind.i64.wrap (a.n+b.n)⟩
def leafT (id:Ab.Id) (w:Wide):Total:=⟨id,w,1⟩
def zfS (id:Ab.Id):Ab.Id:=zpN id
def zfR (l:List Ab.Id):Ab.Id:=zfC (l.map zfS)
def zpj (l:List Tx):Ab.Id:=zfC (l.map idOf)
theorem zl1 (t:Total) (hh:t.h.length=32):Tells P 230 [.val zaC t] (.fresh 5 u8T (zdk t)):=by
 refine zc Tryz.func230 rfl rfl rfl (fun ext w hext=>?_);refine qca ?_;refine CNQR ?_;refine qcY ?_;refine A0 (oCl (ztu _) rfl fn_142 yc) ?_;refine qbV ?_;refine qcX ?_;refine zeF (d:=3) rfl rfl (Lens.self _) ?_;have hbl:=zc5 t.w;have hn:=zE (zL (IntL.toI i64T t.n)) 4;refine zH [some 1,some 1,some 1,some 1,some 1,some 1,some 1,some 1,none,some 1] mixed yd ?_;refine X0 (oFr zdZ zc1) ?_;refine qcN ?_;refine qcN ?_;refine X0 (oFr zde zcr) ?_;refine X0 (zh rfl rfl ty_3) ?_;refine X0 (zfc rfl (zlk) (us_3) rfl) ?_;refine qcJ ?_;refine qc1 ?_;refine XK.e (fun fr' hfr kk H=>by exact zaH (zhB [t.h,zeR t.w,zD (zL (IntL.toI i64T t.n)) 4] (by simp[hh,hbl,hn])) rfl zpV ⟨(zb ((hfr 14 yd).trans rfl)),trivial⟩ rfl rfl rfl (zM H)) ?_;refine X0 aO ?_;refine XK.nil' ?_;exact zd rfl rfl (zf rfl rfl rfl)
theorem mleaf_ok (id:Ab.Id) (w:Wide):Tells P 167 [.val idT id,.val z7 w] (.val zaC (leafT id w)):=by
 refine zc Tryz.func167 rfl rfl rfl (fun ext w hext=>?_);refine qa3 ?_;refine qce ?_;refine CNQR ?_;refine qb4 ?_;refine qa4 ?_;refine A0 (zB rfl zlX zqe (.cons zdZ zc1 zab rfl (.cons zic zgw zal rfl (.cons zde zcr ty_3 rfl .nil))) rfl) ?_;refine qbb ?_;refine CN ?_;exact zF rfl rfl rfl rfl zbq (rfl)
theorem join_ok (a b:Total):Tells P 165 [.val zaC a,.val zaC b] (.val zaC (zh2 a b)):=by
 refine zc Tryz.func165 rfl rfl rfl (fun ext w hext=>?_);refine ze (d:=0) rfl zjp (fun ha=>?_);refine ze (d:=1) rfl zjp (fun hb=>?_);refine qa3 ?_;refine qce ?_;refine CNQR ?_;refine qcY ?_;refine qcY ?_;refine A0 (oCl (zuM _ _) rfl fn_229 ye) ?_;refine qcD ?_;refine qaY ?_;refine zH [some 1,some 1,some 1,some 1,some 1,some 1,some 1,some 1,some 1,some 1,some 1,some 1,some 1,some 1,none] mixed yd ?_;refine qdp ?_;refine X0 (oLs rfl rfl rfl zbq) ?_;refine X0 (zmf (T:=sl u8T) (S:=bsl u8T) (zdC (zC (zl1 a ha.1)) rfl fn_230 yc rfl)) ?_;refine X0 (oLs rfl rfl rfl zbq) ?_;refine X0 (zmf (T:=sl u8T) (S:=bsl u8T) (zdC (zC (zl1 b hb.1)) rfl fn_230 yc rfl)) ?_;refine qc1 ?_;refine X0 (oCl (of_ok [[3],zdk a,zdk b] (by simp[zfI ha.1,zfI hb.1])) rfl zwg yc) ?_;refine qcE ?_;refine X0 (oFp zde) ?_;refine X0 (oLb zcr ty_3) ?_;refine X0 (oFp zde) ?_;refine X0 (oLb zcr ty_3) ?_;refine X0 zcn ?_;refine X0 (zB rfl zlX zqe (.cons zdZ zc1 zab rfl (.cons zic zgw zal rfl (.cons zde zcr ty_3 rfl .nil))) rfl) ?_;refine XK.e (x:=.idk) (fun fr' hfr kk H=>by exact zg rfl rfl rfl ((hfr 4 yd).trans rfl) rfl (Lens.self _) zbq ((hfr 28 yd).trans rfl) (zM H)) ?_;refine XK.nil' ?_;exact zF rfl rfl rfl rfl zbq (by unfold zh2;simp)
theorem zn5 (id:Ab.Id):Tells P 161 [.val idT id] (.val idT (zfS id)):=by
 refine zc Tryz.func161 rfl rfl rfl (fun ext w hext=>?_);refine ze (d:=0) rfl zid (fun hid=>?_);refine qae ?_;refine qaB ?_;refine qcX ?_;refine CR ?_;refine qbH ?_;refine A0 (oCl (leaf_ok id ya) rfl fn_223 yc) ?_;refine qaq ?_;exact zF rfl rfl rfl rfl zab (rfl)
theorem mapped_ok (l:List Ab.Id) (f:Ab.Id→Ab.Id) (hl:l.length≤4000000000000):Tells P 160 [.val (bsl idT) l,.fn1 P idT idT f] (.fresh 46 idT (l.map f)):=by
 refine zc Tryz.func160 rfl rfl rfl (fun ext w hext=>?_);refine ze (d:=0) rfl zi (fun hsl0=>?_);refine qb0 ?_;refine A0 aL ?_;refine qbe ?_;refine qb3 ?_;refine qaP ?_;refine zbd (T:=idT) (d:=5) 46 rfl ?_;refine Lp (ι:=Nat) 1 (fun (k:Nat)=>((((((Fr.none).set 0 (.val (bsl idT) l)).set 1 (.fn1 P idT idT f)).set 5 (.own 0)).set 8 (.val (bsl idT) l)).set 9 (.val i64T (l.length:Int))).set 10 (.val i64T (k:Int))) (fun (k:Nat)=>(Hp.none).set 0 (.row 46 idT ((l.take k).map f))) (fun (k:Nat)=>k≤l.length) (fun (k:Nat)=>l.length-k) (0) (uf _) ?_;intro k hinv;refine qar ?_;refine Cf (p:=k<l.length) (fun ht11=>?_) (fun ht11=>?_)
 ·
  obtain⟨x,hx⟩:∃x,l[k]?=some x:=ybM;refine CSQBQR ?_;refine A0 (zbH rfl rfl rfl zek yh) ?_;refine A0 (zh rfl rfl zab) ?_;refine qbV ?_;refine CNR ?_;refine A0 mO ?_;refine A0 mF ?_;refine qb4 ?_;refine A0 (zkR rfl rfl yj) ?_;refine qbf ?_;refine A0 aO ?_;refine qbK ?_;refine xC ?_;refine zl (n:=0) (y:=(l.take (k+1)).map f) rfl (by rw[un,hx];simp) ?_;exact Nx (k+1) ya ya
 refine qa0 ?_;exact zd rfl rfl (zf rfl rfl yO)
theorem zn4 (l:List Ab.Id) (hl:l.length≤4000000000000):Tells P 106 [.val (bsl idT) l] (.val idT (zfR l)):=by
 refine zc Tryz.func106 rfl rfl rfl (fun ext w hext=>?_);refine ze (d:=0) rfl zi (fun hsl0=>?_);refine qbD ?_;refine qau ?_;refine A0 (oCl (zC (mapped_ok l zfS hl)) rfl fn_160 ⟨yj,(by first|exact zeI (Cs:=[]) rfl fn_161 yJ trivial rfl (fun x=>zn5 x)|exact zeH (Cs:=[]) rfl fn_161 yJ trivial rfl (fun x y=>zn5 x)|exact zeJ rfl),trivial⟩) ?_;refine A0 (oCl (zqG (l.map zfS) yy) rfl zwc yc) ?_;refine qaq ?_;exact zF rfl rfl rfl rfl zab (rfl)
theorem zr5 (l:List Tx) (hl:l.length≤4000000000000):Tells P 107 [.val (bsl txT) l] (.val idT (zpj l)):=by
 refine zc Tryz.func107 rfl rfl rfl (fun ext w hext=>?_);refine ze (d:=0) rfl zi (fun hsl0=>?_);refine qbD ?_;refine A0 aL ?_;refine qbe ?_;refine qbZ ?_;refine qaP ?_;refine zbd (T:=idT) (d:=3) 46 rfl ?_;refine Lp (ι:=Nat) 2 (fun (k:Nat)=>(((((Fr.none).set 2 (.ptr 0 0)).set 3 (.own 1)).set 6 (.val (bsl txT) l)).set 7 (.val i64T (l.length:Int))).set 8 (.val i64T (k:Int))) (fun (k:Nat)=>((Hp.none).set 0 (.box 46 idT zId)).set 1 (.row 46 idT ((l.take k).map idOf))) (fun (k:Nat)=>k≤l.length) (fun (k:Nat)=>l.length-k) (0) (uf _) ?_;intro k hinv;refine qar ?_;refine Cf (p:=k<l.length) (fun ht9=>?_) (fun ht9=>?_)
 ·
  obtain⟨x,hx⟩:∃x,l[k]?=some x:=ybF;refine CSQBQR ?_;refine qbz ?_;refine qcO ?_;refine CNR ?_;refine A0 mO ?_;refine qbF ?_;refine A0 (oCl (id_ok _) rfl fn_162 yc) ?_;refine qbf ?_;refine A0 aO ?_;refine qbK ?_;refine xu ?_;refine zl (n:=1) (y:=(l.take (k+1)).map idOf) rfl (by rw[un,hx];simp) ?_;exact Nx (k+1) ya ya
 obtain rfl:k=l.length:=ya;refine zfh (d:=3) rfl rfl ?_;refine zj (d:=3) (y:=l.map idOf) rfl (by rw[List.take_length]) ?_;refine qcu ?_;refine A0 (oCl (zqG (l.map idOf) yy) rfl zwc yc) ?_;refine qaq ?_;exact zF rfl rfl rfl rfl zab (rfl)
def zcJ:List Total→Total→Total
  | [],x=>x
  | y::r,x=>zcJ r (zh2 y x)
def zbl (p:List Total):Total:=match p.reverse with
  | []=>⟨zfA [4],zaP,0⟩
  | x::r=>zcJ r x
def zg4:List Total→Total→List Total
  | [],x=>[x]
  | y::r,x=>if y.n=x.n then zg4 r (zh2 y x) else x::y::r
def zay (p:List Total) (leaf:Total):List Total:=(zg4 p.reverse leaf).reverse
theorem znZ:zbl []=⟨zfA [4],zaP,0⟩:=rfl
theorem zpJ {p:List Total} {x:Total} {n:Nat} (hn:p.length=n+1) (hx:p[n]?=some x):zbl p=zcJ (p.take n).reverse x:=by
  have e:p=p.take n++[x]:=by
    have:=un (l:=p) (i:=n)
    rw[uc ya,hx] at this;simpa using this
  unfold zbl
  conv=>lhs;rw[e]
  simp
theorem zky {p:List Total} {k:Nat} {x y:Total} (hx:p[k]?=some x):zcJ (p.take (k+1)).reverse y=zcJ (p.take k).reverse (zh2 x y):=by
  rw[un,hx];simp[zcJ]
theorem zpI (p:List Total) (hp:p.length≤1000000):Tells P 108 [.val (bsl zaC) p] (.val zaC (zbl p)):=by
 refine zc Tryz.func108 rfl rfl rfl (fun ext w hext=>?_);refine ze (d:=0) rfl zi (fun hsl0=>?_);refine CQR ?_;refine qce ?_;refine qbe ?_;refine xD ?_;refine A0 zbZ ?_;refine CN ?_;refine Cf (p:=p.length=0) (fun ht8=>?_) (fun ht8=>?_)
 ·
  obtain rfl:p=[]:=List.length_eq_zero_iff.1 ht8;refine CQR ?_;refine qa5 ?_;refine A0 (oCl (zu5 [4] yn) rfl zwb yc) ?_;refine A0 (zB rfl zlX zqe (.cons zdZ zc1 zab rfl .nil) rfl) ?_;refine qbb ?_;refine CN ?_;exact zF rfl rfl rfl rfl zbq (znZ.symm)
 obtain⟨n,hn⟩:∃n,p.length=n+1:=⟨p.length-1,by omega⟩;obtain⟨x0,hx0⟩:∃x,p[n]?=some x:=yq;have hroot:=zpJ hn hx0;refine qcz ?_;refine xD ?_;refine A0 za5 ?_;refine A0 (zr (i:=n) rfl rfl rfl ya zfK yh) ?_;refine A0 (zh rfl rfl zbq) ?_;refine qce ?_;refine qbb ?_;refine CNQQR ?_;refine qad ?_;refine xD ?_;refine A0 za5 ?_;refine A0 ya5 ?_;refine zj (d:=22) (y:=p.take n) rfl (by congr 1;omega) ?_;refine zak rfl rfl rfl rfl Tryz.func164 fn_164 rfl rfl (fun ia1 iok1=>?_);refine qca ?_;refine CNQR ?_;refine qdr ?_;refine A0 aC ?_;refine CN ?_;refine zeG rfl ?_;refine CNB ?_;refine zk7 rfl rfl rfl Tryz.func228 fn_228 rfl rfl yaa (fun fid2 ca2 lN2 DN2 cok2 rc2 hrc2=>?_);refine CQR ?_;refine A0 (oLs rfl rfl rfl zmq) ?_;refine xD ?_;refine A0 za5 ?_;refine qbQ ?_;refine zj (d:=3) (y:=(n:Int)-1) rfl yy ?_;refine Lp (ι:=Nat×Total) 5 (fun(k,y)=>((Fr.none.set 0 (.lit (.func (.yield lN2) #[] #[]))).set 1 (.ptr 2 0)).set 3 (.val i64T ((k:Int)-1))) (fun(k,y)=>((((Hp.none.set 0 (.box 164 zaC zuT)).set 1 (.box 164 zaC y)).set 2 (.box 62 (bsl zaC) (p.take n))).set 3 (.objAt DN2 (.deferred (some [])))).set 4 (.objAt lN2 (rc2 .ready none))) (fun(k,y)=>k≤n∧zbl p=zcJ (p.take k).reverse y) (fun(k,y)=>k) ((n,x0)) (⟨ug _,hroot⟩) ?_;intro⟨k,y⟩ hinv;dsimp only at hinv;refine qaF ?_;refine qb9 ?_;refine Cf (p:=0<k) (fun ht8=>?_) (fun ht8=>?_)
 ·
  obtain⟨x,hx⟩:∃x,(p.take n)[k-1]?=some x:=⟨_,ub yy⟩;have hx2:p[k-1]?=some x:=by rw[List.getElem?_take] at hx;split at hx;exact hx;cases hx
  refine CSQBQR ?_;refine A0 mL ?_;refine qau ?_;refine A0 (oLs rfl rfl rfl zmq) ?_;refine qau ?_;refine A0 (zr (i:=k-1) rfl rfl rfl ya zfK yh) ?_;refine A0 (zh rfl rfl zbq) ?_;refine zk5 (nL:=4) rfl rfl rfl rfl rfl hrc2 rfl rfl rfl (fun ya3 yok3=>?_);refine CR ?_;refine qce ?_;refine qbb ?_;refine CN ?_;refine zk8 (nL:=4) hrc2 rfl ?_;refine CB ?_;refine CR ?_;refine A0 (oLs rfl rfl rfl zbq) ?_;refine A0 (oLs rfl rfl rfl zbq) ?_;refine A0 (oCl (join_ok _ _) rfl fn_165 ye) ?_;refine qbb ?_;refine CN ?_;refine CI ?_;refine zfg (nL:=4) hrc2 rfl ?_;refine qaJ ?_;refine Cg ?_;refine CSIR ?_;refine qbS ?_;refine qac ?_;refine zj (d:=3) (y:=((k-1:Nat):Int)-1) rfl ya ?_;exact Nx ((k-1,zh2 x y)) (⟨by omega,by rw[hinv.2,show k=k-1+1 by omega,zky hx2];rfl⟩) (by show k-1<k;omega)
 obtain rfl:k=0:=ya;refine CE ?_;refine zgZ (nL:=4) rfl hrc2 rfl yn ?_;refine CI ?_;refine CQR ?_;refine A0 (oLs rfl rfl rfl zbq) ?_;refine qbb ?_;refine CN ?_;refine zaX (zds (nD:=3) rfl rfl rfl ?_);exact zrM rfl rfl rfl rfl zbq (by rw[hinv.2];rfl)
theorem zmd (p:List Total) (leaf:Total) (hp:p.length≤1000000):Tells P 109 [.val (bsl zaC) p,.val zaC leaf] (.fresh 164 zaC (zay p leaf)):=by
 refine zc Tryz.func109 rfl rfl rfl (fun ext w hext=>?_);refine ze (d:=0) rfl zi (fun hsl0=>?_);refine qca ?_;refine CN ?_;refine zrF (ι:=List Total×Total) 2 0 rfl rfl rfl (fun (i:List Total×Total)=>match i with|(r,x)=>((Fr.none).set 3 (.ptr 0 0)).set 5 (.own 1)) (fun (i:List Total×Total)=>match i with|(r,x)=>((Hp.none).set 0 (.box 164 zaC leaf)).set 1 (.row 164 zaC (r.reverse++[x]))) (fun (i:List Total×Total)=>match i with|(r,x)=>r.length≤1000000∧zg4 r x=zg4 p.reverse leaf) (fun (i:List Total×Total)=>match i with|(r,x)=>r.length) ?_ (fun hreach=>?_)
 ·
  intro⟨r,x⟩ hinv;dsimp only at hinv;refine qcb ?_;refine A0 (zbV rfl rfl rfl zgS) ?_;refine zj (d:=13) (y:=((r.length+1:Nat):Int)) rfl yw ?_;refine qaY ?_;refine qaG ?_;refine G0 mV ?_;refine G0 zbb ?_;refine zbW (d:=15) (p:=r=[]) rfl (by rw[uo];show((r.length+1:Nat):Int)<2↔_;rw[←List.length_eq_zero_iff];omega) (fun g15=>?_) (fun g15=>?_)
  ·
   refine G0 mV ?_;refine qal ?_;refine qal ?_;refine G2 ?_;refine qcg ?_;refine Ct ?_;refine qcb ?_;refine qbJ ?_;exact zd rfl rfl (zf rfl rfl (by unfold zay;rw[←hinv.2,g15];rfl))
  obtain⟨y,s,hr⟩:∃y s,r=y::s:=by cases r with|nil=>exact absurd rfl g15|cons y s=>exact⟨y,s,rfl⟩
  have hrl:r.length=s.length+1:=by rw[hr];rfl
  have hx1:(r.reverse++[x])[s.length]?=some y:=by rw[hr];simp
  have hx2:(r.reverse++[x])[s.length+1]?=some x:=by rw[List.getElem?_append_right (by simp[hrl])];simp[hrl]
  refine G0 mV ?_;refine G1 mO ?_;refine G1 mV ?_;refine G1 za5 ?_;refine G1 (zaQ (i:=s.length) rfl rfl rfl rfl yi zfK yg) ?_;refine G1 (zvY rfl rfl zde rfl) ?_;refine G1 (zcw rfl rfl rfl rfl yh zcr ty_3) ?_;refine G1 mO ?_;refine G1 mV ?_;refine G1 za5 ?_;refine G1 (zaQ (i:=s.length+1) rfl rfl rfl rfl yi zfK yg) ?_;refine G1 (zvY rfl rfl zde rfl) ?_;refine G1 (zcw rfl rfl rfl rfl yh zcr ty_3) ?_;refine G1 zgB ?_;refine qcg ?_;refine zq (p:=¬y.n=x.n) rfl yN (fun ht30=>?_) (fun ht30=>?_)
  ·
   refine qcb ?_;refine qbJ ?_;exact zd rfl rfl (zf rfl rfl (by unfold zay;rw[←hinv.2,hr,zg4,ur ht30];simp))
  refine CS ?_;refine CQ ?_;refine zH [some 1,some 1,some 1,some 1,some 1,some 1,some 1,some 1,some 1,some 1,some 1,some 1,some 1,some 1,some 1,some 1,none,some 1] mixed yd ?_;refine qcR ?_;refine X0 za5 ?_;refine X0 (zop (q:=s.length) rfl rfl rfl rfl zfK yi yg) ?_;refine qcR ?_;refine X0 za5 ?_;refine X0 (zaQ (i:=s.length) rfl rfl rfl rfl yi zfK yg) ?_;refine X0 (zcw rfl rfl rfl rfl yh (Lens.self _) zbq) ?_;refine qcR ?_;refine X0 za5 ?_;refine X0 (zaQ (i:=s.length+1) rfl rfl rfl rfl yi zfK yg) ?_;refine X0 (zcw rfl rfl rfl rfl yh (Lens.self _) zbq) ?_;refine X0 (oCl (join_ok _ _) rfl fn_165 ye) ?_;refine X0 (zag (T:=zaC) (xs:=[_]) rfl zfK zgK yx rfl rfl) ?_;refine XK.e (fun fr' hfr kk H=>by exact zrK rfl rfl rfl rfl ((hfr 35 yd).trans rfl) ((hfr 47 yd).trans rfl) rfl zgK yy (zM H)) ?_;refine X0 aS ?_;refine XK.nil' ?_;refine aw_shrink (d:=5) rfl rfl rfl yy ?_;refine qcs ?_;refine zl (n:=1) (y:=s.reverse++[zh2 y x]) rfl (by simp[hr,List.take_append];exact uc yw) ?_;exact aw_goto ((s,zh2 y x)) rfl (⟨by omega,by rw[←hinv.2,hr,zg4,ut (ua ht30)]⟩) (by show s.length<r.length;omega) rfl (by (repeat refine Fr.le_set ?_ ybn);exact Fr.le_none _) (by (repeat refine Hp.le_set ?_ rfl);exact Hp.le_none _) (by (repeat refine Fr.below_setB ?_ rfl);exact Fr.below_none _) (by (repeat refine Hp.below_set ?_ yn);exact Hp.below_none _)
 refine CQ ?_;refine zH [some 1,none,some 2,some 2,none,some 1] mixed yd ?_;refine X0 mV ?_;refine XK.e (fun fr' hfr kk H=>by exact zaH (zp5 p yap) rfl fn_166 ⟨(zb ((hfr 7 yd).trans rfl)),trivial⟩ rfl rfl rfl (zM H)) ?_;refine XK.gb (t:=3) rfl rfl (fun _ he=>zy rfl rfl he (Lens.self _) zbq) rfl yx rfl rfl rfl ?_;refine XK.g2 (zag (T:=zaC) (xs:=[_]) rfl zfK zgK yx rfl rfl) (zag (T:=zaC) (xs:=[_]) rfl zfK zgK yx rfl rfl) rfl rfl rfl ?_;refine XK.e (fun fr' hfr kk H=>by exact zo rfl rfl rfl rfl ((hfr 8 yd).trans rfl) rfl ((hfr 10 yd).trans rfl) zgK yy (zM H)) ?_;refine X0 aO ?_;refine XK.nil' ?_;refine CQR ?_;refine qaY ?_;refine qcs ?_;refine zl (n:=1) (y:=p.reverse.reverse++[leaf]) rfl yw ?_;exact zrI hreach ((p.reverse,leaf)) rfl (⟨by simp;omega,rfl⟩) rfl (by (repeat refine Fr.le_set ?_ ybn);exact Fr.le_none _) (by (repeat refine Hp.le_set ?_ rfl);exact Hp.le_none _) (by (repeat refine Fr.below_setB ?_ rfl);exact Fr.below_none _) (by (repeat refine Hp.below_set ?_ yn);exact Hp.below_none _)
theorem growNilId (n:Nat) (hn:n≤1000000):Tells P 312 [.lit (.slice none 0 0),.val i64T (n:Int)] (.fresh 46 idT []):=by
 refine zc Tryz.func312 rfl rfl rfl (fun ext w hext=>?_);refine ze (d:=1) rfl zu (fun hin1=>?_);refine qap ?_;refine qbe ?_;refine qav ?_;refine zha rfl (uh (by show ¬((n:Int)<0);omega)) ?_;refine qbP ?_;refine A0 mL ?_;refine A0 (zhz rfl rfl zhx) ?_;refine A0 mL ?_;refine qc4 ?_;refine A0 za5 ?_;refine A0 za5 ?_;refine qaA ?_;refine qbT ?_;refine zq (p:=0<n) rfl yax (fun ht16=>?_) (fun ht16=>?_)
 ·
  refine CR ?_;refine A0 mL ?_;refine A0 mL ?_;refine A0 (zhz rfl rfl zhx) ?_;refine A0 ya6 ?_;refine qau ?_;refine zlV (T:=idT) (n:=n) rfl rfl rfl rfl rfl rfl yaC zeP ztN (ui_3) (⟨by assumption,by omega,by omega⟩) ?_;refine A0 mL ?_;refine qc4 ?_;refine A0 (zop (q:=0) rfl rfl rfl rfl zek yi yg) ?_;refine A0 aS ?_;refine CNQR ?_;refine A0 mS ?_;refine A0 aS ?_;refine CN ?_;exact zd rfl rfl (zjT rfl rfl yy rfl)
 refine CSQR ?_;refine A0 mL ?_;refine A0 aL ?_;refine CN ?_;exact zd rfl rfl (zm rfl)
theorem concatId (ls:List (List Ab.Id)) (hl:ls.flatten.length≤1000000):Tells P 277 [.val (bsl (bsl idT)) ls] (.fresh 46 idT ls.flatten):=by
 refine zc Tryz.func277 rfl rfl rfl (fun ext w hext=>?_);refine ze (d:=0) rfl zi (fun hsl0=>?_);refine qb0 ?_;refine qaj ?_;refine A0 (zat rfl rfl isl_332) ?_;refine qaP ?_;refine Lp (ι:=Nat) 0 (fun (k:Nat)=>(((((Fr.none).set 0 (.val (bsl (bsl idT)) ls)).set 3 (.val i64T ((ls.take k).flatten.length:Int))).set 9 (.val (bsl (bsl idT)) ls)).set 10 (.val i64T (ls.length:Int))).set 11 (.val i64T (k:Int))) (fun (k:Nat)=>Hp.none) (fun (k:Nat)=>k≤ls.length) (fun (k:Nat)=>ls.length-k) (0) (uf _) ?_;intro k hinv;refine qar ?_;refine Cf (p:=k<ls.length) (fun ht12=>?_) (fun ht12=>?_)
 ·
  obtain⟨x,hx⟩:∃x,ls[k]?=some x:=⟨_,ub ht12⟩;have hle:=zeg ls (k+1);rw[zaO hx,ue] at hle;refine CSQBQR ?_;refine A0 (zbH rfl rfl rfl sl_332 yh) ?_;refine A0 (zh rfl rfl zcG) ?_;refine A0 aX ?_;refine qcZ ?_;refine A0 mX ?_;refine qc4 ?_;refine A0 zcn ?_;refine qaA ?_;refine qav ?_;refine zha rfl (uh yal) ?_;refine qcp ?_;refine zj (d:=3) (y:=((ls.take (k+1)).flatten.length:Int)) rfl (by rw[zaO hx,ue];omega) ?_;exact Nx (k+1) ya ya
 refine zj (d:=3) (y:=((ls.flatten.length:Nat):Int)) rfl yO ?_;refine qcu ?_;refine zaH (growNilId ls.flatten.length hl) rfl fn_312 yci rfl rfl rfl ?_;refine A0 aO ?_;refine qbe ?_;refine A0 (zat rfl rfl isl_332) ?_;refine qaP ?_;refine Lp (ι:=Nat) 1 (fun k=>(((Fr.none.set 6 (.own 0)).set 25 (.val (bsl (bsl idT)) ls)).set 26 (.val i64T (ls.length:Int))).set 27 (.val i64T (k:Int))) (fun k=>Hp.none.set 0 (.row 46 idT (ls.take k).flatten)) (fun k=>k≤ls.length) (fun k=>ls.length-k) (0) (uf _) ?_;intro k hinv;refine qar ?_;refine Cf (p:=k<ls.length) (fun ht28=>?_) (fun ht28=>?_)
 ·
  obtain⟨x,hx⟩:∃x,ls[k]?=some x:=⟨_,ub ht28⟩;have hle:=zeg ls (k+1);rw[zaO hx,ue] at hle;refine CSQBQR ?_;refine A0 (zbH rfl rfl rfl sl_332 yh) ?_;refine A0 (zh rfl rfl zcG) ?_;refine A0 aX ?_;refine CNR ?_;refine A0 mO ?_;refine A0 mX ?_;refine zo rfl rfl rfl rfl rfl rfl rfl zeP ya ?_;refine A0 aO ?_;refine qbK ?_;refine qbx ?_;refine zl (n:=0) rfl (zaO hx).symm ?_;exact Nx (k+1) ya ya
 refine qa0 ?_;exact zd rfl rfl (zf rfl rfl yO)
def mulM (x y:UInt64):UInt64:=zaF x 32*(y&&&4294967295)+zaF ((x&&&4294967295)*(y&&&4294967295)) 32
def mulHi (x y:UInt64):UInt64:=zaF x 32*zaF y 32+zaF (mulM x y) 32+zaF ((mulM x y&&&4294967295)+(x&&&4294967295)*zaF y 32) 32
theorem mul64_ok (x y:UInt64):Tells P 329 [.val u64T x,.val u64T y] (.tup2 (.val u64T (mulHi x y)) (.val u64T (x*y))):=by
 refine zc Tryz.func329 rfl rfl rfl (fun ext w hext=>?_);refine CQR ?_;refine A0 aV ?_;refine qaA ?_;refine A0 (zrp rfl rfl rfl) ?_;refine qaA ?_;refine xi ?_;refine qaA ?_;refine A0 (zrp rfl rfl rfl) ?_;refine qaA ?_;refine xi ?_;refine qbr ?_;refine A0 (zh5 rfl rfl rfl) ?_;refine qbr ?_;refine A0 (zh5 rfl rfl rfl) ?_;refine qau ?_;refine xi ?_;refine xd ?_;refine qaA ?_;refine A0 (zrp rfl rfl rfl) ?_;refine qaA ?_;refine xi ?_;refine qbr ?_;refine qau ?_;refine A0 (zh5 rfl rfl rfl) ?_;refine xd ?_;refine qbr ?_;refine A0 (zh5 rfl rfl rfl) ?_;refine qau ?_;refine xd ?_;refine qau ?_;refine xi ?_;refine xd ?_;refine qbr ?_;refine A0 (zh5 rfl rfl rfl) ?_;refine qac ?_;exact zx rfl rfl (za rfl rfl) (za rfl rfl)
theorem mulU_ok (x y:UInt64):Tells P 313 [.val u64T x,.val u64T y] (.tup2 (.val u64T (mulHi x y)) (.val u64T (x*y))):=by
 refine zc Tryz.func313 rfl rfl rfl (fun ext w hext=>?_);refine CQR ?_;refine A0 aV ?_;refine qaY ?_;refine Cg ?_;refine qcz ?_;refine A0 (oCl (mul64_ok _ _) rfl fn_329 ye) ?_;refine qa6 ?_;refine A0 aV ?_;refine qbr ?_;refine qaI ?_;exact zx rfl rfl (za rfl rfl) (za rfl rfl)
theorem mulHi_one {n:Nat} (h:n≤1000000):mulHi 1 (zL (IntL.toI i64T (n:Int)))=0:=by
  have e:(zL (IntL.toI i64T (n:Int))).toNat=n:=by
    unfold zL;show(UInt64.ofNat ((n:Int)%18446744073709551616).toNat).toNat=n;rw[UInt64.toNat_ofNat_of_lt' yV];omega
  obtain⟨y,hy⟩:∃y,y=zL (IntL.toI i64T (n:Int)):=⟨_,rfl⟩;rw[←hy] at e ⊢;have a1:zaF (1:UInt64) 32=0:=yn;have a2:zaF y 32=0:=by
    apply UInt64.toNat_inj.1;rw[zbF y yn,e];show n/4294967296=0;omega
  have a3:y&&&4294967295=y:=by
    apply UInt64.toNat_inj.1;rw[UInt64.toNat_and,e];show n&&&(2^32-1)=n;rw[Nat.and_two_pow_sub_one_eq_mod];omega
  have a4:(1:UInt64)&&&4294967295=1:=yn;unfold mulHi mulM;rw[a1,a2,a3,a4,UInt64.one_mul,a2];simp;rfl
theorem mulLo_one {n:Nat} (h:n≤1000000):IntKind.i64.wrap (IntL.toI u64T (1*zL (IntL.toI i64T (n:Int))))=(n:Int):=by
  have e:(zL (IntL.toI i64T (n:Int))).toNat=n:=by
    unfold zL;show(UInt64.ofNat ((n:Int)%18446744073709551616).toNat).toNat=n;rw[UInt64.toNat_ofNat_of_lt' yV];omega
  rw[UInt64.one_mul];show IntKind.i64.wrap (((zL (IntL.toI i64T (n:Int))).toNat:Nat):Int)=n;rw[e,zah ya]
theorem u64_small {n:Nat} (h:n≤1000000):(zL (IntL.toI i64T (n:Int))).toNat=n:=by
  unfold zL;show(UInt64.ofNat ((n:Int)%18446744073709551616).toNat).toNat=n;rw[UInt64.toNat_ofNat_of_lt' yV];omega
theorem rep_step {x:Ab.Id} {l:List Ab.Id} {i m N:Nat} (hl:l.length=N) (hi:i+m≤N) (hm:m≤i) (h:l.take i=List.replicate i x):(l.take i++(l.take i).take m++l.drop (i+m)).take (i+m)=List.replicate (i+m) x:=by
  rw[h,List.take_replicate,Nat.min_eq_left hm,←List.replicate_append_replicate,List.take_append_of_le_length yw,uc yw]
theorem repeatId (x:Ab.Id) (n:Nat) (hn:1≤n∧n≤1000):Tells P 278 [.val (bsl idT) [x],.val i64T (n:Int)] (.fresh 46 idT (List.replicate n x)):=by
 refine zc Tryz.func278 rfl rfl rfl (fun ext w hext=>?_);refine ze (d:=0) rfl zi (fun hsl0=>?_);refine ze (d:=1) rfl zu (fun hin1=>?_);refine qap ?_;refine qbe ?_;refine qav ?_;refine zha rfl (uh yal) ?_;refine qbw ?_;refine qb3 ?_;refine A0 (zfc rfl (zr2) (us_3) rfl) ?_;refine qau ?_;refine A0 (zfc rfl (zr2) (us_3) rfl) ?_;refine A0 (oCl (mulU_ok 1 (zL (IntL.toI i64T (n:Int)))) rfl fn_313 ye) ?_;refine A0 mX ?_;refine qco ?_;refine zj (d:=19) (y:=(0:UInt64)) rfl (mulHi_one ya) ?_;refine qc5 ?_;refine A0 aV ?_;refine qaj ?_;refine A0 zjC ?_;refine zgs (d:=22) rfl (rfl) ?_;refine qbR ?_;refine qdo ?_;refine zgs (d:=25) rfl (uh (by rw[UInt64.one_mul];show ¬((9223372036854775807:Int)<(((zL (IntL.toI i64T (n:Int))).toNat:Nat):Int));rw[u64_small ya];omega)) ?_;refine qao ?_;refine Cg ?_;refine qbw ?_;refine A0 (zhy rfl (ui_3) (zuX) rfl (mulLo_one ya)) ?_;refine zwz (T:=idT) (n:=n) rfl rfl rfl rfl rfl rfl yi yi zeP ztN ⟨by omega,by omega,(show(n)*32≤16777216 by omega)⟩ ?_;refine qby ?_;refine qau ?_;refine aw_copy_o rfl rfl rfl rfl rfl rfl rfl zeP (m:=1) yy yy ?_;refine A0 aX ?_;refine CNQ ?_;refine CB ?_;refine Lp (ι:=Nat×List Ab.Id) 1 (fun (i:Nat×List Ab.Id)=>match i with|(i,l)=>((Fr.none).set 7 (.own 0)).set 8 (.val i64T (i:Int))) (fun (i:Nat×List Ab.Id)=>match i with|(i,l)=>(Hp.none).set 0 (.row 46 idT l)) (fun (i:Nat×List Ab.Id)=>match i with|(i,l)=>l.length=n∧1≤i∧i≤n∧l.take i=List.replicate i x) (fun (i:Nat×List Ab.Id)=>match i with|(i,l)=>n-i) ((1,[x]++(List.replicate n zId).drop 1)) (⟨by simp;omega,by omega,by omega,by simp⟩) ?_;intro⟨i,l⟩ hinv;dsimp only at hinv;refine qaF ?_;refine A0 mO ?_;refine A0 (zbV rfl rfl rfl zhx) ?_;refine qav ?_;refine zq (p:=i<n) rfl (by rw[uo];simp only[IntL.toI,id_eq,hinv.1];omega) (fun ht37=>?_) (fun ht37=>?_)
 ·
  refine CS ?_;refine CB ?_;refine zH [some 1000001,some 1,some 1,some 1,some 1,some 1,some 1,none,some 1,some 1] mixed yd ?_;refine XK.ga (fun _=>g_mv (.inl rfl) rfl) rfl rfl rfl ?_;refine qcR ?_;refine X0 (zvX (p:=i) rfl rfl rfl rfl zek yi yg) ?_;refine qcR ?_;refine X0 (zop (q:=i) rfl rfl rfl rfl zek yi yg) ?_;refine XK.e (fun fr' hfr kk H=>by exact aw_copy_in rfl rfl rfl rfl ((hfr 41 yd).trans rfl) ((hfr 44 yd).trans rfl) rfl zeP (m:=min i (n-i)) ya ya (zM H)) ?_;refine X0 zcn ?_;refine X0 aV ?_;refine XK.nil' ?_;refine CI ?_;exact Nx ((i+min i (n-i),l.take i++(l.take i).take (min i (n-i))++l.drop (i+min i (n-i)))) (⟨by simp;omega,by omega,by omega,rep_step hinv.1 ya ya hinv.2.2.2⟩) (by show n-(i+min i (n-i))<n-i;omega)
 refine qa0 ?_;exact zd rfl rfl (zf rfl rfl (by have h:=hinv.2.2.2;rw[uc ya] at h;rw[h];congr 1;omega))
def zcv (l:List Ab.Id) (id:Ab.Id) (level:Int):List Ab.Id:=if 32<l.length then [] else if l.length=0 then [id] else if level<1 then l else l.take 1++List.replicate (min level 31).toNat id++l.drop ((min level 31).toNat+1)
theorem zub (l:List Ab.Id) (id:Ab.Id) (level:Int):Tells P 232 [.val (bsl idT) l,.val idT id,.val i64T level] (.fresh 46 idT (zcv l id level)):=by
 refine zc Tryz.func232 rfl rfl rfl (fun ext w hext=>?_);refine ze (d:=0) rfl zi (fun hsl0=>?_);refine ze (d:=2) rfl zu (fun hin2=>?_);refine qca ?_;refine CNQ ?_;refine CB ?_;refine qa7 ?_;refine qb3 ?_;refine A0 zjC ?_;refine Sp (d:=12) (p:=32<l.length) (fun g12=>?_) (fun g12=>?_)
 ·
  refine qac ?_;refine Ct ?_;refine qap ?_;refine CN ?_;exact zd rfl rfl (by unfold zcv;rw[ut g12];exact zm rfl)
 refine qac ?_;refine Cg ?_;refine qa7 ?_;refine qb3 ?_;refine A0 zbZ ?_;refine Sp (d:=16) (p:=l.length=0) (fun g16=>?_) (fun g16=>?_)
 ·
  refine qac ?_;refine Ct ?_;refine CQR ?_;refine qb4 ?_;refine zbm (T:=idT) (xs:=[_]) rfl rfl rfl rfl zek zeP yx rfl rfl ?_;refine qbJ ?_;exact zd rfl rfl (zf rfl rfl (by unfold zcv;rw[ur g12,ut g16]))
 refine qac ?_;refine Cg ?_;refine qa7 ?_;refine A0 zbb ?_;refine Sp (d:=21) (p:=level<1) (fun g21=>?_) (fun g21=>?_)
 ·
  refine qac ?_;refine Ct ?_;refine qa7 ?_;refine zaH (zlQ l yap) rfl fn_74 yc rfl rfl rfl ?_;refine qbJ ?_;exact zd rfl rfl (zf rfl rfl (by unfold zcv;rw[ur g12,ur g16,ut g21]))
 refine qac ?_;refine Cg ?_;refine CS ?_;refine CI ?_;refine qa7 ?_;refine A0 (g_min rfl rfl rfl) ?_;refine A0 (zo9 rfl rfl rfl (show _=((((min level 31).toNat+1:Nat):Int):Int) from(zah ya).trans ya)) ?_;refine qaY ?_;refine zH [some 1,some 1,some 1,some 1,some 1,some 1,some 1,some 1,none,some 1] mixed yd ?_;refine X0 mV ?_;refine qcI ?_;refine X0 (oLs rfl rfl rfl zab) ?_;refine X0 (zag (T:=idT) (xs:=[_]) rfl zek zeP yx rfl rfl) ?_;refine X0 mV ?_;refine X0 (zj0 rfl rfl rfl (show _=(((min level 31).toNat:Int):Int) from(zah ya).trans ya)) ?_;refine X0 (zmf (T:=sl idT) (S:=bsl idT) (zdC (zC (repeatId id (min level 31).toNat ya)) rfl fn_278 ye rfl)) ?_;refine X0 (zag (T:=(bsl idT)) (xs:=[_,_]) rfl sl_332 row_332 yaD rfl rfl) ?_;refine XK.e (fun fr' hfr kk H=>by exact zaH (concatId [l.take 1,List.replicate (min level 31).toNat id] yy) rfl fn_277 ⟨(zb ((hfr 34 yd).trans rfl)),trivial⟩ rfl rfl rfl (zM H)) ?_;refine X0 aO ?_;refine XK.nil' ?_;refine qaF ?_;refine qb3 ?_;refine qau ?_;refine qbT ?_;refine Cf (p:=(min level 31).toNat+1<l.length) (fun ht39=>?_) (fun ht39=>?_)
 ·
  refine qbE ?_;refine qad ?_;refine A0 (ziT rfl rfl rfl zek yg) ?_;refine zo rfl rfl rfl rfl rfl rfl rfl zeP yy ?_;refine qby ?_;refine qbJ ?_;exact zd rfl rfl (zf rfl rfl (by unfold zcv;rw[ur g12,ur g16,ur g21];simp;omega))
 refine CSQR ?_;refine A0 mO ?_;refine qbJ ?_;exact zd rfl rfl (zf rfl rfl (by unfold zcv;rw[ur g12,ur g16,ur g21,List.drop_of_length_le ya];simp))
def zgP:Nat→Head→Option Head
  | 0,_=>none
  | n+1,h=>if zbG h=true then some h else zgP n { h with nonce:=h.nonce+1 }
def ziL (h:Head) (tries:Int):Option Head:=zgP (min tries 200).toNat h
theorem zkK {n:Nat} {h:Head} (hn:0<n) (hm:¬zbG h=true):zgP n h=zgP (n-1) { h with nonce:=h.nonce+1 }:=by
  obtain⟨m,rfl⟩:∃m,n=m+1:=⟨n-1,by omega⟩;rw[zgP,ur hm];rfl
theorem ziM {n:Nat} {h:Head} (hn:0<n) (hm:zbG h=true):zgP n h=some h:=by
  obtain⟨m,rfl⟩:∃m,n=m+1:=⟨n-1,by omega⟩;rw[zgP,ut hm]
theorem mine_ok (h:Head) (tries:Int):Tells P 183 [.val zbx h,.val i64T tries] (.tup2 (.val zbx ((ziL h tries).getD h)) (.val zs (ziL h tries).isSome)):=by
 refine zc Tryz.func183 rfl rfl rfl (fun ext w hext=>?_);refine ze (d:=1) rfl zu (fun hin1=>?_);refine qae ?_;refine qcm ?_;refine z8 ze_4 rfl rfl rfl rfl ?_;refine CNQQR ?_;refine qcq ?_;refine qau ?_;refine zak rfl rfl rfl rfl Tryz.func241 fn_241 rfl rfl (fun ia1 iok1=>?_);refine qa3 ?_;refine A0 aL ?_;refine CNQR ?_;refine A0 (g_mkf (caps:=[_,_]) rfl rfl) ?_;refine A0 aC ?_;refine CN ?_;refine zeG rfl ?_;refine CNB ?_;refine zk7 rfl rfl rfl Tryz.func292 fn_292 rfl rfl y8 (fun fid2 ca2 lN2 DN2 cok2 rc2 hrc2=>?_);refine CQR ?_;refine A0 (oLs rfl rfl rfl ty_3) ?_;refine A0 (g_min rfl rfl rfl) ?_;refine qaP ?_;refine Lp (ι:=Nat×Head) 7 (fun(k,g)=>((((Fr.none.set 0 (.lit (.func (.yield lN2) #[] #[]))).set 1 (.ptr 4 0)).set 2 (.ptr 3 0)).set 5 (.val i64T (min tries 200))).set 6 (.val i64T (k:Int))) (fun(k,g)=>((((((Hp.none.set 0 (.box 52 zbx h)).set 1 (.box 52 zbx zmp)).set 2 (.box 4 zs false)).set 3 (.box 52 zbx g)).set 4 (.box 3 i64T tries)).set 5 (.objAt DN2 (.deferred (some [])))).set 6 (.objAt lN2 (rc2 .ready none))) (fun(k,g)=>k≤(min tries 200).toNat∧ziL h tries=zgP ((min tries 200).toNat-k) g) (fun(k,g)=>(min tries 200).toNat-k) ((0,h)) (⟨uf _,rfl⟩) ?_;intro⟨k,g⟩ hinv;dsimp only at hinv;refine qar ?_;refine Cf (p:=(k:Int)<min tries 200) (fun ht7=>?_) (fun ht7=>?_)
 ·
  refine qa8 ?_;refine CQQR ?_;refine A0 mL ?_;refine qcq ?_;refine zk5 (nL:=6) rfl rfl rfl rfl rfl hrc2 rfl rfl rfl (fun ya3 yok3=>?_);refine CR ?_;refine qcm ?_;refine qaH ?_;refine CN ?_;refine zk8 (nL:=6) hrc2 rfl ?_;refine CB ?_;refine CQR ?_;refine qcq ?_;refine A0 (oCl (zpQ _) rfl fn_125 yc) ?_;refine CN ?_;refine zq (p:=zbG g=true) rfl yw (fun ht12=>?_) (fun ht12=>?_)
  ·
   refine CQR ?_;refine qcq ?_;refine qaH ?_;refine zg rfl rfl rfl rfl rfl (Lens.self _) ty_4 rfl ?_;refine CN ?_;refine ztC (nL:=6) hrc2 rfl ?_;refine qaJ ?_;refine Ct ?_;refine zka (nL:=6) rfl hrc2 rfl yn ?_;refine zaX (zds (nD:=5) rfl rfl rfl ?_);exact zrL rfl rfl (zt rfl rfl zaM (by rw[hinv.2,ziM ya ht12];rfl)) (zt rfl rfl ty_4 (by rw[hinv.2,ziM ya ht12];rfl))
  refine CS ?_;refine CI ?_;refine zfg (nL:=6) hrc2 rfl ?_;refine qaJ ?_;refine Cg ?_;refine CS ?_;refine CR ?_;refine A0 (oFp zfs) ?_;refine A0 (oLb zbK za9) ?_;refine xd ?_;refine A0 (oFp zfs) ?_;refine zg rfl rfl rfl rfl rfl zbK za9 rfl ?_;refine qbK ?_;exact Nx ((k+1,{ g with nonce:=g.nonce+1 })) (⟨by omega,by rw[hinv.2,zkK ya ht12];rfl⟩) (by show(min tries 200).toNat-(k+1)<(min tries 200).toNat-k;omega)
 refine CE ?_;refine zgZ (nL:=6) rfl hrc2 rfl yn ?_;refine CI ?_;refine CQR ?_;refine qcq ?_;refine qaH ?_;refine zg rfl rfl rfl rfl rfl (Lens.self _) ty_4 rfl ?_;refine CN ?_;refine zaX (zds (nD:=5) rfl rfl rfl ?_);exact zrL rfl rfl (zt rfl rfl zaM (by rw[hinv.2,show(min tries 200).toNat-k=0 by omega];rfl)) (zt rfl rfl ty_4 (by rw[hinv.2,show(min tries 200).toNat-k=0 by omega];rfl))
def zeM (h:Head):Total:=leafT (zdo h) (zdx h)
def zeu (t:Tip):List Ab.Id:=zcv t.b.l (zdo t.b.h) (zW t.b.h)
def zbw (t:Tip) (l:List Tx) (nonce:UInt64):Head:=⟨IntKind.i64.wrap (t.b.h.height+1),zdo t.b.h,zfR (zeu t),zpj l,(zbl t.p).h,(zbl t.p).w,t.b.h.bits,nonce⟩
def zio (bits:UInt32):Head:=⟨0,zId,zfR [],zpj [],(zbl []).h,zaP,bits,0⟩
def zar (bits:UInt32):Tip:=if zbh bits=true then ⟨⟨zio bits,[],[]⟩,zay [] (zeM (zio bits)),[]⟩ else zTip
def zd6 (h:Head):Head:={ zmp with height:=h.height,prev:=h.prev,bits:=h.bits }
theorem zme {l:List Ab.Id} {id:Ab.Id} {level:Int}:(zcv l id level).length≤64:=by
  unfold zcv
  split
  · simp
  split
  · simp
  split
  · omega
  simp;omega
def ziC (t:Tx):Prop:=t.ins.length*40≤140737488351232∧t.outs.length*16≤140737488351232
def zsh (l:List Tx):Prop:=l.length*48≤140737488351232∧∀t∈l,ziC t
def zgI (b:Block):Prop:=b.l.length*32≤140737488351232∧zsh b.t
def zgG (t:Tip):Prop:=zgI t.b∧t.p.length≤1000∧t.c.length≤1000
theorem set_same {α:Type} {l:List α} {k:Nat} {x:α} (h:l[k]?=some x):l.set k x=l:=by
  obtain⟨hk,rfl⟩:=ul.1 h;exact List.set_getElem_self hk
theorem zvL (h:Head):Tells P 110 [.val zbx h] (.val zaC (zeM h)):=by
 refine zc Tryz.func110 rfl rfl rfl (fun ext w hext=>?_);refine qae ?_;refine qce ?_;refine CNQ ?_;refine zH [some 1,some 1,some 1,some 1,some 1,none] mixed yd ?_;refine xE ?_;refine X0 (oCl (zkN _) rfl fn_67 yc) ?_;refine xE ?_;refine X0 (oCl (zuf _) rfl fn_168 yc) ?_;refine X0 (oCl (mleaf_ok _ _) rfl fn_167 ye) ?_;refine XK.e (x:=.idk) (fun fr' hfr kk H=>by exact zg rfl rfl rfl ((hfr 2 yd).trans rfl) rfl (Lens.self _) zbq ((hfr 7 yd).trans rfl) (zM H)) ?_;refine XK.nil' ?_;exact zF rfl rfl rfl rfl zbq (rfl)
theorem zn3 (t:Tip):Tells P 171 [.val tipT t] (.fresh 46 idT (zeu t)):=by
 refine zc Tryz.func171 rfl rfl rfl (fun ext w hext=>?_);refine qca ?_;refine CNQ ?_;refine zH [some 1,some 1,some 1,some 1,some 1,some 1,some 1,some 1,some 1,some 1,some 1,none,some 1] mixed yd ?_;refine X0 (oFp zfr) ?_;refine X0 (oFp zcO) ?_;refine X0 (oLb (zcu.comp zbv) zcG) ?_;refine qch ?_;refine X0 (oLb (zcu.comp zY) zaM) ?_;refine X0 (oCl (zkN _) rfl fn_67 yc) ?_;refine qch ?_;refine X0 (oLb (zcu.comp zY) zaM) ?_;refine X0 (oCl (ziQ _) rfl fn_104 yc) ?_;refine XK.e (fun fr' hfr kk H=>by exact zaH (zub t.b.l (zdo t.b.h) (zW t.b.h)) rfl fn_232 ⟨(zb ((hfr 5 yd).trans rfl)),(zb ((hfr 9 yd).trans rfl)),(zb ((hfr 13 yd).trans rfl)),trivial⟩ rfl rfl rfl (zM H)) ?_;refine X0 aO ?_;refine XK.nil' ?_;exact zd rfl rfl (zf rfl rfl rfl)
theorem zvE (t:Tip) (l:List Tx) (nonce:UInt64) (hl:l.length≤4000000000000) (hp:t.p.length≤1000000):Tells P 113 [.val tipT t,.val (bsl txT) l,.val u64T nonce] (.val zbx (zbw t l nonce)):=by
 have hlk:(zeu t).length≤64:=zme;refine zc Tryz.func113 rfl rfl rfl (fun ext w hext=>?_);refine ze (d:=1) rfl zi (fun hsl1=>?_);refine qae ?_;refine qcm ?_;refine CNQR ?_;refine A0 (oFp zg6) ?_;refine A0 (oLb zhd zmq) ?_;refine A0 (oCl (zpI t.p hp) rfl fn_108 yc) ?_;refine qce ?_;refine qbb ?_;refine CNQ ?_;refine zH [some 1,some 1,some 1,some 1,some 1,some 1,some 1,some 1,some 1,some 1,some 1,some 1,some 1,some 1,some 1,some 1,some 1,some 1,some 1,some 1,some 1,some 1,some 1,some 1,none] mixed yd ?_;refine qch ?_;refine X0 (oFp zc9) ?_;refine X0 (oLb ((zcu.comp zY).comp zap) ty_3) ?_;refine X0 zcn ?_;refine qch ?_;refine X0 (oLb (zcu.comp zY) zaM) ?_;refine X0 (oCl (zkN _) rfl fn_67 yc) ?_;refine X0 (oLs rfl rfl rfl zbt) ?_;refine X0 (oCl (zC (zn3 t)) rfl fn_171 yc) ?_;refine X0 (oCl (zn4 (zeu t) ya) rfl fn_106 yc) ?_;refine X0 mV ?_;refine X0 (oCl (zr5 l hl) rfl fn_107 yc) ?_;refine X0 (oFp zdZ) ?_;refine X0 (oLb zc1 zab) ?_;refine X0 (oFp zic) ?_;refine X0 (oLb zgw zal) ?_;refine qch ?_;refine X0 (oFp zce) ?_;refine X0 (oLb ((zcu.comp zY).comp zaq) zbp) ?_;refine X0 mV ?_;refine X0 (zB rfl znd zpc (.cons zc9 zap ty_3 rfl (.cons zfv zb8 zab rfl (.cons zex zbg zab rfl (.cons zfu zcF zab rfl (.cons zft zb9 zab rfl (.cons zg7 zcT zal rfl (.cons zce zaq zbp rfl (.cons zfs zbK za9 rfl .nil)))))))) rfl) ?_;refine XK.e (x:=.idk) (fun fr' hfr kk H=>by exact zg rfl rfl rfl ((hfr 6 yd).trans rfl) rfl (Lens.self _) zaM ((hfr 34 yd).trans rfl) (zM H)) ?_;refine XK.nil' ?_;exact zF rfl rfl rfl rfl zaM (rfl)
theorem zow (bits:UInt32):Tells P 62 [.val u32T bits] (.tup2 (.val tipT (zar bits)) (.val zs (zbh bits))):=by
 refine zc Tryz.func62 rfl rfl rfl (fun ext w hext=>?_);refine CQR ?_;refine qcn ?_;refine qaj ?_;refine A0 (oCl (znq _) rfl fn_105 yc) ?_;refine qcD ?_;refine qaA ?_;refine qaJ ?_;refine zq (p:=¬zbh bits=true) rfl (by cases zbh bits<;>rfl) (fun ht13=>?_) (fun ht13=>?_)
 ·
  refine CQR ?_;refine xF ?_;refine qat ?_;refine qac ?_;exact zn rfl rfl (zt rfl rfl zbt (by unfold zar;rw[ur ht13])) (zS (za rfl (by simpa using ht13)))
 refine CSQR ?_;refine A0 (oCl (zn4 [] yn) rfl fn_106 ycg) ?_;refine A0 (oCl (zr5 [] yn) rfl fn_107 ycg) ?_;refine A0 (oCl (zpI [] yn) rfl fn_108 ycg) ?_;refine A0 (g_field rfl rfl zdZ zc1 zab) ?_;refine qau ?_;refine A0 (zB rfl znd zpc (.cons zex zbg zab rfl (.cons zfu zcF zab rfl (.cons zft zb9 zab rfl (.cons zce zaq zbp rfl .nil)))) rfl) ?_;refine qcm ?_;refine qaH ?_;refine CNQ ?_;refine xj ?_;refine xE ?_;refine X0 (zB rfl znc bd_58 (.cons zaR zY zaM rfl .nil) rfl) ?_;refine xE ?_;refine X0 (oCl (zvL (zio bits)) rfl fn_110 yc) ?_;refine X0 (oCl (zC (zmd [] (zeM (zio bits)) yn)) rfl fn_109 yci) ?_;refine X0 (zB rfl zjA zk4 (.cons zfr zcu zdJ rfl (.cons zg6 zhd zmq rfl .nil)) rfl) ?_;refine XK.e (x:=.idk) (fun fr' hfr kk H=>by exact zg rfl rfl rfl ((hfr 2 yd).trans rfl) rfl (Lens.self _) zbt ((hfr 26 yd).trans rfl) (zM H)) ?_;refine X0 aV ?_;refine XK.nil' ?_;exact zn rfl rfl (zt rfl rfl zbt (by unfold zar;rw[ut (ua ht13)];rfl)) (zS (za rfl ((ua ht13).symm)))
theorem zqd (h:Head):Tells P 172 [.val zbx h] (.val zbx (zd6 h)):=by
 refine zc Tryz.func172 rfl rfl rfl (fun ext w hext=>?_);refine qae ?_;refine qcm ?_;refine CNQR ?_;refine qbL ?_;refine A0 (oFp zfv) ?_;refine A0 (oLb zb8 zab) ?_;refine A0 (oFp zce) ?_;refine A0 (oLb zaq zbp) ?_;refine A0 (zB rfl znd zpc (.cons zc9 zap ty_3 rfl (.cons zfv zb8 zab rfl (.cons zce zaq zbp rfl .nil))) rfl) ?_;refine qaH ?_;refine CN ?_;exact zF rfl rfl rfl rfl zaM (rfl)
theorem txs_ok (l:List Tx) (hl:zsh l):Tells P 175 [.val (bsl txT) l] (.fresh 133 txT l):=by
 obtain⟨hl1,hl2⟩:=hl;refine zc Tryz.func175 rfl rfl rfl (fun ext w hext=>?_);refine ze (d:=0) rfl zi (fun hsl0=>?_);refine qb0 ?_;refine qau ?_;refine zaH (cloneTx l yap) rfl fn_239 yc rfl rfl rfl ?_;refine A0 aO ?_;refine CNQQR ?_;refine A0 mO ?_;refine A0 (zbV rfl rfl rfl isl_56) ?_;refine qaP ?_;refine Lp (ι:=Nat) 1 (fun (k:Nat)=>((((Fr.none).set 3 (.own 0)).set 8 (.own 0)).set 9 (.val i64T (l.length:Int))).set 10 (.val i64T (k:Int))) (fun (k:Nat)=>(Hp.none).set 0 (.row 133 txT l)) (fun (k:Nat)=>k≤l.length) (fun (k:Nat)=>l.length-k) (0) (uf _) ?_;intro k hinv;refine qar ?_;refine Cf (p:=k<l.length) (fun ht11=>?_) (fun ht11=>?_)
 ·
  obtain⟨x,hx⟩:∃x,l[k]?=some x:=ybM;have hxm:=ud hx;refine qbh ?_;refine A0 (zaQ (i:=k) rfl rfl rfl rfl yi zkq yg) ?_;refine A0 (zcw rfl rfl rfl rfl yh (Lens.self _) zfy) ?_;refine z8 zrU rfl rfl rfl rfl ?_;refine A0 aV ?_;refine qcO ?_;refine CN ?_;refine zH [some 1,some 1,some 1,some 1,some 1,some 1,some 1,some 1,some 1,some 1,none] mixed yd ?_;refine qcR ?_;refine X0 (oFp zcy) ?_;refine X0 (oLb zcS zfz) ?_;refine X0 (oCl (zC (cloneIn x.ins (by have:=hl2 x hxm;unfold ziC at this;constructor<;>omega))) rfl fn_181 yc) ?_;refine X0 (oFp zcb) ?_;refine X0 (oLb zbJ zeO) ?_;refine X0 (oCl (zC (zwt x.outs (by have:=hl2 x hxm;unfold ziC at this;constructor<;>omega))) rfl fn_182 yc) ?_;refine X0 (zB rfl zrU bd_133 (.cons zcy zcS zfz rfl (.cons zcb zbJ zeO rfl .nil)) rfl) ?_;refine X0 (zaQ (i:=k) rfl rfl rfl rfl yi zkq yg) ?_;refine XK.e (x:=.idk) (fun fr' hfr kk H=>by exact zc6 rfl rfl rfl ((hfr 24 yd).trans rfl) rfl rfl yh (Lens.self _) zfy ((hfr 23 yd).trans rfl) (zM H)) ?_;refine qaX ?_;refine qan ?_;refine zl (n:=0) (y:=l) rfl (by rw[show(⟨x.ins,x.outs⟩:Tx)=x from rfl];exact set_same hx) ?_;exact Nx (k+1) ya ya
 refine qa0 ?_;exact zd rfl rfl (zf rfl rfl rfl)
theorem ztk (b:Block) (hb:zgI b):Tells P 122 [.val zU b] (.val zU b):=by
 obtain⟨hb1,hb2⟩:=hb;refine zc Tryz.func122 rfl rfl rfl (fun ext w hext=>?_);refine qae ?_;refine z8 znc rfl rfl rfl rfl ?_;refine CNQR ?_;refine A0 (oFp zcO) ?_;refine A0 (oLb zbv zcG) ?_;refine A0 (oCl (zC (zlQ b.l yap)) rfl fn_74 yc) ?_;refine A0 (oFp zcO) ?_;refine zg rfl rfl rfl rfl rfl zbv zcG rfl ?_;refine CNQR ?_;refine qda ?_;refine A0 (oCl (zC (txs_ok b.t hb2)) rfl fn_175 yc) ?_;refine A0 (oFp zgn) ?_;refine zg rfl rfl rfl rfl rfl zdU znn rfl ?_;refine CNQR ?_;refine A0 (oLs rfl rfl rfl zdJ) ?_;refine qbM ?_;refine CN ?_;exact zF rfl rfl rfl rfl zdJ (rfl)
theorem own_ok (t:Tip) (ht:zgG t):Tells P 121 [.val tipT t] (.val tipT t):=by
 obtain⟨ht1,ht2,ht3⟩:=ht;refine zc Tryz.func121 rfl rfl rfl (fun ext w hext=>?_);refine qae ?_;refine qcn ?_;refine CNQ ?_;refine zH [some 1,some 1,some 1,some 1,some 1,some 1,some 1,some 1,some 1,some 1,none,some 1,none,some 1,none] mixed yd ?_;refine X0 (oFp zfr) ?_;refine X0 (oLb zcu zdJ) ?_;refine X0 (oCl (ztk t.b ht1) rfl fn_122 yc) ?_;refine X0 (oFp zg6) ?_;refine X0 (oLb zhd zmq) ?_;refine X0 (oCl (zC (zp5 t.p yap)) rfl fn_166 yc) ?_;refine X0 (oFp zlN) ?_;refine X0 (oLb zlW zki) ?_;refine X0 (oCl (zC (zi6 t.c yap)) rfl zs9 yc) ?_;refine X0 (oFp zfr) ?_;refine XK.e (x:=.idk) (fun fr' hfr kk H=>by exact zg rfl rfl rfl ((hfr 12 yd).trans rfl) rfl zcu zdJ ((hfr 5 yd).trans rfl) (zM H)) ?_;refine X0 (oFp zg6) ?_;refine XK.e (x:=.idk) (fun fr' hfr kk H=>by exact zg rfl rfl rfl ((hfr 13 yd).trans rfl) rfl zhd zmq ((hfr 8 yd).trans rfl) (zM H)) ?_;refine X0 (oFp zlN) ?_;refine XK.e (x:=.idk) (fun fr' hfr kk H=>by exact zg rfl rfl rfl ((hfr 14 yd).trans rfl) rfl zlW zki ((hfr 11 yd).trans rfl) (zM H)) ?_;refine XK.nil' ?_;refine CQR ?_;refine xf ?_;refine qat ?_;refine CN ?_;exact zF rfl rfl rfl rfl zbt (rfl)
theorem sameB_ok (a b:Block):Tells P 63 [.val zU a,.val zU b] (.val zs (decide (a=b))):=by
 refine zc Tryz.func63 rfl rfl rfl (fun ext w hext=>?_);refine qa3 ?_;refine qah ?_;refine A0 (oFp zaR) ?_;refine A0 (oLb zY zaM) ?_;refine A0 (oFp zaR) ?_;refine A0 (oLb zY zaM) ?_;refine A0 (zim rfl rfl rfl (zpX)) ?_;refine Sp (d:=9) (p:=a.h=b.h) (fun g9=>?_) (fun g9=>?_)
 ·
  refine qau ?_;refine A1 (oFp zcO) ?_;refine A1 (oLb zbv zcG) ?_;refine A1 (oFp zcO) ?_;refine A1 (oLb zbv zcG) ?_;refine A1 (oCl (zup _ _) rfl fn_53 ye) ?_;refine Sp (d:=15) (p:=a.l=b.l) (fun g15=>?_) (fun g15=>?_)
  ·
   refine qaf ?_;refine A1 (oFp zgn) ?_;refine A1 (oLb zdU znn) ?_;refine A1 (oFp zgn) ?_;refine A1 (oLb zdU znn) ?_;refine A1 (oCl (equalFTx _ _) rfl fn_111 ⟨yj,yj,(by first|exact zeI (Cs:=[]) rfl fn_112 yJ trivial rfl (fun x=>zoH x y)|exact zeH (Cs:=[]) rfl fn_112 yJ trivial rfl (fun x y=>zoH x y)|exact zeJ rfl),trivial⟩) ?_;refine qaS ?_;exact zd rfl rfl (za rfl yas)
  refine qas ?_;refine A2 ?_;refine qaS ?_;exact zd rfl rfl (za rfl (by symm;apply uh;intro h;exact g15 (by rw[h])))
 refine qau ?_;refine qab ?_;refine qbB ?_;refine qas ?_;refine A2 ?_;refine qaS ?_;exact zd rfl rfl (za rfl (by symm;apply uh;intro h;exact g9 (by rw[h])))
end Go.Proofs.YtjjlfapfjjkomaaGreat
