/- Parts of the proof: the layer that reads Go values as data, and what the functions of the program tell. -/
import Derived.Test.YticippfoekpkhaaGreatK4
set_option linter.unusedVariables false
set_option linter.unusedSimpArgs false
set_option maxRecDepth 20000
namespace Go.Proofs.YticippfoekpkhaaGreat
open Go.Ab Go.RowKit
def zc2 (f:Int→Bool) (lo hi:Nat):Nat :=
  if h:lo<hi then (if f (((lo+hi)/2:Nat):Int)=true then zc2 f lo ((lo+hi)/2) else zc2 f ((lo+hi)/2+1) hi) else lo
termination_by hi-lo
theorem zrV {f:Int→Bool} {lo hi:Nat} (h:lo<hi) (hf:¬f (((lo+hi)/2:Nat):Int)=true):zc2 f lo hi=zc2 f ((lo+hi)/2+1) hi:=by
  rw[zc2,dif_pos h,if_neg hf]
theorem zo6 {f:Int→Bool} {lo hi:Nat} (h:lo<hi) (hf:f (((lo+hi)/2:Nat):Int)=true):zc2 f lo hi=zc2 f lo ((lo+hi)/2):=by
  conv=>lhs;rw[zc2,dif_pos h,if_pos hf]
theorem search_end {f:Int→Bool} {lo:Nat}:zc2 f lo lo=lo:=by rw[zc2,dif_neg (Nat.lt_irrefl _)]
def zsn (n t:Wide) (k:Int):Bool:=decide (0<cmpW n (downW t k))
def levelW (id:Ab.Id) (t:Wide):Int:=(zc2 (zsn (ziS id) t) 0 32:Nat)-1
theorem zjP {f:Int→Bool} (lo hi:Nat) (h:lo≤hi):zc2 f lo hi≤hi:=by
  rw[zc2]
  split
  · split
    · have:=zjP (f:=f) lo ((lo+hi)/2) ya;omega
    exact zjP _ _ ya
  exact h
termination_by hi-lo
theorem search_ok (n:Nat) (f:Int→Bool) (hn:n<4611686018427387904):Tells P 191 [.val i64T (n:Int),.fn1 P i64T zn f] (.val i64T (zc2 f 0 n:Nat)):=by
 refine zc Tryz.func191 rfl rfl rfl (fun ext w hext=>?_);refine zf (d:=0) rfl zt (fun hin0=>?_);refine qbV ?_;refine A0 aV ?_;refine qaA ?_;refine CB ?_;refine Lp (ι:=Nat×Nat) 0 (fun (i:Nat×Nat)=>match i with|(lo,hi)=>(((Fr.none).set 1 (.fn1 P i64T zn f)).set 5 (.val i64T (lo:Int))).set 6 (.val i64T (hi:Int))) (fun (i:Nat×Nat)=>match i with|(lo,hi)=>Hp.none) (fun (i:Nat×Nat)=>match i with|(lo,hi)=>lo≤hi∧hi≤n∧zc2 f 0 n=zc2 f lo hi) (fun (i:Nat×Nat)=>match i with|(lo,hi)=>hi-lo) ((0,n)) (⟨uf _,ug _,rfl⟩) ?_;intro⟨lo,hi⟩ hinv;dsimp only at hinv;refine CQQR ?_;refine qaq ?_;refine qaT ?_;refine Cf (p:=lo<hi) (fun ht11=>?_) (fun ht11=>?_)
 ·
  refine CS ?_;refine CB ?_;refine CQR ?_;refine qaq ?_;refine A0 zdo ?_;refine qcm ?_;refine xi ?_;refine A0 (zmh rfl (ui_3) (zuB) rfl (mid_eq ya)) ?_;refine qa4 ?_;refine A0 mF ?_;refine qaw ?_;refine A0 (ziD rfl rfl yl) ?_;refine qbj ?_;refine zo (p:=¬f (((lo+hi)/2:Nat):Int)=true) rfl yB (fun ht21=>?_) (fun ht21=>?_)
  ·
   refine CR ?_;refine qaW ?_;refine qad ?_;refine CI ?_;exact Nx (((lo+hi)/2+1,hi)) yaE yap
  refine CR ?_;refine qaw ?_;refine qad ?_;refine CI ?_;exact Nx ((lo,(lo+hi)/2)) yaE yap
 obtain rfl:hi=lo:=ya;refine CE ?_;refine qcd ?_;exact zb rfl rfl (za rfl (by rw[hinv.2.2,search_end]))
theorem zsp (n t:Wide) (k:Int):Tells P 189 [.val i64T k,.rptr zan n,.rptr zan t] (.val zn (zsn n t k)):=by
 refine zc Tryz.func189 rfl rfl rfl (fun ext w hext=>?_);refine zf (d:=0) rfl zt (fun hin0=>?_);refine CQR ?_;refine qcj ?_;refine G0 (ze rfl rfl zap) ?_;refine G0 (ze rfl rfl zap) ?_;refine G0 mV ?_;refine G0 (oCl (downW_ok _ _) rfl fn_190 yi) ?_;refine G0 (oCl (zq0 _ _) rfl fn_89 yi) ?_;refine G0 zcq ?_;refine qbB ?_;exact zb rfl rfl (za rfl rfl)
theorem levelW_ok (id:Ab.Id) (t:Wide):Tells P 146 [.val idT id,.val zan t] (.val i64T (levelW id t)):=by
 refine zc Tryz.func146 rfl rfl rfl (fun ext w hext=>?_);have hsl:=zjP (f:=zsn (ziS id) t) 0 32 yn;refine qax ?_;refine qa4 ?_;refine qb7 ?_;refine A0 (oCl (zqu _) rfl fn_129 yd) ?_;refine qaz ?_;refine qak ?_;refine CNQR ?_;refine xn ?_;refine A0 aC ?_;refine CNQR ?_;refine A0 mC ?_;refine A0 (oCl (search_ok 32 (zsn (ziS id) t) yn) rfl fn_191 ⟨yl,(by first|exact zdu (Cs:=[_,_]) rfl fn_189 yaP ⟨yW,yW,trivial⟩ rfl (fun x=>zsp (ziS id) t x)|exact zdt (Cs:=[_,_]) rfl fn_189 yaP ⟨yW,yW,trivial⟩ rfl (fun x y=>zsp (ziS id) t x)|exact zdv rfl),trivial⟩) ?_;refine A0 zbh ?_;refine qad ?_;exact zb rfl rfl (za rfl rfl)
set_option maxRecDepth 20000
def zpY (t:Wide):Wide:=if zfU t (ofW 1)=true then addW (divW [~~~ t.getD 0 default,~~~ t.getD 1 default,~~~ t.getD 2 default,~~~ t.getD 3 default] (addW t (ofW 1))) (ofW 1) else ofW 1
theorem workW_ok (t:Wide):Tells P 147 [.val zan t] (.val zan (zpY t)):=by
 refine zc Tryz.func147 rfl rfl rfl (fun ext w hext=>?_);refine zf (d:=0) rfl zeE (fun ha=>?_);refine qai ?_;refine qaz ?_;refine CNQ ?_;refine zC [some 1000001,some 1000001,some 1000001,some 1000001,some 1000001,some 1000001,none,none,some 1] mixed yc ?_;refine XK.gf (t:=1) rfl rfl (fun _ he=>zs rfl rfl he (Lens.self _) zap) ⟨rfl,trivial⟩ rfl rfl rfl ?_;refine XK.ga (fun _=>zec (zva 1) rfl zvH yd rfl) rfl rfl rfl ?_;refine XK.ga (fun _=>zec (zjA _ _) rfl ztX yi rfl) rfl rfl rfl ?_;refine XK.ga yu rfl rfl rfl ?_;refine XK.ga yau rfl rfl rfl ?_;refine XK.ga yT rfl rfl rfl ?_;refine XK.e (fun fr' hfr kk H=>by exact zq zkL rfl rfl rfl rfl (zr H)) ?_;refine XK.e (x:=.idk) (fun fr' hfr kk H=>by exact zg rfl rfl rfl ((hfr 3 yc).trans rfl) rfl (Lens.self _) zap ((hfr 13 yc).trans rfl) (zr H)) ?_;refine X0 aV ?_;refine XK.nilp ⟨yx,trivial⟩ ?_;refine qb5 ?_;refine qbj ?_;refine zo (p:=¬zfU t (ofW 1)=true) rfl (by cases zfU t (ofW 1)<;>rfl) (fun ht16=>?_) (fun ht16=>?_)
 ·
  refine CQR ?_;refine A0 (oCl (zva 1) rfl zvH yd) ?_;refine qak ?_;refine CN ?_;exact zab rfl rfl rfl rfl zap (by unfold zpY;rw[if_neg ht16]<;>rfl)
 refine CSQR ?_;refine A0 (zT (i:=0) rfl rfl rfl ym zcx ya) ?_;refine A0 (zs rfl rfl rfl (Lens.elem (i:=0) ya u64T) zco) ?_;refine A0 (zqI rfl rfl) ?_;refine A0 (zT (i:=1) rfl rfl rfl ym zcx ya) ?_;refine A0 (zs rfl rfl rfl (Lens.elem (i:=1) ya u64T) zco) ?_;refine A0 (zqI rfl rfl) ?_;refine A0 (zT (i:=2) rfl rfl rfl ym zcx ya) ?_;refine A0 (zs rfl rfl rfl (Lens.elem (i:=2) ya u64T) zco) ?_;refine A0 (zqI rfl rfl) ?_;refine A0 (zT (i:=3) rfl rfl rfl ym zcx ya) ?_;refine A0 (zs rfl rfl rfl (Lens.elem (i:=3) ya u64T) zco) ?_;refine A0 (zqI rfl rfl) ?_;refine A0 (zkh (T:=u64T) (xs:=[_,_,_,_]) rfl zcx zkL ⟨rfl,rfl,rfl,rfl,rfl,rfl,rfl,rfl,trivial⟩ rfl) ?_;refine qaz ?_;refine qak ?_;refine CNQR ?_;refine qaG ?_;refine qaG ?_;refine A0 (oCl (divW_ok _ _) rfl fn_139 yi) ?_;refine qaQ ?_;refine A0 e32 ?_;refine qaz ?_;refine qaz ?_;refine qak ?_;refine qak ?_;refine qaA ?_;refine zC [some 1,some 1,some 1,some 1,some 1,some 1000001,none] mixed yc ?_;refine xt ?_;refine X0 (oCl (zva 1) rfl zvH yd) ?_;refine X0 (oCl (zjA _ _) rfl ztX yi) ?_;refine X0 mX ?_;refine X0 y4 ?_;refine XK.ga yT rfl rfl rfl ?_;refine XK.e (x:=.idk) (fun fr' hfr kk H=>by exact zg rfl rfl rfl ((hfr 6 yc).trans rfl) rfl (Lens.self _) zap ((hfr 42 yc).trans rfl) (zr H)) ?_;refine XK.nil' ?_;refine qca ?_;exact zab rfl rfl rfl rfl zap (by unfold zpY;rw[if_pos (ua ht16)]<;>rfl)
def hOk (h:Head):Bool:=decide (0≤h.height∧h.height≤1048576)
def zcp (h:Head):List UInt8:=[zw (zac (IntL.toI i64T h.height)) 4,h.prev,h.links,h.txs,h.past,zfH h.work,zw (zac (IntL.toI u32T h.bits)) 4,zw h.nonce 8].flatten
def zaR (h:Head):List UInt8:=if hOk h=true then zcp h else []
def zag (h:Head):Ab.Id:=if hOk h=true then zfr ([5]++zcp h) else zId
def zK (h:Head):Int:=if za6 h.bits=true∧hOk h=true then (if h.height=0 then 31 else levelW (zag h) (tgtW h.bits)) else -1
def zcb (h:Head):Wide:=if za6 h.bits=true then zpY (tgtW h.bits) else zav
def zat (h:Head):Bool:=!decide (zK h = -1)
theorem zsJ {h:Head} {ρ:Nat→Value} {B:Nat→Prop} {U N:Nat→Prop} {w:World} {v:Value} (hv:(AV.val zbl h).rel ρ B U N w v):h.prev.length=32∧h.links.length=32∧h.txs.length=32∧h.past.length=32∧h.work.length=4:=by
  obtain⟨cs,⟨_,_,_,_,_,_,_,h1,_,_,_,h2,_,_,_,h3,_,_,_,h4,_,_,_,h5,_⟩,_⟩:=hv;exact⟨h1.1,h2.1,h3.1,h4.1,h5.1⟩
theorem zem (a:Wide):(zfH a).length=32:=by unfold zfH;simp
theorem hput_ok (h:Head):Tells P 48 [.val zbl h] (.tup2 (.fresh 5 u8T (zaR h)) (.val zn (hOk h))):=by
 refine zc Tryz.func48 rfl rfl rfl (fun ext w hext=>?_);refine zf (d:=0) rfl zsJ (fun hh=>?_);obtain⟨hh1,hh2,hh3,hh4,hh5⟩:=hh;refine qai ?_;refine A0 aL ?_;refine qce ?_;refine qbS ?_;refine A0 zbu ?_;refine Sp (d:=7) (p:=h.height<0) (fun g7=>?_) (fun g7=>?_)
 ·
  refine qaw ?_;refine qac ?_;refine qas ?_;refine Ct ?_;refine qbe ?_;exact zU rfl rfl ybo (za rfl (by unfold hOk;symm;apply uh;omega))
 refine qaw ?_;refine A1 (oFp zcr) ?_;refine A1 (oLb zak ty_3) ?_;refine A1 zcq ?_;refine qas ?_;refine Cf (p:=1048576<h.height) (fun ht12=>?_) (fun ht12=>?_)
 ·
  refine qbe ?_;exact zU rfl rfl ybo (za rfl (by unfold hOk;symm;apply uh;omega))
 refine CSQR ?_;refine A0 (oFp zih) ?_;refine A0 (oLb zdw zap) ?_;refine A0 (oCl (zsY _) rfl fn_98 yd) ?_;refine qaF ?_;refine qat ?_;refine CNQ ?_;refine zci (d:=1) rfl rfl (Lens.self _) ?_;refine zci (d:=4) rfl rfl (Lens.self _) ?_;have hbl:=zem h.work;have hn1:=zP (zac (IntL.toI i64T h.height)) 4;have hn2:=zP (zac (IntL.toI u32T h.bits)) 4;have hn3:=zP h.nonce 8;refine zC [some 1,some 1,some 1,some 1,some 1,some 1,some 1,some 1,some 1,some 1,some 1,some 1,some 1,some 1,some 1,some 1,some 1,some 1,some 1,some 1,some 1,none,some 1,some 1] mixed yc ?_;refine X0 (oFr zcr zak) ?_;refine X0 (ze rfl rfl ty_3) ?_;refine X0 (zi2 rfl (zou) (us_3) rfl) ?_;refine qbF ?_;refine X0 (oFr zhm zcL) ?_;refine qbJ ?_;refine X0 (oFr zhl zb7) ?_;refine qbJ ?_;refine X0 (oFr zlf zgX) ?_;refine qbJ ?_;refine X0 (oFr zjr zeo) ?_;refine qbJ ?_;refine qbJ ?_;refine X0 (oFr zdr zaX) ?_;refine X0 (ze rfl rfl zbS) ?_;refine X0 (zi2 rfl (zou) (us_30) rfl) ?_;refine qbF ?_;refine X0 (oFr zig zcM) ?_;refine X0 (ze rfl rfl zco) ?_;refine X0 (zkg (T:=sl u8T) (S:=bsl u8T) (zec (zB (zky _ 8 yn)) rfl zvJ ybB rfl)) ?_;refine X0 (zL (T:=(bsl u8T)) (xs:=[_,_,_,_,_,_,_,_]) rfl zc8 zcz yaw rfl rfl) ?_;refine XK.e (fun fr' hfr kk H=>by exact zaT (zgO [zw (zac (IntL.toI i64T h.height)) 4,h.prev,h.links,h.txs,h.past,zfH h.work,zw (zac (IntL.toI u32T h.bits)) 4,zw h.nonce 8] (by simp[hh1,hh2,hh3,hh4,hbl,hn1,hn2,hn3])) rfl fn_99 ⟨(zd ((hfr 36 yc).trans rfl)),trivial⟩ rfl rfl rfl (zr H)) ?_;refine X0 aO ?_;refine X0 aV ?_;refine XK.nil' ?_;exact zU rfl rfl (zh rfl rfl (by unfold zaR;rw[if_pos (by unfold hOk;rw[uj];omega)];rfl)) (za rfl (by unfold hOk;symm;apply ui;omega))
theorem zdb (h:Head):Tells P 16 [.val zbl h] (.val idT (zag h)):=by
 refine zc Tryz.func16 rfl rfl rfl (fun ext w hext=>?_);refine zf (d:=0) rfl zsJ (fun hh=>?_);obtain⟨hh1,hh2,hh3,hh4,hh5⟩:=hh;refine qai ?_;refine qaF ?_;refine CNQR ?_;refine qbU ?_;refine A0 (oCl (zcO (hput_ok h)) rfl fn_48 yd) ?_;refine qaQ ?_;refine A0 aV ?_;refine qam ?_;refine qbj ?_;refine zo (p:=¬hOk h=true) rfl (by cases hOk h<;>rfl) (fun ht11=>?_) (fun ht11=>?_)
 ·
  refine CQR ?_;refine A0 (zhi rfl zjz ze_26 rfl) ?_;refine qat ?_;refine CN ?_;exact zab rfl rfl rfl rfl zaA (by unfold zag;rw[if_neg ht11]<;>rfl)
 refine CSQR ?_;refine qba ?_;refine zlo (S:=bsl u8T) (d:=13) rfl ?_;refine qaw ?_;refine zlo (S:=bsl u8T) (d:=14) rfl ?_;refine A0 (zL (T:=(bsl u8T)) (xs:=[_,_]) rfl zc8 zcz yal rfl rfl) ?_;refine A0 (oCl (of_ok [[5],zaR h] (by unfold zaR;split<;>simp[zcp,hh1,hh2,hh3,hh4,zem,zP])) rfl fn_49 yd) ?_;refine qat ?_;refine CN ?_;exact zab rfl rfl rfl rfl zaA (by unfold zag zaR;rw[if_pos (ua ht11),if_pos (ua ht11)];simp)
theorem zh9 (h:Head):Tells P 92 [.val zbl h] (.val i64T (zK h)):=by
 refine zc Tryz.func92 rfl rfl rfl (fun ext w hext=>?_);refine qai ?_;refine qa4 ?_;refine A0 (oFp zdr) ?_;refine A0 (oLb zaX zbS) ?_;refine A0 (oCl (zmY _) rfl fn_51 yd) ?_;refine qaQ ?_;refine qaz ?_;refine qak ?_;refine qaA ?_;refine CB ?_;refine qb5 ?_;refine A0 oN ?_;refine zbj (d:=13) (p:=¬za6 h.bits=true) rfl (by cases za6 h.bits<;>rfl) (fun g13=>?_) (fun g13=>?_)
 ·
  refine qad ?_;refine Ct ?_;refine CS ?_;refine Ct ?_;refine qau ?_;exact zb rfl rfl (za rfl (by unfold zK;rw[if_neg (by unfold hOk;rw[uj];exact fun h=>g13 h.1)]<;>rfl))
 refine qad ?_;refine Cg ?_;refine CQR ?_;refine qbS ?_;refine A0 zbu ?_;refine Sp (d:=16) (p:=h.height<0) (fun g16=>?_) (fun g16=>?_)
 ·
  refine qad ?_;refine Ct ?_;refine CS ?_;refine Ct ?_;refine qau ?_;exact zb rfl rfl (za rfl (by unfold zK;rw[if_neg (by unfold hOk;rw[uj];omega)]<;>rfl))
 refine qad ?_;refine Cg ?_;refine CR ?_;refine qbS ?_;refine A0 zcq ?_;refine Sp (d:=19) (p:=1048576<h.height) (fun g19=>?_) (fun g19=>?_)
 ·
  refine qad ?_;refine Ct ?_;refine qau ?_;exact zb rfl rfl (za rfl (by unfold zK;rw[if_neg (by unfold hOk;rw[uj];omega)]<;>rfl))
 refine qad ?_;refine Cg ?_;refine CQR ?_;refine qbS ?_;refine A0 zcw ?_;refine qad ?_;refine Cf (p:=h.height=0) (fun ht20=>?_) (fun ht20=>?_)
 ·
  refine qau ?_;exact zb rfl rfl (za rfl (by unfold zK;rw[if_pos ⟨ua g13,by unfold hOk;rw[uj];omega⟩,if_pos ht20]<;>rfl))
 refine CS ?_;refine CI ?_;refine qbc ?_;refine G0 (oLs rfl rfl rfl zaF) ?_;refine G0 (oCl (zdb _) rfl zoP yd) ?_;refine G0 (oLs rfl rfl rfl zap) ?_;refine G0 (oCl (levelW_ok _ _) rfl fn_146 yi) ?_;refine qbB ?_;exact zb rfl rfl (za rfl (by unfold zK;rw[if_pos ⟨ua g13,by unfold hOk;rw[uj];omega⟩,if_neg ht20]))
theorem zjl (h:Head):Tells P 94 [.val zbl h] (.val zan (zcb h)):=by
 refine zc Tryz.func94 rfl rfl rfl (fun ext w hext=>?_);refine qai ?_;refine qaz ?_;refine CNQR ?_;refine A0 (oFp zdr) ?_;refine A0 (oLb zaX zbS) ?_;refine A0 (oCl (zmY _) rfl fn_51 yd) ?_;refine qaQ ?_;refine qaz ?_;refine qak ?_;refine qam ?_;refine qbj ?_;refine zo (p:=¬za6 h.bits=true) rfl (by cases za6 h.bits<;>rfl) (fun ht12=>?_) (fun ht12=>?_)
 ·
  refine qay ?_;refine CN ?_;exact zab rfl rfl rfl rfl zap (by unfold zcb;rw[if_neg ht12]<;>rfl)
 refine CSQR ?_;refine qaG ?_;refine A0 (oCl (workW_ok _) rfl fn_147 yd) ?_;refine qak ?_;refine CN ?_;exact zab rfl rfl rfl rfl zap (by unfold zcb;rw[if_pos (ua ht12)])
theorem zgK (h:Head):Tells P 42 [.val zbl h] (.val zn (zat h)):=by
 refine zc Tryz.func42 rfl rfl rfl (fun ext w hext=>?_);refine qai ?_;refine qa4 ?_;refine qbU ?_;refine A0 (oCl (zh9 _) rfl fn_92 yd) ?_;refine A0 ze1 ?_;refine qad ?_;exact zb rfl rfl (za rfl rfl)
theorem zt1 (l m:List Ab.Id):Tells P 29 [.val (bsl idT) l,.val (bsl idT) m] (.val zn (decide (l=m))):=by
 refine zc Tryz.func29 rfl rfl rfl (fun ext w hext=>?_);refine zf (d:=0) rfl zl (fun hsl0=>?_);refine zf (d:=1) rfl zl (fun hsl1=>?_);refine CQR ?_;refine qam ?_;refine qbK ?_;refine qaw ?_;refine qbK ?_;refine qbz ?_;refine Cf (p:=¬l.length=m.length) (fun ht10=>?_) (fun ht10=>?_)
 ·
  refine qau ?_;exact zb rfl rfl (za rfl (uh (fun e=>ht10 (by rw[e]))).symm)
 refine qb2 ?_;refine qbK ?_;refine qa0 ?_;refine Lp (ι:=Nat) 0 (fun (k:Nat)=>((((Fr.none).set 0 (.val (bsl idT) l)).set 1 (.val (bsl idT) m)).set 12 (.val i64T (l.length:Int))).set 13 (.val i64T (k:Int))) (fun (k:Nat)=>Hp.none) (fun (k:Nat)=>k≤l.length∧l.take k=m.take k) (fun (k:Nat)=>l.length-k) (0) (⟨uf _,by simp⟩) ?_;intro k hinv;refine qal ?_;refine Cf (p:=k<l.length) (fun ht14=>?_) (fun ht14=>?_)
 ·
  obtain⟨x,hx⟩:∃x,l[k]?=some x:=⟨_,ub ht14⟩;obtain⟨y,hy⟩:∃y,m[k]?=some y:=yo;refine qaL ?_;refine qcj ?_;refine qco ?_;refine qco ?_;refine G0 (zhy rfl rfl rfl (zkn)) ?_;refine GK.nil ?_;refine zo (p:=¬x=y) rfl yB (fun ht24=>?_) (fun ht24=>?_)
  ·
   refine qau ?_;exact zb rfl rfl (za rfl (uh (zj7 hx hy ht24)).symm)
  refine qaU ?_;exact Nx (k+1) (⟨by omega,zeG hx hy hinv.2 (by simpa using ht24)⟩) ya
 refine CE ?_;refine qau ?_;exact zb rfl rfl (za rfl (ui y6).symm)
theorem equalIn (l m:List In):Tells P 111 [.val (bsl inT) l,.val (bsl inT) m] (.val zn (decide (l=m))):=by
 refine zc Tryz.func111 rfl rfl rfl (fun ext w hext=>?_);refine zf (d:=0) rfl zl (fun hsl0=>?_);refine zf (d:=1) rfl zl (fun hsl1=>?_);refine CQR ?_;refine qam ?_;refine A0 (zO rfl rfl zgn) ?_;refine qaw ?_;refine A0 (zO rfl rfl zgn) ?_;refine qbz ?_;refine Cf (p:=¬l.length=m.length) (fun ht10=>?_) (fun ht10=>?_)
 ·
  refine qau ?_;exact zb rfl rfl (za rfl (uh (fun e=>ht10 (by rw[e]))).symm)
 refine qb2 ?_;refine A0 (zO rfl rfl zgn) ?_;refine qa0 ?_;refine Lp (ι:=Nat) 0 (fun (k:Nat)=>((((Fr.none).set 0 (.val (bsl inT) l)).set 1 (.val (bsl inT) m)).set 12 (.val i64T (l.length:Int))).set 13 (.val i64T (k:Int))) (fun (k:Nat)=>Hp.none) (fun (k:Nat)=>k≤l.length∧l.take k=m.take k) (fun (k:Nat)=>l.length-k) (0) (⟨uf _,by simp⟩) ?_;intro k hinv;refine qal ?_;refine Cf (p:=k<l.length) (fun ht14=>?_) (fun ht14=>?_)
 ·
  obtain⟨x,hx⟩:∃x,l[k]?=some x:=⟨_,ub ht14⟩;obtain⟨y,hy⟩:∃y,m[k]?=some y:=yo;refine qaL ?_;refine qcj ?_;refine qck ?_;refine qck ?_;refine G0 (zhy rfl rfl rfl (eqt_201)) ?_;refine GK.nil ?_;refine zo (p:=¬x=y) rfl yB (fun ht24=>?_) (fun ht24=>?_)
  ·
   refine qau ?_;exact zb rfl rfl (za rfl (uh (zj7 hx hy ht24)).symm)
  refine qaU ?_;exact Nx (k+1) (⟨by omega,zeG hx hy hinv.2 (by simpa using ht24)⟩) ya
 refine CE ?_;refine qau ?_;exact zb rfl rfl (za rfl (ui y6).symm)
theorem equalOut (l m:List Out):Tells P 112 [.val (bsl outT) l,.val (bsl outT) m] (.val zn (decide (l=m))):=by
 refine zc Tryz.func112 rfl rfl rfl (fun ext w hext=>?_);refine zf (d:=0) rfl zl (fun hsl0=>?_);refine zf (d:=1) rfl zl (fun hsl1=>?_);refine CQR ?_;refine qam ?_;refine A0 (zO rfl rfl zeO) ?_;refine qaw ?_;refine A0 (zO rfl rfl zeO) ?_;refine qbz ?_;refine Cf (p:=¬l.length=m.length) (fun ht10=>?_) (fun ht10=>?_)
 ·
  refine qau ?_;exact zb rfl rfl (za rfl (uh (fun e=>ht10 (by rw[e]))).symm)
 refine qb2 ?_;refine A0 (zO rfl rfl zeO) ?_;refine qa0 ?_;refine Lp (ι:=Nat) 0 (fun (k:Nat)=>((((Fr.none).set 0 (.val (bsl outT) l)).set 1 (.val (bsl outT) m)).set 12 (.val i64T (l.length:Int))).set 13 (.val i64T (k:Int))) (fun (k:Nat)=>Hp.none) (fun (k:Nat)=>k≤l.length∧l.take k=m.take k) (fun (k:Nat)=>l.length-k) (0) (⟨uf _,by simp⟩) ?_;intro k hinv;refine qal ?_;refine Cf (p:=k<l.length) (fun ht14=>?_) (fun ht14=>?_)
 ·
  obtain⟨x,hx⟩:∃x,l[k]?=some x:=⟨_,ub ht14⟩;obtain⟨y,hy⟩:∃y,m[k]?=some y:=yo;refine qaL ?_;refine qcj ?_;refine G0 mV ?_;refine G0 mV ?_;refine G0 (zbM rfl rfl rfl zo3 yj) ?_;refine G0 (ze rfl rfl zhM) ?_;refine G0 mV ?_;refine G0 mV ?_;refine G0 (zbM rfl rfl rfl zo3 yj) ?_;refine G0 (ze rfl rfl zhM) ?_;refine G0 (zhy rfl rfl rfl (eqt_204)) ?_;refine GK.nil ?_;refine zo (p:=¬x=y) rfl yB (fun ht24=>?_) (fun ht24=>?_)
  ·
   refine qau ?_;exact zb rfl rfl (za rfl (uh (zj7 hx hy ht24)).symm)
  refine qaU ?_;exact Nx (k+1) (⟨by omega,zeG hx hy hinv.2 (by simpa using ht24)⟩) ya
 refine CE ?_;refine qau ?_;exact zb rfl rfl (za rfl (ui y6).symm)
theorem zlh (l:List Ab.Id) (hl:l.length*32≤140737488355328∧l.length≤9223372036854775807):Tells P 71 [.val (bsl idT) l] (.fresh 26 idT l):=by
 refine zc Tryz.func71 rfl rfl rfl (fun ext w hext=>?_);refine zf (d:=0) rfl zl (fun hsl0=>?_);refine qap ?_;refine qaN ?_;refine zhv rfl rfl rfl rfl rfl zcX (fun c4 hc4=>?_);refine CN ?_;refine zo (p:=c4=true) rfl yB (fun ht4=>?_) (fun ht4=>?_)
 ·
  obtain rfl:=hc4 ht4;refine qap ?_;refine CN ?_;exact zb rfl rfl (zm rfl)
 refine CSQR ?_;refine zb0 (T:=idT) (xs:=[]) rfl rfl rfl rfl zeM zfY trivial rfl rfl ?_;refine qaw ?_;refine zN rfl rfl rfl rfl rfl rfl rfl zfY yaL ?_;refine qbm ?_;exact zb rfl rfl (zh rfl rfl yB)
theorem zpE (l:List Total) (hl:l.length*72≤140737488355328∧l.length≤9223372036854775807):Tells P 110 [.val (bsl zah) l] (.fresh 130 zah l):=by
 refine zc Tryz.func110 rfl rfl rfl (fun ext w hext=>?_);refine zf (d:=0) rfl zl (fun hsl0=>?_);refine qap ?_;refine qaN ?_;refine zhv rfl rfl rfl rfl rfl zgJ (fun c4 hc4=>?_);refine CN ?_;refine zo (p:=c4=true) rfl yB (fun ht4=>?_) (fun ht4=>?_)
 ·
  obtain rfl:=hc4 ht4;refine qap ?_;refine CN ?_;exact zb rfl rfl (zm rfl)
 refine CSQR ?_;refine zb0 (T:=zah) (xs:=[]) rfl rfl rfl rfl zfP zhU trivial rfl rfl ?_;refine qaw ?_;refine zN rfl rfl rfl rfl rfl rfl rfl zhU yaL ?_;refine qbm ?_;exact zb rfl rfl (zh rfl rfl yB)
theorem cloneIn (l:List In) (hl:l.length*40≤140737488355328∧l.length≤9223372036854775807):Tells P 152 [.val (bsl inT) l] (.fresh 201 inT l):=by
 refine zc Tryz.func152 rfl rfl rfl (fun ext w hext=>?_);refine zf (d:=0) rfl zl (fun hsl0=>?_);refine qap ?_;refine qaN ?_;refine zhv rfl rfl rfl rfl rfl zgn (fun c4 hc4=>?_);refine CN ?_;refine zo (p:=c4=true) rfl yB (fun ht4=>?_) (fun ht4=>?_)
 ·
  obtain rfl:=hc4 ht4;refine qap ?_;refine CN ?_;exact zb rfl rfl (zm rfl)
 refine CSQR ?_;refine zb0 (T:=inT) (xs:=[]) rfl rfl rfl rfl zo4 row_121 trivial rfl rfl ?_;refine qaw ?_;refine zN rfl rfl rfl rfl rfl rfl rfl row_121 yaL ?_;refine qbm ?_;exact zb rfl rfl (zh rfl rfl yB)
theorem zvV (l:List Out) (hl:l.length*16≤140737488355328∧l.length≤9223372036854775807):Tells P 153 [.val (bsl outT) l] (.fresh 204 outT l):=by
 refine zc Tryz.func153 rfl rfl rfl (fun ext w hext=>?_);refine zf (d:=0) rfl zl (fun hsl0=>?_);refine qap ?_;refine qaN ?_;refine zhv rfl rfl rfl rfl rfl zeO (fun c4 hc4=>?_);refine CN ?_;refine zo (p:=c4=true) rfl yB (fun ht4=>?_) (fun ht4=>?_)
 ·
  obtain rfl:=hc4 ht4;refine qap ?_;refine CN ?_;exact zb rfl rfl (zm rfl)
 refine CSQR ?_;refine zb0 (T:=outT) (xs:=[]) rfl rfl rfl rfl zo3 row_122 trivial rfl rfl ?_;refine qaw ?_;refine zN rfl rfl rfl rfl rfl rfl rfl row_122 yaL ?_;refine qbm ?_;exact zb rfl rfl (zh rfl rfl yB)
theorem cloneTx (l:List Tx) (hl:l.length*48≤140737488355328∧l.length≤9223372036854775807):Tells P 173 [.val (bsl txT) l] (.fresh 124 txT l):=by
 refine zc Tryz.func173 rfl rfl rfl (fun ext w hext=>?_);refine zf (d:=0) rfl zl (fun hsl0=>?_);refine qap ?_;refine qaN ?_;refine zhv rfl rfl rfl rfl rfl isl_34 (fun c4 hc4=>?_);refine CN ?_;refine zo (p:=c4=true) rfl yB (fun ht4=>?_) (fun ht4=>?_)
 ·
  obtain rfl:=hc4 ht4;refine qap ?_;refine CN ?_;exact zb rfl rfl (zm rfl)
 refine CSQR ?_;refine zb0 (T:=txT) (xs:=[]) rfl rfl rfl rfl zm4 zuX trivial rfl rfl ?_;refine qaw ?_;refine zN rfl rfl rfl rfl rfl rfl rfl zuX yaL ?_;refine qbm ?_;exact zb rfl rfl (zh rfl rfl yB)
theorem indexId (l:List Ab.Id) (v:Ab.Id):Tells P 181 [.val (bsl idT) l,.val idT v] (.val i64T (idx (fun x=>decide (v=x)) l)):=by
 refine zc Tryz.func181 rfl rfl rfl (fun ext w hext=>?_);refine zf (d:=0) rfl zl (fun hsl0=>?_);refine qai ?_;refine qam ?_;refine qbK ?_;refine qa0 ?_;refine Lp (ι:=Nat) 1 (fun (k:Nat)=>(((((Fr.none).set 0 (.val (bsl idT) l)).set 3 (.ptr 0 0)).set 6 (.val (bsl idT) l)).set 7 (.val i64T (l.length:Int))).set 8 (.val i64T (k:Int))) (fun (k:Nat)=>(Hp.none).set 0 (.box 26 idT v)) (fun (k:Nat)=>k≤l.length∧idx (fun x=>decide (v=x)) l=shift k (idx (fun x=>decide (v=x)) (l.drop k))) (fun (k:Nat)=>l.length-k) (0) (⟨uf _,zgC _ l⟩) ?_;intro k hinv;refine qal ?_;refine Cf (p:=k<l.length) (fun ht9=>?_) (fun ht9=>?_)
 ·
  obtain⟨x,hx⟩:∃x,l[k]?=some x:=⟨_,ub ht9⟩;refine qaL ?_;refine qcj ?_;refine G0 (oLs rfl rfl rfl zaA) ?_;refine qco ?_;refine G0 (zlS rfl rfl rfl (zkn)) ?_;refine GK.nil ?_;refine zo (p:=(decide (v=x))=true) rfl yB (fun ht16=>?_) (fun ht16=>?_)
  ·
   refine qcd ?_;exact zb rfl rfl (za rfl (hinv.2.trans (znC hx ht16)).symm)
  refine qaU ?_;exact Nx (k+1) (⟨by omega,hinv.2.trans (zsv hx ht16)⟩) ya
 refine CE ?_;refine qau ?_;exact zb rfl rfl (za rfl (hinv.2.trans (znD ya)).symm)
theorem containsId (l:List Ab.Id) (v:Ab.Id):Tells P 130 [.val (bsl idT) l,.val idT v] (.val zn (l.any fun x=>decide (v=x))):=by
 refine zc Tryz.func130 rfl rfl rfl (fun ext w hext=>?_);refine zf (d:=0) rfl zl (fun hsl0=>?_);refine qai ?_;refine qag ?_;refine qb7 ?_;refine A0 (oCl (indexId _ _) rfl fn_181 yi) ?_;refine A0 zfR ?_;refine qad ?_;exact zb rfl rfl (za rfl (zk4 _ l))
theorem equalFTx (l m:List Tx):Tells P 57 [.val (bsl txT) l,.val (bsl txT) m,.fn2 P txT txT zn (fun x y=>decide (x=y))] (.val zn (decide (l=m))):=by
 refine zc Tryz.func57 rfl rfl rfl (fun ext w hext=>?_);refine zf (d:=0) rfl zl (fun hsl0=>?_);refine zf (d:=1) rfl zl (fun hsl1=>?_);refine CQR ?_;refine qam ?_;refine qcq ?_;refine qaw ?_;refine qcq ?_;refine qbz ?_;refine Cf (p:=¬l.length=m.length) (fun ht14=>?_) (fun ht14=>?_)
 ·
  refine qau ?_;exact zb rfl rfl (za rfl (uh (fun e=>ht14 (by rw[e]))).symm)
 refine qb2 ?_;refine qcq ?_;refine qa0 ?_;refine Lp (ι:=Nat) 0 (fun (k:Nat)=>((((((Fr.none).set 0 (.val (bsl txT) l)).set 1 (.val (bsl txT) m)).set 2 (.fn2 P txT txT zn (fun x y=>decide (x=y)))).set 15 (.val (bsl txT) l)).set 16 (.val i64T (l.length:Int))).set 17 (.val i64T (k:Int))) (fun (k:Nat)=>Hp.none) (fun (k:Nat)=>k≤l.length∧l.take k=m.take k) (fun (k:Nat)=>l.length-k) (0) (⟨uf _,by simp⟩) ?_;intro k hinv;refine qal ?_;refine Cf (p:=k<l.length) (fun ht18=>?_) (fun ht18=>?_)
 ·
  obtain⟨x,hx⟩:∃x,l[k]?=some x:=⟨_,ub ht18⟩;obtain⟨y,hy⟩:∃y,m[k]?=some y:=yo;refine qaL ?_;refine qaX ?_;refine A0 aV ?_;refine qbN ?_;refine CNQR ?_;refine qaq ?_;refine qaX ?_;refine qbN ?_;refine CNQR ?_;refine A0 mH ?_;refine qcb ?_;refine qcb ?_;refine A0 (zmw rfl rfl yl yl) ?_;refine qbj ?_;refine zo (p:=¬x=y) rfl yB (fun ht30=>?_) (fun ht30=>?_)
  ·
   refine qau ?_;exact zb rfl rfl (za rfl (uh (zj7 hx hy ht30)).symm)
  refine qaU ?_;exact Nx (k+1) (⟨by omega,zeG hx hy hinv.2 (by simpa using ht30)⟩) ya
 refine CE ?_;refine qau ?_;exact zb rfl rfl (za rfl (ui y6).symm)
theorem zn3 (a b:Tx):Tells P 58 [.val txT a,.val txT b] (.val zn (decide (a=b))):=by
 refine zc Tryz.func58 rfl rfl rfl (fun ext w hext=>?_);refine qax ?_;refine qa4 ?_;refine A0 (oFp zdY) ?_;refine A0 (oLb zev zhN) ?_;refine A0 (oFp zdY) ?_;refine A0 (oLb zev zhN) ?_;refine A0 (oCl (equalIn _ _) rfl fn_111 yi) ?_;refine Sp (d:=9) (p:=a.ins=b.ins) (fun g9=>?_) (fun g9=>?_)
 ·
  refine qaw ?_;refine qbX ?_;refine qbX ?_;refine A1 (oCl (equalOut _ _) rfl fn_112 yi) ?_;refine qaD ?_;exact zb rfl rfl (za rfl yax)
 refine qaw ?_;refine qbA ?_;refine A2 ?_;refine qaD ?_;exact zb rfl rfl (za rfl (by symm;apply uh;intro h;exact g9 (by rw[h])))
def halfN (n:Nat):Nat:=2^(zaj (n-1)-1)
theorem zeq (n:Nat):0<halfN n:=Nat.two_pow_pos _
theorem zfx {n:Nat} (h:2≤n):halfN n<n:=by
  unfold halfN zaj;rw[if_neg ya,Nat.add_sub_cancel]
  have:=Nat.log2_self_le (n:=n-1) ya
  omega
theorem half_eq {n:Nat} (h:2≤n) (hn:n<4398046511104):IntKind.i64.wrap (1*2^(min (IntL.toI i64T (((zaj (zac (IntL.toI i64T ((n:Int)-1))).toNat:Nat):Int)-1)).toNat 64))=(halfN n:Nat):=by
  have e1:(zac (IntL.toI i64T ((n:Int)-1))).toNat=n-1:=by
    unfold zac;show(UInt64.ofNat (((n:Int)-1)%18446744073709551616).toNat).toNat=n-1;rw[UInt64.toNat_ofNat_of_lt' yY];omega
  have hb:=zgS (s:=42) (n:=n-1) ya;have hp:2^(zaj (n-1)-1)≤2^42:=Nat.pow_le_pow_right yn ya;rw[e1];have e2:(IntL.toI i64T (((zaj (n-1):Nat):Int)-1)).toNat=zaj (n-1)-1:=by
    show(((zaj (n-1):Nat):Int)-1).toNat=_;omega
  rw[e2,Nat.min_eq_left ya,Int.one_mul];have e3:(2:Int)^(zaj (n-1)-1)=((2^(zaj (n-1)-1):Nat):Int):=yB;rw[e3];show _=((2^(zaj (n-1)-1):Nat):Int);obtain⟨q,hq⟩:∃q,q=2^(zaj (n-1)-1):=⟨_,rfl⟩;rw[←hq] at hp ⊢;exact zaz ya
theorem zpK {n:Nat} (h:2≤n) (hn:n<4398046511104):1≤zaj (zac (IntL.toI i64T ((n:Int)-1))).toNat∧zaj (zac (IntL.toI i64T ((n:Int)-1))).toNat≤42:=by
  have e1:(zac (IntL.toI i64T ((n:Int)-1))).toNat=n-1:=by
    unfold zac;show(UInt64.ofNat (((n:Int)-1)%18446744073709551616).toNat).toNat=n-1;rw[UInt64.toNat_ofNat_of_lt' yY];omega
  rw[e1];refine⟨?_,zgS ya⟩;unfold zaj;rw[if_neg ya];omega
theorem half_ok (n:Nat) (h:2≤n) (hn:n<4398046511104):Tells P 160 [.val i64T (n:Int)] (.val i64T (halfN n:Nat)):=by
 obtain⟨hb1,hb2⟩:=zpK h hn;refine zc Tryz.func160 rfl rfl rfl (fun ext w hext=>?_);refine zf (d:=0) rfl zt (fun hin0=>?_);refine qbV ?_;refine A0 zbh ?_;refine qcm ?_;refine A0 (oCl (lenU_ok _) rfl fn_185 yd) ?_;refine A0 zbh ?_;refine A0 (g_shlI rfl rfl rfl ya6 rfl) ?_;refine qad ?_;exact zb rfl rfl (za rfl (half_eq h hn))
def zvk (b:List UInt8):Ab.Id:=zfr ([0]++b)
theorem leaf_ok (b:List UInt8) (hb:b.length≤1000000):Tells P 162 [.val (bsl u8T) b] (.val idT (zvk b)):=by
 refine zc Tryz.func162 rfl rfl rfl (fun ext w hext=>?_);refine zf (d:=0) rfl zl (fun hsl0=>?_);refine qbM ?_;refine qba ?_;refine zlo (S:=bsl u8T) (d:=3) rfl ?_;refine qaw ?_;refine A0 (zL (T:=(bsl u8T)) (xs:=[_,_]) rfl zc8 zcz yal rfl rfl) ?_;refine A0 (oCl (of_ok [[0],b] yA) rfl fn_49 yd) ?_;refine qat ?_;refine CN ?_;exact zab rfl rfl rfl rfl zaA (by unfold zvk;simp)
def zj6 (a b:Ab.Id):List UInt8:=[1]++a++b
def nodeOf (a b:Ab.Id):Ab.Id:=zfr (zj6 a b)
theorem ztp (a b:Ab.Id) (ha:a.length=32) (hb:b.length=32):Tells P 196 [.val (arrT 2 yn idT) [a,b]] (.fresh 5 u8T (zj6 a b)):=by
 refine zc Tryz.func196 rfl rfl rfl (fun ext w hext=>?_);refine qai ?_;refine A0 aL ?_;refine CNQ ?_;refine zci (d:=1) rfl rfl (Lens.self _) ?_;have e0:([a,b]:List Ab.Id)[0]?=some a:=rfl;have e1:([a,b]:List Ab.Id)[1]?=some b:=rfl;refine xj ?_;refine X0 (zkg (T:=sl u8T) (S:=bsl u8T) (zL (T:=u8T) (xs:=[_]) rfl zcP zcg yx rfl rfl)) ?_;refine X0 (g_ia_ra (i:=0) rfl rfl rfl ym ar_300 yj) ?_;refine qbJ ?_;refine X0 (g_ia_ra (i:=1) rfl rfl rfl ym ar_300 yj) ?_;refine qbJ ?_;refine X0 (zL (T:=(bsl u8T)) (xs:=[_,_,_]) rfl zc8 zcz yaf rfl rfl) ?_;refine XK.e (fun fr' hfr kk H=>by exact zaT (zgO [[1],a,b] yA) rfl fn_99 ⟨(zd ((hfr 8 yc).trans rfl)),trivial⟩ rfl rfl rfl (zr H)) ?_;refine X0 aO ?_;refine XK.nil' ?_;exact zb rfl rfl (zh rfl rfl (by unfold zj6;simp))
theorem node_ok (a b:Ab.Id):Tells P 161 [.val idT a,.val idT b] (.val idT (nodeOf a b)):=by
 refine zc Tryz.func161 rfl rfl rfl (fun ext w hext=>?_);refine zf (d:=0) rfl zmC (fun ha=>?_);refine zf (d:=1) rfl zmC (fun hb=>?_);refine qax ?_;refine qaF ?_;refine CNQR ?_;refine qb7 ?_;refine qb7 ?_;refine A0 (zkh (T:=idT) (xs:=[_,_]) rfl ar_300 ze_300 yal rfl) ?_;refine A0 (oCl (zB (ztp a b ha hb)) rfl fn_196 yd) ?_;refine A0 (oCl (zuH (zj6 a b) (by unfold zj6;simp;omega)) rfl zvI yd) ?_;refine qat ?_;refine CN ?_;exact zab rfl rfl rfl rfl zaA (rfl)
def zhx (l:List Ab.Id):Ab.Id:=if l.length=0 then zfr [2] else if h1:l.length≤1 then l.headD zId else nodeOf (zhx (l.take (halfN l.length))) (zhx (l.drop (halfN l.length)))
termination_by l.length
decreasing_by
  · have:=zfx (n:=l.length) ya;simp;omega
  have:=zeq l.length;simp;omega
theorem zqg (l:List Ab.Id) (hl:l.length<4398046511104):Tells P 104 [.val (bsl idT) l] (.val idT (zhx l)):=by
 refine zc Tryz.func104 rfl rfl rfl (fun ext w hext=>?_);refine zf (d:=0) rfl zl (fun hsl0=>?_);refine CQR ?_;refine qaF ?_;refine qaN ?_;refine qbK ?_;refine CNB ?_;refine CQR ?_;refine A0 zcw ?_;refine qad ?_;refine Cf (p:=l.length=0) (fun ht6=>?_) (fun ht6=>?_)
 ·
  refine CQR ?_;refine qba ?_;refine A0 (oCl (zuH [2] yn) rfl zvI yd) ?_;refine qat ?_;refine CN ?_;exact zab rfl rfl rfl rfl zaA (by rw[zhx,if_pos ht6])
 refine CQR ?_;refine A0 zcw ?_;refine qad ?_;refine Cf (p:=l.length=1) (fun ht10=>?_) (fun ht10=>?_)
 ·
  obtain⟨x,hx⟩:∃x,l[0]?=some x:=yo;refine qa6 ?_;refine A0 (zR (i:=0) rfl rfl rfl ya zeM yj) ?_;refine A0 (ze rfl rfl zaA) ?_;refine qat ?_;refine CN ?_;exact zab rfl rfl rfl rfl zaA (by rw[zhx,if_neg ht6,dif_pos ya];cases l with|nil=>simp at ht6|cons a m=>simp at hx ⊢;exact hx.symm)
 have hp:=zeq l.length;have hh:=zfx (n:=l.length) ya;refine CS ?_;refine CI ?_;refine qa6 ?_;refine qbK ?_;refine A0 (oCl (half_ok l.length ya ya) rfl fn_160 yd) ?_;refine qaA ?_;refine xm ?_;refine qb9 ?_;refine X0 y7 ?_;refine X0 (oCl (zqg (l.take (halfN l.length)) yA) rfl zvG yd) ?_;refine qb9 ?_;refine X0 (zlR rfl rfl rfl zeM yh) ?_;refine X0 (oCl (zqg (l.drop (halfN l.length)) yA) rfl zvG yd) ?_;refine X0 (oCl (node_ok _ _) rfl fn_161 yi) ?_;refine XK.e (x:=.idk) (fun fr' hfr kk H=>by exact zg rfl rfl rfl ((hfr 2 yc).trans rfl) rfl (Lens.self _) zaA ((hfr 26 yc).trans rfl) (zr H)) ?_;refine XK.nil' ?_;exact zab rfl rfl rfl rfl zaA (by conv=>rhs;rw[zhx,if_neg ht6,dif_neg ya])
termination_by l.length
decreasing_by
  all_goals (simp;omega)
theorem zpy {t:Total} {ρ:Nat→Value} {B:Nat→Prop} {U N:Nat→Prop} {w:World} {v:Value} (hv:(AV.val zah t).rel ρ B U N w v):t.h.length=32∧t.w.length=4:=by
  obtain⟨cs,⟨_,_,_,h1,_,_,_,h2,_⟩,_⟩:=hv;exact⟨h1.1,h2.1⟩
def zfn (t:Total):List UInt8:=[t.h,zfH t.w,zw (zac (IntL.toI i64T t.n)) 4].flatten
theorem zjI {t:Total} (h:t.h.length=32):(zfn t).length=68:=by unfold zfn;simp[h,zem,zP]
def zfv (a b:Total):Total:=⟨zfr ([3]++zfn a++zfn b),addW a.w b.w,IntKind.i64.wrap (a.n+b.n)⟩
def leafT (id:Ab.Id) (w:Wide):Total:=⟨id,w,1⟩
def zmu (id:Ab.Id):Ab.Id:=zvk id
def zct (l:List Ab.Id):Ab.Id:=zhx (l.map zmu)
def zrH (l:List Tx):Ab.Id:=zhx (l.map idOf)
theorem zlz (t:Total) (hh:t.h.length=32):Tells P 165 [.val zah t] (.fresh 5 u8T (zfn t)):=by
 refine zc Tryz.func165 rfl rfl rfl (fun ext w hext=>?_);refine qai ?_;refine A0 aL ?_;refine CNQR ?_;refine qbw ?_;refine A0 (oCl (zsY _) rfl fn_98 yd) ?_;refine qaF ?_;refine qat ?_;refine CNQ ?_;refine zci (d:=1) rfl rfl (Lens.self _) ?_;refine zci (d:=3) rfl rfl (Lens.self _) ?_;have hbl:=zem t.w;have hn:=zP (zac (IntL.toI i64T t.n)) 4;refine zC [some 1,some 1,some 1,some 1,some 1,some 1,some 1,some 1,none,some 1] mixed yc ?_;refine X0 (oFr zf9 zeL) ?_;refine qbJ ?_;refine qbJ ?_;refine X0 (oFr zcc zby) ?_;refine X0 (ze rfl rfl ty_3) ?_;refine X0 (zi2 rfl (zou) (us_3) rfl) ?_;refine qbF ?_;refine X0 (zL (T:=(bsl u8T)) (xs:=[_,_,_]) rfl zc8 zcz yaf rfl rfl) ?_;refine XK.e (fun fr' hfr kk H=>by exact zaT (zgO [t.h,zfH t.w,zw (zac (IntL.toI i64T t.n)) 4] (by simp[hh,hbl,hn])) rfl fn_99 ⟨(zd ((hfr 14 yc).trans rfl)),trivial⟩ rfl rfl rfl (zr H)) ?_;refine X0 aO ?_;refine XK.nil' ?_;exact zb rfl rfl (zh rfl rfl rfl)
theorem zqz (id:Ab.Id) (w:Wide):Tells P 93 [.val idT id,.val zan w] (.val zah (leafT id w)):=by
 refine zc Tryz.func93 rfl rfl rfl (fun ext w hext=>?_);refine qax ?_;refine qbC ?_;refine CNQR ?_;refine qb7 ?_;refine qaG ?_;refine A0 (zu rfl zoU zv0 (.cons zf9 zeL zaA rfl (.cons ziH zgV zap rfl (.cons zcc zby ty_3 rfl .nil))) rfl) ?_;refine qaK ?_;refine CN ?_;exact zab rfl rfl rfl rfl zbm (rfl)
theorem znA (a b:Total):Tells P 109 [.val zah a,.val zah b] (.val zah (zfv a b)):=by
 refine zc Tryz.func109 rfl rfl rfl (fun ext w hext=>?_);refine zf (d:=0) rfl zpy (fun ha=>?_);refine zf (d:=1) rfl zpy (fun hb=>?_);refine qax ?_;refine qbC ?_;refine CNQR ?_;refine qbw ?_;refine qbw ?_;refine A0 (oCl (zjA _ _) rfl ztX yi) ?_;refine qaQ ?_;refine qaz ?_;refine qak ?_;refine qaA ?_;refine zC [some 1,some 1,some 1,some 1,some 1,some 1,some 1,some 1,some 1,some 1,some 1,some 1,some 1,some 1,none] mixed yc ?_;refine X0 (zkg (T:=sl u8T) (S:=bsl u8T) (zL (T:=u8T) (xs:=[_]) rfl zcP zcg yx rfl rfl)) ?_;refine X0 (oLs rfl rfl rfl zbm) ?_;refine X0 (zkg (T:=sl u8T) (S:=bsl u8T) (zec (zB (zlz a ha.1)) rfl fn_165 yd rfl)) ?_;refine X0 (oLs rfl rfl rfl zbm) ?_;refine X0 (zkg (T:=sl u8T) (S:=bsl u8T) (zec (zB (zlz b hb.1)) rfl fn_165 yd rfl)) ?_;refine X0 (zL (T:=(bsl u8T)) (xs:=[_,_,_]) rfl zc8 zcz yaf rfl rfl) ?_;refine X0 (oCl (of_ok [[3],zfn a,zfn b] (by simp[zjI ha.1,zjI hb.1])) rfl fn_49 yd) ?_;refine xt ?_;refine X0 (oFp zcc) ?_;refine X0 (oLb zby ty_3) ?_;refine X0 (oFp zcc) ?_;refine X0 (oLb zby ty_3) ?_;refine X0 zdo ?_;refine X0 (zu rfl zoU zv0 (.cons zf9 zeL zaA rfl (.cons ziH zgV zap rfl (.cons zcc zby ty_3 rfl .nil))) rfl) ?_;refine XK.e (x:=.idk) (fun fr' hfr kk H=>by exact zg rfl rfl rfl ((hfr 4 yc).trans rfl) rfl (Lens.self _) zbm ((hfr 28 yc).trans rfl) (zr H)) ?_;refine XK.nil' ?_;exact zab rfl rfl rfl rfl zbm (by unfold zfv;simp)
theorem znv (id:Ab.Id):Tells P 106 [.val idT id] (.val idT (zmu id)):=by
 refine zc Tryz.func106 rfl rfl rfl (fun ext w hext=>?_);refine zf (d:=0) rfl zmC (fun hid=>?_);refine qai ?_;refine qaF ?_;refine CNQ ?_;refine zci (d:=1) rfl rfl (Lens.self _) ?_;refine CR ?_;refine A0 (zic rfl rfl zjz rfl rfl) ?_;refine A0 (oCl (leaf_ok id ya) rfl fn_162 yd) ?_;refine qat ?_;refine CN ?_;exact zab rfl rfl rfl rfl zaA (rfl)
theorem mapped_ok (l:List Ab.Id) (f:Ab.Id→Ab.Id) (hl:l.length≤4000000000000):Tells P 105 [.val (bsl idT) l,.fn1 P idT idT f] (.fresh 26 idT (l.map f)):=by
 refine zc Tryz.func105 rfl rfl rfl (fun ext w hext=>?_);refine zf (d:=0) rfl zl (fun hsl0=>?_);refine qbv ?_;refine A0 aL ?_;refine qaN ?_;refine qbK ?_;refine qa0 ?_;refine zcJ (T:=idT) (d:=5) 26 rfl ?_;refine Lp (ι:=Nat) 1 (fun (k:Nat)=>((((((Fr.none).set 0 (.val (bsl idT) l)).set 1 (.fn1 P idT idT f)).set 5 (.own 0)).set 8 (.val (bsl idT) l)).set 9 (.val i64T (l.length:Int))).set 10 (.val i64T (k:Int))) (fun (k:Nat)=>(Hp.none).set 0 (.row 26 idT ((l.take k).map f))) (fun (k:Nat)=>k≤l.length) (fun (k:Nat)=>l.length-k) (0) (uf _) ?_;intro k hinv;refine qal ?_;refine Cf (p:=k<l.length) (fun ht11=>?_) (fun ht11=>?_)
 ·
  obtain⟨x,hx⟩:∃x,l[k]?=some x:=ybr;refine CSQBQR ?_;refine A0 (zbM rfl rfl rfl zeM yj) ?_;refine A0 (ze rfl rfl zaA) ?_;refine qaF ?_;refine qat ?_;refine CNR ?_;refine A0 mO ?_;refine A0 mF ?_;refine qb7 ?_;refine A0 (ziD rfl rfl yl) ?_;refine qbt ?_;refine zaS 2 0 3 rfl rfl rfl rfl rfl rfl ?_;refine zz (n:=0) (y:=(l.take (k+1)).map f) rfl (by rw[un,hx];simp) ?_;exact Nx (k+1) ya ya
 refine qa3 ?_;exact zb rfl rfl (zh rfl rfl yN)
theorem zjj (l:List Ab.Id) (hl:l.length≤4000000000000):Tells P 52 [.val (bsl idT) l] (.val idT (zct l)):=by
 refine zc Tryz.func52 rfl rfl rfl (fun ext w hext=>?_);refine zf (d:=0) rfl zl (fun hsl0=>?_);refine qbM ?_;refine qaw ?_;refine A0 (oCl (zB (mapped_ok l zmu hl)) rfl fn_105 ⟨yl,(by first|exact zdu (Cs:=[]) rfl fn_106 yC trivial rfl (fun x=>znv x)|exact zdt (Cs:=[]) rfl fn_106 yC trivial rfl (fun x y=>znv x)|exact zdv rfl),trivial⟩) ?_;refine A0 (oCl (zqg (l.map zmu) yA) rfl zvG yd) ?_;refine qat ?_;refine CN ?_;exact zab rfl rfl rfl rfl zaA (rfl)
theorem leads_ok (l:List Ab.Id) (prev id:Ab.Id):Tells P 78 [.val (bsl idT) l,.val idT prev,.val idT id] (.val zn (decide (prev=id)||l.any fun x=>decide (id=x))):=by
 refine zc Tryz.func78 rfl rfl rfl (fun ext w hext=>?_);refine zf (d:=0) rfl zl (fun hsl0=>?_);refine qax ?_;refine qa4 ?_;refine qb7 ?_;refine qb7 ?_;refine A0 (zlS rfl rfl rfl (zkn)) ?_;refine Sp (d:=9) (p:=prev=id) (fun g9=>?_) (fun g9=>?_)
 ·
  refine qaw ?_;refine qac ?_;refine qaD ?_;exact zb rfl rfl (za rfl (by simp[g9]))
 refine qaw ?_;refine A1 mV ?_;refine A1 (oLs rfl rfl rfl zaA) ?_;refine A1 (oCl (containsId _ _) rfl fn_130 yi) ?_;refine qaD ?_;exact zb rfl rfl (za rfl (by simp[g9]))
theorem zrG (l:List Tx) (hl:l.length≤4000000000000):Tells P 53 [.val (bsl txT) l] (.val idT (zrH l)):=by
 refine zc Tryz.func53 rfl rfl rfl (fun ext w hext=>?_);refine zf (d:=0) rfl zl (fun hsl0=>?_);refine qbM ?_;refine A0 aL ?_;refine qaN ?_;refine qcq ?_;refine qa0 ?_;refine zcJ (T:=idT) (d:=3) 26 rfl ?_;refine Lp (ι:=Nat) 2 (fun (k:Nat)=>(((((Fr.none).set 2 (.ptr 0 0)).set 3 (.own 1)).set 6 (.val (bsl txT) l)).set 7 (.val i64T (l.length:Int))).set 8 (.val i64T (k:Int))) (fun (k:Nat)=>((Hp.none).set 0 (.box 26 idT zId)).set 1 (.row 26 idT ((l.take k).map idOf))) (fun (k:Nat)=>k≤l.length) (fun (k:Nat)=>l.length-k) (0) (uf _) ?_;intro k hinv;refine qal ?_;refine Cf (p:=k<l.length) (fun ht9=>?_) (fun ht9=>?_)
 ·
  obtain⟨x,hx⟩:∃x,l[k]?=some x:=⟨_,ub ht9⟩;refine CSQBQR ?_;refine qaX ?_;refine qbN ?_;refine CNR ?_;refine A0 mO ?_;refine qcb ?_;refine A0 (oCl (id_ok _) rfl fn_107 yd) ?_;refine qbt ?_;refine zaS 3 1 4 rfl rfl rfl rfl rfl rfl ?_;refine zz (n:=1) (y:=(l.take (k+1)).map idOf) rfl (by rw[un,hx];simp) ?_;exact Nx (k+1) ya ya
 obtain rfl:k=l.length:=ya;refine aw_pub (d:=3) rfl rfl ?_;refine zj (d:=3) (y:=l.map idOf) rfl (by rw[List.take_length]) ?_;refine CE ?_;refine qa6 ?_;refine A0 (oCl (zqg (l.map idOf) yA) rfl zvG yd) ?_;refine qat ?_;refine CN ?_;exact zab rfl rfl rfl rfl zaA (rfl)
def zbQ:List Total→Total→Total
  | [],x=>x
  | y::r,x=>zbQ r (zfv y x)
def za0 (p:List Total):Total:=match p.reverse with
  | []=>⟨zfr [4],zav,0⟩
  | x::r=>zbQ r x
def zgF:List Total→Total→List Total
  | [],x=>[x]
  | y::r,x=>if y.n=x.n then zgF r (zfv y x) else x::y::r
def zas (p:List Total) (leaf:Total):List Total:=(zgF p.reverse leaf).reverse
theorem ztL:za0 []=⟨zfr [4],zav,0⟩:=rfl
theorem mmrRoot_eq {p:List Total} {x:Total} {n:Nat} (hn:p.length=n+1) (hx:p[n]?=some x):za0 p=zbQ (p.take n).reverse x:=by
  have e:p=p.take n++[x]:=by
    have:=un (l:=p) (i:=n)
    rw[uc ya,hx] at this;simpa using this
  unfold za0
  conv=>lhs;rw[e]
  simp
theorem zqi {p:List Total} {k:Nat} {x y:Total} (hx:p[k]?=some x):zbQ (p.take (k+1)).reverse y=zbQ (p.take k).reverse (zfv x y):=by
  rw[un,hx];simp[zbQ]
theorem zpn (p:List Total) (hp:p.length≤1000000):Tells P 54 [.val (bsl zah) p] (.val zah (za0 p)):=by
 refine zc Tryz.func54 rfl rfl rfl (fun ext w hext=>?_);refine zf (d:=0) rfl zl (fun hsl0=>?_);refine CQR ?_;refine qbC ?_;refine qaN ?_;refine xw ?_;refine A0 zcw ?_;refine CN ?_;refine Cf (p:=p.length=0) (fun ht8=>?_) (fun ht8=>?_)
 ·
  obtain rfl:p=[]:=List.length_eq_zero_iff.1 ht8;refine CQR ?_;refine qba ?_;refine A0 (oCl (zuH [4] yn) rfl zvI yd) ?_;refine A0 (zu rfl zoU zv0 (.cons zf9 zeL zaA rfl .nil) rfl) ?_;refine qaK ?_;refine CN ?_;exact zab rfl rfl rfl rfl zbm (ztL.symm)
 obtain⟨n,hn⟩:∃n,p.length=n+1:=⟨p.length-1,by omega⟩;obtain⟨x0,hx0⟩:∃x,p[n]?=some x:=yo;have hroot:=mmrRoot_eq hn hx0;refine CSQR ?_;refine qaq ?_;refine xw ?_;refine A0 zbh ?_;refine A0 (zR (i:=n) rfl rfl rfl ya zfP yj) ?_;refine A0 (ze rfl rfl zbm) ?_;refine qbC ?_;refine qaK ?_;refine CNQQR ?_;refine qaq ?_;refine xw ?_;refine A0 zbh ?_;refine A0 yaN ?_;refine zj (d:=22) (y:=p.take n) rfl (by congr 1;omega) ?_;refine zaa rfl rfl rfl rfl Tryz.func108 fn_108 rfl rfl (fun ia1 iok1=>?_);refine qai ?_;refine qcr ?_;refine CNB ?_;refine ziL rfl rfl rfl Tryz.func164 fn_164 rfl rfl yV (fun fid2 ca2 lN2 DN2 cok2 rc2 hrc2=>?_);refine CQR ?_;refine A0 (oLs rfl rfl rfl zox) ?_;refine xw ?_;refine A0 zbh ?_;refine A0 aV ?_;refine CNB ?_;refine zj (d:=3) (y:=(n:Int)-1) rfl yA ?_;refine Lp (ι:=Nat×Total) 5 (fun(k,y)=>((Fr.none.set 0 (.lit (.func (.yield lN2) #[] #[]))).set 1 (.ptr 2 0)).set 3 (.val i64T ((k:Int)-1))) (fun(k,y)=>((((Hp.none.set 0 (.box 130 zah zuw)).set 1 (.box 130 zah y)).set 2 (.box 37 (bsl zah) (p.take n))).set 3 (.objAt DN2 (.deferred (some [])))).set 4 (.objAt lN2 (rc2 .ready none))) (fun(k,y)=>k≤n∧za0 p=zbQ (p.take k).reverse y) (fun(k,y)=>k) ((n,x0)) (⟨ug _,hroot⟩) ?_;intro⟨k,y⟩ hinv;dsimp only at hinv;refine qb5 ?_;refine qcg ?_;refine Cf (p:=0<k) (fun ht8=>?_) (fun ht8=>?_)
 ·
  obtain⟨x,hx⟩:∃x,(p.take n)[k-1]?=some x:=⟨_,ub yA⟩;have hx2:p[k-1]?=some x:=by rw[List.getElem?_take] at hx;split at hx;exact hx;cases hx
  refine CSQBQR ?_;refine A0 mL ?_;refine qaw ?_;refine A0 (oLs rfl rfl rfl zox) ?_;refine qaw ?_;refine A0 (zR (i:=k-1) rfl rfl rfl ya zfP yj) ?_;refine A0 (ze rfl rfl zbm) ?_;refine ziJ (nL:=4) rfl rfl rfl rfl rfl hrc2 rfl rfl rfl (fun ya3 yok3=>?_);refine CR ?_;refine qbC ?_;refine qaK ?_;refine CN ?_;refine ziN (nL:=4) hrc2 rfl ?_;refine CB ?_;refine CR ?_;refine xx ?_;refine xx ?_;refine A0 (oCl (znA _ _) rfl zsH yi) ?_;refine qaK ?_;refine CN ?_;refine CI ?_;refine zdG (nL:=4) hrc2 rfl ?_;refine qbj ?_;refine Cg ?_;refine CSIR ?_;refine qbI ?_;refine qad ?_;refine zj (d:=3) (y:=((k-1:Nat):Int)-1) rfl ya ?_;exact Nx ((k-1,zfv x y)) (⟨by omega,by rw[hinv.2,show k=k-1+1 by omega,zqi hx2];rfl⟩) (by show k-1<k;omega)
 obtain rfl:k=0:=ya;refine CE ?_;refine zge (nL:=4) rfl hrc2 rfl yn ?_;refine CI ?_;refine CQR ?_;refine xx ?_;refine qaK ?_;refine CN ?_;refine zaD (zb1 (nD:=3) rfl rfl rfl ?_);exact zrh rfl rfl rfl rfl zbm (by rw[hinv.2];rfl)
theorem zlO (p:List Total) (leaf:Total) (hp:p.length≤1000000):Tells P 55 [.val (bsl zah) p,.val zah leaf] (.fresh 130 zah (zas p leaf)):=by
 refine zc Tryz.func55 rfl rfl rfl (fun ext w hext=>?_);refine zf (d:=0) rfl zl (fun hsl0=>?_);refine qai ?_;refine A0 aL ?_;refine CN ?_;refine zq8 (ι:=List Total×Total) 2 0 rfl rfl rfl (fun (i:List Total×Total)=>match i with|(r,x)=>((Fr.none).set 3 (.ptr 0 0)).set 5 (.own 1)) (fun (i:List Total×Total)=>match i with|(r,x)=>((Hp.none).set 0 (.box 130 zah leaf)).set 1 (.row 130 zah (r.reverse++[x]))) (fun (i:List Total×Total)=>match i with|(r,x)=>r.length≤1000000∧zgF r x=zgF p.reverse leaf) (fun (i:List Total×Total)=>match i with|(r,x)=>r.length) ?_ (fun hreach=>?_)
 ·
  intro⟨r,x⟩ hinv;dsimp only at hinv;refine qb3 ?_;refine A0 (zaV rfl rfl rfl zgJ) ?_;refine zj (d:=13) (y:=((r.length+1:Nat):Int)) rfl yB ?_;refine qaA ?_;refine qbc ?_;refine G0 mV ?_;refine G0 zbu ?_;refine zaH (d:=15) (p:=r=[]) rfl (by rw[uo];show((r.length+1:Nat):Int)<2↔_;rw[←List.length_eq_zero_iff];omega) (fun g15=>?_) (fun g15=>?_)
  ·
   refine G0 mV ?_;refine qab ?_;refine qab ?_;refine G2 ?_;refine qaM ?_;refine Ct ?_;refine qb3 ?_;refine qbm ?_;exact zb rfl rfl (zh rfl rfl (by unfold zas;rw[←hinv.2,g15];rfl))
  obtain⟨y,s,hr⟩:∃y s,r=y::s:=by cases r with|nil=>exact absurd rfl g15|cons y s=>exact⟨y,s,rfl⟩
  have hrl:r.length=s.length+1:=by rw[hr];rfl
  have hx1:(r.reverse++[x])[s.length]?=some y:=by rw[hr];simp
  have hx2:(r.reverse++[x])[s.length+1]?=some x:=by rw[List.getElem?_append_right (by simp[hrl])];simp[hrl]
  refine G0 mV ?_;refine G1 mO ?_;refine G1 mV ?_;refine G1 zbh ?_;refine G1 (zdc (i:=s.length) rfl rfl rfl rfl ym zfP yh) ?_;refine G1 (zvy rfl rfl zcc rfl) ?_;refine G1 (zbR rfl rfl rfl rfl yj zby ty_3) ?_;refine G1 mO ?_;refine G1 mV ?_;refine G1 zbh ?_;refine G1 (zdc (i:=s.length+1) rfl rfl rfl rfl ym zfP yh) ?_;refine G1 (zvy rfl rfl zcc rfl) ?_;refine G1 (zbR rfl rfl rfl rfl yj zby ty_3) ?_;refine G1 ze1 ?_;refine qaM ?_;refine zo (p:=¬y.n=x.n) rfl yO (fun ht30=>?_) (fun ht30=>?_)
  ·
   refine qb3 ?_;refine qbm ?_;exact zb rfl rfl (zh rfl rfl (by unfold zas;rw[←hinv.2,hr,zgF,if_neg ht30];simp))
  refine CS ?_;refine CQ ?_;refine zC [some 1,some 1,some 1,some 1,some 1,some 1,some 1,some 1,some 1,some 1,some 1,some 1,some 1,some 1,some 1,some 1,none,some 1] mixed yc ?_;refine qcf ?_;refine X0 zbh ?_;refine X0 (znJ (q:=s.length) rfl rfl rfl rfl zfP ym yh) ?_;refine qcf ?_;refine X0 zbh ?_;refine X0 (zdc (i:=s.length) rfl rfl rfl rfl ym zfP yh) ?_;refine X0 (zbR rfl rfl rfl rfl yj (Lens.self _) zbm) ?_;refine qcf ?_;refine X0 zbh ?_;refine X0 (zdc (i:=s.length+1) rfl rfl rfl rfl ym zfP yh) ?_;refine X0 (zbR rfl rfl rfl rfl yj (Lens.self _) zbm) ?_;refine X0 (oCl (znA _ _) rfl zsH yi) ?_;refine X0 (zL (T:=zah) (xs:=[_]) rfl zfP zhU yx rfl rfl) ?_;refine XK.e (fun fr' hfr kk H=>by exact zre rfl rfl rfl rfl ((hfr 35 yc).trans rfl) ((hfr 47 yc).trans rfl) rfl zhU yA (zr H)) ?_;refine X0 aS ?_;refine XK.nil' ?_;refine aw_shrink (d:=5) rfl rfl rfl yA ?_;refine zaS 2 1 3 rfl rfl rfl rfl rfl rfl ?_;refine zz (n:=1) (y:=s.reverse++[zfv y x]) rfl (by simp[hr,List.take_append];exact uc yB) ?_;exact aw_goto ((s,zfv y x)) rfl (⟨by omega,by rw[←hinv.2,hr,zgF,if_pos (ua ht30)]⟩) (by show s.length<r.length;omega) rfl (by (repeat refine Fr.le_set ?_ yaY);exact Fr.le_none _) (by (repeat refine Hp.le_set ?_ rfl);exact Hp.le_none _) (by (repeat refine Fr.below_setB ?_ rfl);exact Fr.below_none _) (by (repeat refine Hp.below_set ?_ yn);exact Hp.below_none _)
 refine CQ ?_;refine zC [some 1,none,some 2,some 2,none,some 1] mixed yc ?_;refine X0 mV ?_;refine XK.e (fun fr' hfr kk H=>by exact zaT (zpE p yac) rfl fn_110 ⟨(zd ((hfr 7 yc).trans rfl)),trivial⟩ rfl rfl rfl (zr H)) ?_;refine XK.gb (t:=3) rfl rfl (fun _ he=>zs rfl rfl he (Lens.self _) zbm) rfl yx rfl rfl rfl ?_;refine XK.g2 (zL (T:=zah) (xs:=[_]) rfl zfP zhU yx rfl rfl) (zL (T:=zah) (xs:=[_]) rfl zfP zhU yx rfl rfl) rfl rfl rfl ?_;refine XK.e (fun fr' hfr kk H=>by exact zN rfl rfl rfl rfl ((hfr 8 yc).trans rfl) rfl ((hfr 10 yc).trans rfl) zhU yA (zr H)) ?_;refine X0 aO ?_;refine XK.nil' ?_;refine CQR ?_;refine qaA ?_;refine zaS 2 1 3 rfl rfl rfl rfl rfl rfl ?_;refine zz (n:=1) (y:=p.reverse.reverse++[leaf]) rfl yB ?_;exact zra hreach ((p.reverse,leaf)) rfl (⟨by simp;omega,rfl⟩) rfl (by (repeat refine Fr.le_set ?_ yaY);exact Fr.le_none _) (by (repeat refine Hp.le_set ?_ rfl);exact Hp.le_none _) (by (repeat refine Fr.below_setB ?_ rfl);exact Fr.below_none _) (by (repeat refine Hp.below_set ?_ yn);exact Hp.below_none _)
theorem growNilId (n:Nat) (hn:n≤1000000):Tells P 228 [.lit (.slice none 0 0),.val i64T (n:Int)] (.fresh 26 idT []):=by
 refine zc Tryz.func228 rfl rfl rfl (fun ext w hext=>?_);refine zf (d:=1) rfl zt (fun hin1=>?_);refine qap ?_;refine qaN ?_;refine qaT ?_;refine zgs rfl (uh (by show ¬((n:Int)<0);omega)) ?_;refine qb2 ?_;refine A0 mL ?_;refine A0 (zgL rfl rfl zcX) ?_;refine A0 mL ?_;refine A0 yR ?_;refine A0 zbh ?_;refine A0 zbh ?_;refine qag ?_;refine qcs ?_;refine zo (p:=0<n) rfl yaJ (fun ht16=>?_) (fun ht16=>?_)
 ·
  refine CR ?_;refine A0 mL ?_;refine A0 mL ?_;refine A0 (zgL rfl rfl zcX) ?_;refine A0 y7 ?_;refine qaw ?_;refine zlr (T:=idT) (n:=n) rfl rfl rfl rfl rfl rfl yah zfY ze_26 (ui_3) (⟨by assumption,by omega,by omega⟩) ?_;refine A0 mL ?_;refine A0 yR ?_;refine A0 (znJ (q:=0) rfl rfl rfl rfl zeM ym yh) ?_;refine A0 aS ?_;refine CNQR ?_;refine A0 mS ?_;refine A0 aS ?_;refine CN ?_;exact zb rfl rfl (zje rfl rfl yA rfl)
 refine CSQR ?_;refine A0 mL ?_;refine A0 aL ?_;refine CN ?_;exact zb rfl rfl (zm rfl)
theorem concatId (ls:List (List Ab.Id)) (hl:ls.flatten.length≤1000000):Tells P 197 [.val (bsl (bsl idT)) ls] (.fresh 26 idT ls.flatten):=by
 refine zc Tryz.func197 rfl rfl rfl (fun ext w hext=>?_);refine zf (d:=0) rfl zl (fun hsl0=>?_);refine qbv ?_;refine qam ?_;refine A0 (zO rfl rfl isl_328) ?_;refine qa0 ?_;refine Lp (ι:=Nat) 0 (fun (k:Nat)=>(((((Fr.none).set 0 (.val (bsl (bsl idT)) ls)).set 3 (.val i64T ((ls.take k).flatten.length:Int))).set 9 (.val (bsl (bsl idT)) ls)).set 10 (.val i64T (ls.length:Int))).set 11 (.val i64T (k:Int))) (fun (k:Nat)=>Hp.none) (fun (k:Nat)=>k≤ls.length) (fun (k:Nat)=>ls.length-k) (0) (uf _) ?_;intro k hinv;refine qal ?_;refine Cf (p:=k<ls.length) (fun ht12=>?_) (fun ht12=>?_)
 ·
  obtain⟨x,hx⟩:∃x,ls[k]?=some x:=⟨_,ub ht12⟩;have hle:=zdC ls (k+1);rw[zaE hx,ue] at hle;refine CSQBQR ?_;refine A0 (zbM rfl rfl rfl sl_328 yj) ?_;refine A0 (ze rfl rfl zcy) ?_;refine qaR ?_;refine qaw ?_;refine A0 mX ?_;refine A0 yR ?_;refine A0 zdo ?_;refine qag ?_;refine qaT ?_;refine zgs rfl (uh ybb) ?_;refine qaU ?_;refine zj (d:=3) (y:=((ls.take (k+1)).flatten.length:Int)) rfl (by rw[zaE hx,ue];omega) ?_;exact Nx (k+1) ya ya
 refine zj (d:=3) (y:=((ls.flatten.length:Nat):Int)) rfl yN ?_;refine CE ?_;refine qa6 ?_;refine zaT (growNilId ls.flatten.length hl) rfl fn_228 ybB rfl rfl rfl ?_;refine A0 aO ?_;refine qaN ?_;refine A0 (zO rfl rfl isl_328) ?_;refine qa0 ?_;refine Lp (ι:=Nat) 1 (fun k=>(((Fr.none.set 6 (.own 0)).set 25 (.val (bsl (bsl idT)) ls)).set 26 (.val i64T (ls.length:Int))).set 27 (.val i64T (k:Int))) (fun k=>Hp.none.set 0 (.row 26 idT (ls.take k).flatten)) (fun k=>k≤ls.length) (fun k=>ls.length-k) (0) (uf _) ?_;intro k hinv;refine qal ?_;refine Cf (p:=k<ls.length) (fun ht28=>?_) (fun ht28=>?_)
 ·
  obtain⟨x,hx⟩:∃x,ls[k]?=some x:=⟨_,ub ht28⟩;have hle:=zdC ls (k+1);rw[zaE hx,ue] at hle;refine CSQBQR ?_;refine A0 (zbM rfl rfl rfl sl_328 yj) ?_;refine A0 (ze rfl rfl zcy) ?_;refine A0 aX ?_;refine CNR ?_;refine A0 mO ?_;refine A0 mX ?_;refine zN rfl rfl rfl rfl rfl rfl rfl zfY ya ?_;refine A0 aO ?_;refine qaV ?_;refine xk ?_;refine zz (n:=0) rfl (zaE hx).symm ?_;exact Nx (k+1) ya ya
 refine qa3 ?_;exact zb rfl rfl (zh rfl rfl yN)
def mulM (x y:UInt64):UInt64:=zaN x 32*(y&&&4294967295)+zaN ((x&&&4294967295)*(y&&&4294967295)) 32
def mulHi (x y:UInt64):UInt64:=zaN x 32*zaN y 32+zaN (mulM x y) 32+zaN ((mulM x y&&&4294967295)+(x&&&4294967295)*zaN y 32) 32
theorem mul64_ok (x y:UInt64):Tells P 245 [.val u64T x,.val u64T y] (.tup2 (.val u64T (mulHi x y)) (.val u64T (x*y))):=by
 refine zc Tryz.func245 rfl rfl rfl (fun ext w hext=>?_);refine CQR ?_;refine A0 aV ?_;refine qag ?_;refine A0 (zqJ rfl rfl rfl) ?_;refine qag ?_;refine xi ?_;refine qag ?_;refine A0 (zqJ rfl rfl rfl) ?_;refine qag ?_;refine xi ?_;refine qag ?_;refine qaw ?_;refine A0 (zk6 rfl rfl rfl) ?_;refine qag ?_;refine qaw ?_;refine A0 (zk6 rfl rfl rfl) ?_;refine qaw ?_;refine xi ?_;refine A0 (znL rfl rfl rfl) ?_;refine qag ?_;refine A0 (zqJ rfl rfl rfl) ?_;refine qag ?_;refine xi ?_;refine qag ?_;refine qaq ?_;refine A0 (zk6 rfl rfl rfl) ?_;refine A0 (znL rfl rfl rfl) ?_;refine qag ?_;refine qaw ?_;refine A0 (zk6 rfl rfl rfl) ?_;refine qaw ?_;refine A0 (znL rfl rfl rfl) ?_;refine qaw ?_;refine xi ?_;refine A0 (znL rfl rfl rfl) ?_;refine qag ?_;refine qaw ?_;refine A0 (zk6 rfl rfl rfl) ?_;refine qad ?_;exact zU rfl rfl (za rfl rfl) (za rfl rfl)
theorem mulU_ok (x y:UInt64):Tells P 229 [.val u64T x,.val u64T y] (.tup2 (.val u64T (mulHi x y)) (.val u64T (x*y))):=by
 refine zc Tryz.func229 rfl rfl rfl (fun ext w hext=>?_);refine CQR ?_;refine A0 aV ?_;refine qaA ?_;refine Cg ?_;refine CSQR ?_;refine qaq ?_;refine A0 (oCl (mul64_ok _ _) rfl fn_245 yi) ?_;refine qaQ ?_;refine A0 aV ?_;refine qag ?_;refine qaw ?_;refine qbu ?_;exact zU rfl rfl (za rfl rfl) (za rfl rfl)
theorem mulHi_one {n:Nat} (h:n≤1000000):mulHi 1 (zac (IntL.toI i64T (n:Int)))=0:=by
  have e:(zac (IntL.toI i64T (n:Int))).toNat=n:=by
    unfold zac;show(UInt64.ofNat ((n:Int)%18446744073709551616).toNat).toNat=n;rw[UInt64.toNat_ofNat_of_lt' yY];omega
  obtain⟨y,hy⟩:∃y,y=zac (IntL.toI i64T (n:Int)):=⟨_,rfl⟩;rw[←hy] at e ⊢;have a1:zaN (1:UInt64) 32=0:=yn;have a2:zaN y 32=0:=by
    apply UInt64.toNat_inj.1;rw[zbg y yn,e];show n/4294967296=0;omega
  have a3:y&&&4294967295=y:=by
    apply UInt64.toNat_inj.1;rw[UInt64.toNat_and,e];show n&&&(2^32-1)=n;rw[Nat.and_two_pow_sub_one_eq_mod];omega
  have a4:(1:UInt64)&&&4294967295=1:=yn;unfold mulHi mulM;rw[a1,a2,a3,a4,UInt64.one_mul,a2];simp;rfl
theorem mulLo_one {n:Nat} (h:n≤1000000):IntKind.i64.wrap (IntL.toI u64T (1*zac (IntL.toI i64T (n:Int))))=(n:Int):=by
  have e:(zac (IntL.toI i64T (n:Int))).toNat=n:=by
    unfold zac;show(UInt64.ofNat ((n:Int)%18446744073709551616).toNat).toNat=n;rw[UInt64.toNat_ofNat_of_lt' yY];omega
  rw[UInt64.one_mul];show IntKind.i64.wrap (((zac (IntL.toI i64T (n:Int))).toNat:Nat):Int)=n;rw[e,zaz ya]
theorem u64_small {n:Nat} (h:n≤1000000):(zac (IntL.toI i64T (n:Int))).toNat=n:=by
  unfold zac;show(UInt64.ofNat ((n:Int)%18446744073709551616).toNat).toNat=n;rw[UInt64.toNat_ofNat_of_lt' yY];omega
theorem rep_step {x:Ab.Id} {l:List Ab.Id} {i m N:Nat} (hl:l.length=N) (hi:i+m≤N) (hm:m≤i) (h:l.take i=List.replicate i x):(l.take i++(l.take i).take m++l.drop (i+m)).take (i+m)=List.replicate (i+m) x:=by
  rw[h,List.take_replicate,Nat.min_eq_left hm,←List.replicate_append_replicate,List.take_append_of_le_length yB,uc yB]
theorem repeatId (x:Ab.Id) (n:Nat) (hn:1≤n∧n≤1000):Tells P 198 [.val (bsl idT) [x],.val i64T (n:Int)] (.fresh 26 idT (List.replicate n x)):=by
 refine zc Tryz.func198 rfl rfl rfl (fun ext w hext=>?_);refine zf (d:=0) rfl zl (fun hsl0=>?_);refine zf (d:=1) rfl zt (fun hin1=>?_);refine qap ?_;refine qaN ?_;refine qaT ?_;refine zgs rfl (uh ybb) ?_;refine CSQR ?_;refine qaw ?_;refine qbK ?_;refine qcm ?_;refine qaw ?_;refine qcm ?_;refine A0 (oCl (mulU_ok 1 (zac (IntL.toI i64T (n:Int)))) rfl fn_229 yi) ?_;refine qbL ?_;refine zj (d:=19) (y:=(0:UInt64)) rfl (mulHi_one ya) ?_;refine A0 y5 ?_;refine A0 aV ?_;refine qam ?_;refine A0 zcq ?_;refine zed (d:=22) rfl (rfl) ?_;refine qaw ?_;refine qbx ?_;refine zed (d:=25) rfl (uh (by rw[UInt64.one_mul];show ¬((9223372036854775807:Int)<(((zac (IntL.toI i64T (n:Int))).toNat:Nat):Int));rw[u64_small ya];omega)) ?_;refine qas ?_;refine Cg ?_;refine CSQR ?_;refine qaw ?_;refine A0 (zmh rfl (ui_3) (zuB) rfl (mulLo_one ya)) ?_;refine aw_mks (T:=idT) (n:=n) rfl rfl rfl rfl rfl rfl ym ym zfY ze_26 ⟨by omega,by omega,(show(n)*32≤16777216 by omega)⟩ ?_;refine A0 aO ?_;refine CNQR ?_;refine A0 mO ?_;refine qaw ?_;refine aw_copy_o rfl rfl rfl rfl rfl rfl rfl zfY (m:=1) yA yA ?_;refine A0 aX ?_;refine CNQ ?_;refine CB ?_;refine Lp (ι:=Nat×List Ab.Id) 1 (fun (i:Nat×List Ab.Id)=>match i with|(i,l)=>((Fr.none).set 7 (.own 0)).set 8 (.val i64T (i:Int))) (fun (i:Nat×List Ab.Id)=>match i with|(i,l)=>(Hp.none).set 0 (.row 26 idT l)) (fun (i:Nat×List Ab.Id)=>match i with|(i,l)=>l.length=n∧1≤i∧i≤n∧l.take i=List.replicate i x) (fun (i:Nat×List Ab.Id)=>match i with|(i,l)=>n-i) ((1,[x]++(List.replicate n zId).drop 1)) (⟨by simp;omega,by omega,by omega,by simp⟩) ?_;intro⟨i,l⟩ hinv;dsimp only at hinv;refine qb5 ?_;refine A0 mO ?_;refine A0 (zaV rfl rfl rfl zcX) ?_;refine qaT ?_;refine zo (p:=i<n) rfl (by rw[uo];simp only[IntL.toI,id_eq,hinv.1];omega) (fun ht37=>?_) (fun ht37=>?_)
 ·
  refine CS ?_;refine CB ?_;refine zC [some 1000001,some 1,some 1,some 1,some 1,some 1,some 1,none,some 1,some 1] mixed yc ?_;refine XK.ga (fun _=>g_mv (.inl rfl) rfl) rfl rfl rfl ?_;refine qcf ?_;refine X0 (zvw (p:=i) rfl rfl rfl rfl zeM ym yh) ?_;refine qcf ?_;refine X0 (znJ (q:=i) rfl rfl rfl rfl zeM ym yh) ?_;refine XK.e (fun fr' hfr kk H=>by exact aw_copy_in rfl rfl rfl rfl ((hfr 41 yc).trans rfl) ((hfr 44 yc).trans rfl) rfl zfY (m:=min i (n-i)) ya ya (zr H)) ?_;refine X0 zdo ?_;refine X0 aV ?_;refine XK.nil' ?_;refine CI ?_;exact Nx ((i+min i (n-i),l.take i++(l.take i).take (min i (n-i))++l.drop (i+min i (n-i)))) (⟨by simp;omega,by omega,by omega,rep_step hinv.1 ya ya hinv.2.2.2⟩) (by show n-(i+min i (n-i))<n-i;omega)
 refine qa3 ?_;exact zb rfl rfl (zh rfl rfl (by have h:=hinv.2.2.2;rw[uc ya] at h;rw[h];congr 1;omega))
def zbJ (l:List Ab.Id) (id:Ab.Id) (level:Int):List Ab.Id:=if 32<l.length then [] else if l.length=0 then [id] else if level<1 then l else l.take 1++List.replicate (min level 31).toNat id++l.drop ((min level 31).toNat+1)
theorem ztO (l:List Ab.Id) (id:Ab.Id) (level:Int):Tells P 166 [.val (bsl idT) l,.val idT id,.val i64T level] (.fresh 26 idT (zbJ l id level)):=by
 refine zc Tryz.func166 rfl rfl rfl (fun ext w hext=>?_);refine zf (d:=0) rfl zl (fun hsl0=>?_);refine zf (d:=2) rfl zt (fun hin2=>?_);refine qai ?_;refine A0 aL ?_;refine CNQ ?_;refine CB ?_;refine qa6 ?_;refine qbK ?_;refine A0 zcq ?_;refine Sp (d:=12) (p:=32<l.length) (fun g12=>?_) (fun g12=>?_)
 ·
  refine qad ?_;refine Ct ?_;refine qap ?_;refine CN ?_;exact zb rfl rfl (by unfold zbJ;rw[if_pos g12];exact zm rfl)
 refine qad ?_;refine Cg ?_;refine qa6 ?_;refine qbK ?_;refine A0 zcw ?_;refine Sp (d:=16) (p:=l.length=0) (fun g16=>?_) (fun g16=>?_)
 ·
  refine qad ?_;refine Ct ?_;refine CQR ?_;refine qb7 ?_;refine zb0 (T:=idT) (xs:=[_]) rfl rfl rfl rfl zeM zfY yx rfl rfl ?_;refine qbm ?_;exact zb rfl rfl (zh rfl rfl (by unfold zbJ;rw[if_neg g12,if_pos g16]))
 refine qad ?_;refine Cg ?_;refine qa6 ?_;refine A0 zbu ?_;refine Sp (d:=21) (p:=level<1) (fun g21=>?_) (fun g21=>?_)
 ·
  refine qad ?_;refine Ct ?_;refine qa6 ?_;refine zaT (zlh l yac) rfl fn_71 yd rfl rfl rfl ?_;refine qbm ?_;exact zb rfl rfl (zh rfl rfl (by unfold zbJ;rw[if_neg g12,if_neg g16,if_pos g21]))
 refine qad ?_;refine Cg ?_;refine CS ?_;refine CI ?_;refine qa6 ?_;refine A0 (g_min rfl rfl rfl) ?_;refine A0 (g_add rfl rfl rfl (show _=((((min level 31).toNat+1:Nat):Int):Int) from(zaz ya).trans ya)) ?_;refine qaA ?_;refine zC [some 1,some 1,some 1,some 1,some 1,some 1,some 1,some 1,none,some 1] mixed yc ?_;refine X0 mV ?_;refine X0 y7 ?_;refine X0 (oLs rfl rfl rfl zaA) ?_;refine X0 (zL (T:=idT) (xs:=[_]) rfl zeM zfY yx rfl rfl) ?_;refine X0 mV ?_;refine X0 (zsy rfl rfl rfl (show _=(((min level 31).toNat:Int):Int) from(zaz ya).trans ya)) ?_;refine X0 (zkg (T:=sl idT) (S:=bsl idT) (zec (zB (repeatId id (min level 31).toNat ya)) rfl fn_198 yi rfl)) ?_;refine X0 (zL (T:=(bsl idT)) (xs:=[_,_]) rfl sl_328 row_328 yal rfl rfl) ?_;refine XK.e (fun fr' hfr kk H=>by exact zaT (concatId [l.take 1,List.replicate (min level 31).toNat id] yA) rfl fn_197 ⟨(zd ((hfr 34 yc).trans rfl)),trivial⟩ rfl rfl rfl (zr H)) ?_;refine X0 aO ?_;refine XK.nil' ?_;refine qb5 ?_;refine qbK ?_;refine qaw ?_;refine qcs ?_;refine Cf (p:=(min level 31).toNat+1<l.length) (fun ht39=>?_) (fun ht39=>?_)
 ·
  refine CR ?_;refine A0 mO ?_;refine qaq ?_;refine A0 (zlR rfl rfl rfl zeM yh) ?_;refine zN rfl rfl rfl rfl rfl rfl rfl zfY yA ?_;refine A0 aO ?_;refine CNQR ?_;refine A0 mO ?_;refine qbm ?_;exact zb rfl rfl (zh rfl rfl (by unfold zbJ;rw[if_neg g12,if_neg g16,if_neg g21];simp;omega))
 refine CSQR ?_;refine A0 mO ?_;refine qbm ?_;exact zb rfl rfl (zh rfl rfl (by unfold zbJ;rw[if_neg g12,if_neg g16,if_neg g21,List.drop_of_length_le ya];simp))
def zf1:Nat→Head→Option Head
  | 0,_=>none
  | n+1,h=>if zat h=true then some h else zf1 n { h with nonce:=h.nonce+1 }
def zh3 (h:Head) (tries:Int):Option Head:=zf1 (min tries 200).toNat h
theorem zj8 {n:Nat} {h:Head} (hn:0<n) (hm:¬zat h=true):zf1 n h=zf1 (n-1) { h with nonce:=h.nonce+1 }:=by
  obtain⟨m,rfl⟩:∃m,n=m+1:=⟨n-1,by omega⟩;rw[zf1,if_neg hm];rfl
theorem zh4 {n:Nat} {h:Head} (hn:0<n) (hm:zat h=true):zf1 n h=some h:=by
  obtain⟨m,rfl⟩:∃m,n=m+1:=⟨n-1,by omega⟩;rw[zf1,if_pos hm]
theorem mine_ok (h:Head) (tries:Int):Tells P 154 [.val zbl h,.val i64T tries] (.tup2 (.val zbl ((zh3 h tries).getD h)) (.val zn (zh3 h tries).isSome)):=by
 refine zc Tryz.func154 rfl rfl rfl (fun ext w hext=>?_);refine zf (d:=1) rfl zt (fun hin1=>?_);refine qai ?_;refine qct ?_;refine zq ze_4 rfl rfl rfl rfl ?_;refine CNQQR ?_;refine qbU ?_;refine qaw ?_;refine zaa rfl rfl rfl rfl Tryz.func192 fn_192 rfl rfl (fun ia1 iok1=>?_);refine qax ?_;refine A0 aL ?_;refine CNQR ?_;refine xn ?_;refine A0 aC ?_;refine CN ?_;refine zet rfl ?_;refine CNB ?_;refine ziL rfl rfl rfl Tryz.func226 fn_226 rfl rfl yI (fun fid2 ca2 lN2 DN2 cok2 rc2 hrc2=>?_);refine CQR ?_;refine A0 (oLs rfl rfl rfl ty_3) ?_;refine A0 (g_min rfl rfl rfl) ?_;refine qa0 ?_;refine Lp (ι:=Nat×Head) 7 (fun(k,g)=>((((Fr.none.set 0 (.lit (.func (.yield lN2) #[] #[]))).set 1 (.ptr 4 0)).set 2 (.ptr 3 0)).set 5 (.val i64T (min tries 200))).set 6 (.val i64T (k:Int))) (fun(k,g)=>((((((Hp.none.set 0 (.box 32 zbl h)).set 1 (.box 32 zbl zhC)).set 2 (.box 4 zn false)).set 3 (.box 32 zbl g)).set 4 (.box 3 i64T tries)).set 5 (.objAt DN2 (.deferred (some [])))).set 6 (.objAt lN2 (rc2 .ready none))) (fun(k,g)=>k≤(min tries 200).toNat∧zh3 h tries=zf1 ((min tries 200).toNat-k) g) (fun(k,g)=>(min tries 200).toNat-k) ((0,h)) (⟨uf _,rfl⟩) ?_;intro⟨k,g⟩ hinv;dsimp only at hinv;refine qal ?_;refine Cf (p:=(k:Int)<min tries 200) (fun ht7=>?_) (fun ht7=>?_)
 ·
  refine CS ?_;refine CQ ?_;refine CB ?_;refine CQQR ?_;refine A0 mL ?_;refine qbU ?_;refine ziJ (nL:=6) rfl rfl rfl rfl rfl hrc2 rfl rfl rfl (fun ya3 yok3=>?_);refine CR ?_;refine qct ?_;refine qaS ?_;refine CN ?_;refine ziN (nL:=6) hrc2 rfl ?_;refine CB ?_;refine CQR ?_;refine qbU ?_;refine A0 (oCl (zgK _) rfl fn_42 yd) ?_;refine CN ?_;refine zo (p:=zat g=true) rfl yB (fun ht12=>?_) (fun ht12=>?_)
  ·
   refine CQR ?_;refine qbU ?_;refine qaS ?_;refine zg rfl rfl rfl rfl rfl (Lens.self _) ty_4 rfl ?_;refine CN ?_;refine zs6 (nL:=6) hrc2 rfl ?_;refine qbj ?_;refine Ct ?_;refine zfJ (nL:=6) rfl hrc2 rfl yn ?_;refine zaD (zb1 (nD:=5) rfl rfl rfl ?_);exact zrg rfl rfl (zx rfl rfl zaF (by rw[hinv.2,zh4 ya ht12];rfl)) (zx rfl rfl ty_4 (by rw[hinv.2,zh4 ya ht12];rfl))
  refine CS ?_;refine CI ?_;refine zdG (nL:=6) hrc2 rfl ?_;refine qbj ?_;refine Cg ?_;refine CS ?_;refine CR ?_;refine A0 (oFp zig) ?_;refine A0 (oLb zcM zco) ?_;refine A0 (znL rfl rfl rfl) ?_;refine A0 (oFp zig) ?_;refine zg rfl rfl rfl rfl rfl zcM zco rfl ?_;refine qaV ?_;exact Nx ((k+1,{ g with nonce:=g.nonce+1 })) (⟨by omega,by rw[hinv.2,zj8 ya ht12];rfl⟩) (by show(min tries 200).toNat-(k+1)<(min tries 200).toNat-k;omega)
 refine CE ?_;refine zge (nL:=6) rfl hrc2 rfl yn ?_;refine CI ?_;refine CQR ?_;refine qbU ?_;refine qaS ?_;refine zg rfl rfl rfl rfl rfl (Lens.self _) ty_4 rfl ?_;refine CN ?_;refine zaD (zb1 (nD:=5) rfl rfl rfl ?_);exact zrg rfl rfl (zx rfl rfl zaF (by rw[hinv.2,show(min tries 200).toNat-k=0 by omega];rfl)) (zx rfl rfl ty_4 (by rw[hinv.2,show(min tries 200).toNat-k=0 by omega];rfl))
def zbA (h:Head):Total:=leafT (zag h) (zcb h)
def zeb (t:Tip):List Ab.Id:=zbJ t.b.l (zag t.b.h) (zK t.b.h)
def zcD (t:Tip) (l:List Tx) (nonce:UInt64):Head:=⟨IntKind.i64.wrap (t.b.h.height+1),zag t.b.h,zct (zeb t),zrH l,(za0 t.p).h,(za0 t.p).w,t.b.h.bits,nonce⟩
def zf4 (bits:UInt32):Head:=⟨0,zId,zct [],zrH [],(za0 []).h,zav,bits,0⟩
def zar (bits:UInt32):Tip:=if za6 bits=true then ⟨⟨zf4 bits,[],[]⟩,zas [] (zbA (zf4 bits)),[]⟩ else zTip
def zeS (h:Head):Head:={ zhC with height:=h.height,prev:=h.prev,bits:=h.bits }
theorem zsk {l:List Ab.Id} {id:Ab.Id} {level:Int}:(zbJ l id level).length≤64:=by
  unfold zbJ
  split
  · simp
  split
  · simp
  split
  · omega
  simp;omega
def zhQ (t:Tx):Prop:=t.ins.length*40≤140737488351232∧t.outs.length*16≤140737488351232
def zrS (l:List Tx):Prop:=l.length*48≤140737488351232∧∀t∈l,zhQ t
def zfX (b:Block):Prop:=b.l.length*32≤140737488351232∧zrS b.t
def zfW (t:Tip):Prop:=zfX t.b∧t.p.length≤1000∧t.c.length≤1000
theorem set_same {α:Type} {l:List α} {k:Nat} {x:α} (h:l[k]?=some x):l.set k x=l:=by
  obtain⟨hk,rfl⟩:=ul.1 h;exact List.set_getElem_self hk
theorem zvl (h:Head):Tells P 56 [.val zbl h] (.val zah (zbA h)):=by
 refine zc Tryz.func56 rfl rfl rfl (fun ext w hext=>?_);refine qai ?_;refine qbC ?_;refine CNQ ?_;refine zC [some 1,some 1,some 1,some 1,some 1,none] mixed yc ?_;refine X0 (oLs rfl rfl rfl zaF) ?_;refine X0 (oCl (zdb _) rfl zoP yd) ?_;refine X0 (oLs rfl rfl rfl zaF) ?_;refine X0 (oCl (zjl _) rfl fn_94 yd) ?_;refine X0 (oCl (zqz _ _) rfl fn_93 yi) ?_;refine XK.e (x:=.idk) (fun fr' hfr kk H=>by exact zg rfl rfl rfl ((hfr 2 yc).trans rfl) rfl (Lens.self _) zbm ((hfr 7 yc).trans rfl) (zr H)) ?_;refine XK.nil' ?_;exact zab rfl rfl rfl rfl zbm (rfl)
theorem znu (t:Tip):Tells P 113 [.val tipT t] (.fresh 26 idT (zeb t)):=by
 refine zc Tryz.func113 rfl rfl rfl (fun ext w hext=>?_);refine qai ?_;refine A0 aL ?_;refine CNQ ?_;refine zC [some 1,some 1,some 1,some 1,some 1,some 1,some 1,some 1,some 1,some 1,some 1,none,some 1] mixed yc ?_;refine X0 (oFp zc5) ?_;refine X0 (oFp zdW) ?_;refine X0 (oLb (zc6.comp zb2) zcy) ?_;refine X0 (oFp zc5) ?_;refine X0 (oFp zaU) ?_;refine X0 (oLb (zc6.comp zal) zaF) ?_;refine X0 (oCl (zdb _) rfl zoP yd) ?_;refine X0 (oFp zc5) ?_;refine X0 (oFp zaU) ?_;refine X0 (oLb (zc6.comp zal) zaF) ?_;refine X0 (oCl (zh9 _) rfl fn_92 yd) ?_;refine XK.e (fun fr' hfr kk H=>by exact zaT (ztO t.b.l (zag t.b.h) (zK t.b.h)) rfl fn_166 ⟨(zd ((hfr 5 yc).trans rfl)),(zd ((hfr 9 yc).trans rfl)),(zd ((hfr 13 yc).trans rfl)),trivial⟩ rfl rfl rfl (zr H)) ?_;refine X0 aO ?_;refine XK.nil' ?_;exact zb rfl rfl (zh rfl rfl rfl)
theorem zvb (t:Tip) (l:List Tx) (nonce:UInt64) (hl:l.length≤4000000000000) (hp:t.p.length≤1000000):Tells P 59 [.val tipT t,.val (bsl txT) l,.val u64T nonce] (.val zbl (zcD t l nonce)):=by
 have hlk:(zeb t).length≤64:=zsk;refine zc Tryz.func59 rfl rfl rfl (fun ext w hext=>?_);refine zf (d:=1) rfl zl (fun hsl1=>?_);refine qai ?_;refine qct ?_;refine CNQR ?_;refine A0 (oFp zle) ?_;refine A0 (oLb zlt zox) ?_;refine A0 (oCl (zpn t.p hp) rfl fn_54 yd) ?_;refine qbC ?_;refine qaK ?_;refine CNQ ?_;refine zC [some 1,some 1,some 1,some 1,some 1,some 1,some 1,some 1,some 1,some 1,some 1,some 1,some 1,some 1,some 1,some 1,some 1,some 1,some 1,some 1,some 1,some 1,some 1,some 1,none] mixed yc ?_;refine X0 (oFp zc5) ?_;refine X0 (oFp zaU) ?_;refine X0 (oFp zcr) ?_;refine X0 (oLb ((zc6.comp zal).comp zak) ty_3) ?_;refine X0 zdo ?_;refine X0 (oFp zc5) ?_;refine X0 (oFp zaU) ?_;refine X0 (oLb (zc6.comp zal) zaF) ?_;refine X0 (oCl (zdb _) rfl zoP yd) ?_;refine X0 (oLs rfl rfl rfl zd6) ?_;refine X0 (oCl (zB (znu t)) rfl fn_113 yd) ?_;refine X0 (oCl (zjj (zeb t) ya) rfl fn_52 yd) ?_;refine X0 mV ?_;refine X0 (oCl (zrG l hl) rfl fn_53 yd) ?_;refine X0 (oFp zf9) ?_;refine X0 (oLb zeL zaA) ?_;refine X0 (oFp ziH) ?_;refine X0 (oLb zgV zap) ?_;refine X0 (oFp zc5) ?_;refine X0 (oFp zaU) ?_;refine X0 (oFp zdr) ?_;refine X0 (oLb ((zc6.comp zal).comp zaX) zbS) ?_;refine X0 mV ?_;refine X0 (zu rfl zpU bd_32 (.cons zcr zak ty_3 rfl (.cons zhm zcL zaA rfl (.cons zhl zb7 zaA rfl (.cons zlf zgX zaA rfl (.cons zjr zeo zaA rfl (.cons zih zdw zap rfl (.cons zdr zaX zbS rfl (.cons zig zcM zco rfl .nil)))))))) rfl) ?_;refine XK.e (x:=.idk) (fun fr' hfr kk H=>by exact zg rfl rfl rfl ((hfr 6 yc).trans rfl) rfl (Lens.self _) zaF ((hfr 34 yc).trans rfl) (zr H)) ?_;refine XK.nil' ?_;exact zab rfl rfl rfl rfl zaF (rfl)
theorem zjn (bits:UInt32):Tells P 18 [.val u32T bits] (.tup2 (.val tipT (zar bits)) (.val zn (za6 bits))):=by
 refine zc Tryz.func18 rfl rfl rfl (fun ext w hext=>?_);refine CQR ?_;refine zq zl3 rfl rfl rfl rfl ?_;refine qam ?_;refine A0 (oCl (zmY _) rfl fn_51 yd) ?_;refine qaQ ?_;refine qaz ?_;refine qak ?_;refine qag ?_;refine qbj ?_;refine zo (p:=¬za6 bits=true) rfl (by cases za6 bits<;>rfl) (fun ht13=>?_) (fun ht13=>?_)
 ·
  refine CQR ?_;refine A0 (zu rfl zl3 zug .nil rfl) ?_;refine qbh ?_;refine qad ?_;exact zp rfl rfl (zx rfl rfl zd6 (by unfold zar;rw[if_neg ht13])) (zad (za rfl (by simpa using ht13)))
 refine CSQR ?_;refine A0 (oCl (zjj [] yn) rfl fn_52 ybz) ?_;refine A0 (oCl (zrG [] yn) rfl fn_53 ybz) ?_;refine A0 (oCl (zpn [] yn) rfl fn_54 ybz) ?_;refine A0 (g_field rfl rfl zf9 zeL zaA) ?_;refine qaw ?_;refine A0 (zu rfl zpU bd_32 (.cons zhl zb7 zaA rfl (.cons zlf zgX zaA rfl (.cons zjr zeo zaA rfl (.cons zdr zaX zbS rfl .nil)))) rfl) ?_;refine qct ?_;refine qaS ?_;refine CNQ ?_;refine xj ?_;refine X0 (oLs rfl rfl rfl zaF) ?_;refine X0 (zu rfl zmJ bd_36 (.cons zaU zal zaF rfl .nil) rfl) ?_;refine X0 (oLs rfl rfl rfl zaF) ?_;refine X0 (oCl (zvl (zf4 bits)) rfl fn_56 yd) ?_;refine X0 (oCl (zB (zlO [] (zbA (zf4 bits)) yn)) rfl fn_55 ybB) ?_;refine X0 (zu rfl zl3 zug (.cons zc5 zc6 zdO rfl (.cons zle zlt zox rfl .nil)) rfl) ?_;refine XK.e (x:=.idk) (fun fr' hfr kk H=>by exact zg rfl rfl rfl ((hfr 2 yc).trans rfl) rfl (Lens.self _) zd6 ((hfr 26 yc).trans rfl) (zr H)) ?_;refine X0 aV ?_;refine XK.nil' ?_;exact zp rfl rfl (zx rfl rfl zd6 (by unfold zar;rw[if_pos (ua ht13)];rfl)) (zad (za rfl ((ua ht13).symm)))
theorem zpL (h:Head):Tells P 114 [.val zbl h] (.val zbl (zeS h)):=by
 refine zc Tryz.func114 rfl rfl rfl (fun ext w hext=>?_);refine qai ?_;refine qct ?_;refine CNQR ?_;refine qbS ?_;refine A0 (oFp zhm) ?_;refine A0 (oLb zcL zaA) ?_;refine A0 (oFp zdr) ?_;refine A0 (oLb zaX zbS) ?_;refine A0 (zu rfl zpU bd_32 (.cons zcr zak ty_3 rfl (.cons zhm zcL zaA rfl (.cons zdr zaX zbS rfl .nil))) rfl) ?_;refine qaS ?_;refine CN ?_;exact zab rfl rfl rfl rfl zaF (rfl)
theorem txs_ok (l:List Tx) (hl:zrS l):Tells P 117 [.val (bsl txT) l] (.fresh 124 txT l):=by
 obtain⟨hl1,hl2⟩:=hl;refine zc Tryz.func117 rfl rfl rfl (fun ext w hext=>?_);refine zf (d:=0) rfl zl (fun hsl0=>?_);refine qbv ?_;refine qaw ?_;refine zaT (cloneTx l yac) rfl fn_173 yd rfl rfl rfl ?_;refine A0 aO ?_;refine CNQQR ?_;refine A0 mO ?_;refine A0 (zaV rfl rfl rfl isl_34) ?_;refine qa0 ?_;refine Lp (ι:=Nat) 1 (fun (k:Nat)=>((((Fr.none).set 3 (.own 0)).set 8 (.own 0)).set 9 (.val i64T (l.length:Int))).set 10 (.val i64T (k:Int))) (fun (k:Nat)=>(Hp.none).set 0 (.row 124 txT l)) (fun (k:Nat)=>k≤l.length) (fun (k:Nat)=>l.length-k) (0) (uf _) ?_;intro k hinv;refine qal ?_;refine Cf (p:=k<l.length) (fun ht11=>?_) (fun ht11=>?_)
 ·
  obtain⟨x,hx⟩:∃x,l[k]?=some x:=ybr;have hxm:=ud hx;refine qaL ?_;refine A0 (zdc (i:=k) rfl rfl rfl rfl ym zm4 yh) ?_;refine A0 (zbR rfl rfl rfl rfl yj (Lens.self _) zgx) ?_;refine zq zrr rfl rfl rfl rfl ?_;refine A0 aV ?_;refine qbN ?_;refine CN ?_;refine zC [some 1,some 1,some 1,some 1,some 1,some 1,some 1,some 1,some 1,some 1,none] mixed yc ?_;refine qcf ?_;refine X0 (oFp zdY) ?_;refine X0 (oLb zev zhN) ?_;refine X0 (oCl (zB (cloneIn x.ins (by have:=hl2 x hxm;unfold zhQ at this;constructor<;>omega))) rfl fn_152 yd) ?_;refine X0 (oFp zes) ?_;refine X0 (oLb zd4 ziW) ?_;refine X0 (oCl (zB (zvV x.outs (by have:=hl2 x hxm;unfold zhQ at this;constructor<;>omega))) rfl fn_153 yd) ?_;refine X0 (zu rfl zrr bd_124 (.cons zdY zev zhN rfl (.cons zes zd4 ziW rfl .nil)) rfl) ?_;refine X0 (zdc (i:=k) rfl rfl rfl rfl ym zm4 yh) ?_;refine XK.e (x:=.idk) (fun fr' hfr kk H=>by exact zdF rfl rfl rfl ((hfr 24 yc).trans rfl) rfl rfl yj (Lens.self _) zgx ((hfr 23 yc).trans rfl) (zr H)) ?_;refine qaI ?_;refine zz (n:=0) (y:=l) rfl (by rw[show(⟨x.ins,x.outs⟩:Tx)=x from rfl];exact set_same hx) ?_;exact Nx (k+1) ya ya
 refine qa3 ?_;exact zb rfl rfl (zh rfl rfl rfl)
theorem zsM (b:Block) (hb:zfX b):Tells P 68 [.val zH b] (.val zH b):=by
 obtain⟨hb1,hb2⟩:=hb;refine zc Tryz.func68 rfl rfl rfl (fun ext w hext=>?_);refine qai ?_;refine zq zmJ rfl rfl rfl rfl ?_;refine CNQR ?_;refine A0 (oFp zdW) ?_;refine A0 (oLb zb2 zcy) ?_;refine A0 (oCl (zB (zlh b.l yac)) rfl fn_71 yd) ?_;refine A0 (oFp zdW) ?_;refine zg rfl rfl rfl rfl rfl zb2 zcy rfl ?_;refine CNQR ?_;refine A0 (oFp zeQ) ?_;refine A0 (oLb zcN zl7) ?_;refine A0 (oCl (zB (txs_ok b.t hb2)) rfl fn_117 yd) ?_;refine A0 (oFp zeQ) ?_;refine zg rfl rfl rfl rfl rfl zcN zl7 rfl ?_;refine CNQR ?_;refine xy ?_;refine qbT ?_;refine CN ?_;exact zab rfl rfl rfl rfl zdO (rfl)
theorem own_ok (t:Tip) (ht:zfW t):Tells P 67 [.val tipT t] (.val tipT t):=by
 obtain⟨ht1,ht2,ht3⟩:=ht;refine zc Tryz.func67 rfl rfl rfl (fun ext w hext=>?_);refine qai ?_;refine zq zl3 rfl rfl rfl rfl ?_;refine CNQ ?_;refine zC [some 1,some 1,some 1,some 1,some 1,some 1,some 1,some 1,some 1,some 1,none,some 1,none,some 1,none] mixed yc ?_;refine X0 (oFp zc5) ?_;refine X0 (oLb zc6 zdO) ?_;refine X0 (oCl (zsM t.b ht1) rfl fn_68 yd) ?_;refine X0 (oFp zle) ?_;refine X0 (oLb zlt zox) ?_;refine X0 (oCl (zB (zpE t.p yac)) rfl fn_110 yd) ?_;refine X0 (oFp zqN) ?_;refine X0 (oLb zrl zl6) ?_;refine X0 (oCl (zB (zik t.c yac)) rfl zsG yd) ?_;refine X0 (oFp zc5) ?_;refine XK.e (x:=.idk) (fun fr' hfr kk H=>by exact zg rfl rfl rfl ((hfr 12 yc).trans rfl) rfl zc6 zdO ((hfr 5 yc).trans rfl) (zr H)) ?_;refine X0 (oFp zle) ?_;refine XK.e (x:=.idk) (fun fr' hfr kk H=>by exact zg rfl rfl rfl ((hfr 13 yc).trans rfl) rfl zlt zox ((hfr 8 yc).trans rfl) (zr H)) ?_;refine X0 (oFp zqN) ?_;refine XK.e (x:=.idk) (fun fr' hfr kk H=>by exact zg rfl rfl rfl ((hfr 14 yc).trans rfl) rfl zrl zl6 ((hfr 11 yc).trans rfl) (zr H)) ?_;refine XK.nil' ?_;refine CQR ?_;refine xz ?_;refine qbh ?_;refine CN ?_;exact zab rfl rfl rfl rfl zd6 (rfl)
theorem sameB_ok (a b:Block):Tells P 19 [.val zH a,.val zH b] (.val zn (decide (a=b))):=by
 refine zc Tryz.func19 rfl rfl rfl (fun ext w hext=>?_);refine qax ?_;refine qa4 ?_;refine A0 (oFp zaU) ?_;refine A0 (oLb zal zaF) ?_;refine A0 (oFp zaU) ?_;refine A0 (oLb zal zaF) ?_;refine A0 (zlS rfl rfl rfl (zpz)) ?_;refine Sp (d:=9) (p:=a.h=b.h) (fun g9=>?_) (fun g9=>?_)
 ·
  refine qaw ?_;refine A1 (oFp zdW) ?_;refine A1 (oLb zb2 zcy) ?_;refine A1 (oFp zdW) ?_;refine A1 (oLb zb2 zcy) ?_;refine A1 (oCl (zt1 _ _) rfl fn_29 yi) ?_;refine Sp (d:=15) (p:=a.l=b.l) (fun g15=>?_) (fun g15=>?_)
  ·
   refine qaj ?_;refine A1 (oFp zeQ) ?_;refine A1 (oLb zcN zl7) ?_;refine A1 (oFp zeQ) ?_;refine A1 (oLb zcN zl7) ?_;refine A1 (oCl (equalFTx _ _) rfl fn_57 ⟨yl,yl,(by first|exact zdu (Cs:=[]) rfl fn_58 yC trivial rfl (fun x=>zn3 x y)|exact zdt (Cs:=[]) rfl fn_58 yC trivial rfl (fun x y=>zn3 x y)|exact zdv rfl),trivial⟩) ?_;refine qaD ?_;exact zb rfl rfl (za rfl yax)
  refine qaH ?_;refine A2 ?_;refine A2 ?_;refine qaD ?_;exact zb rfl rfl (za rfl (by symm;apply uh;intro h;exact g15 (by rw[h])))
 refine qaw ?_;refine qbA ?_;refine qar ?_;refine A2 ?_;refine qaD ?_;exact zb rfl rfl (za rfl (by symm;apply uh;intro h;exact g9 (by rw[h])))
def nW (a:Wide):Nat:=(a.getD 0 0).toNat+18446744073709551616*(a.getD 1 0).toNat+340282366920938463463374607431768211456*(a.getD 2 0).toNat+6277101735386680763835789423207666416102355444464034512896*(a.getD 3 0).toNat
abbrev W256:Nat:=115792089237316195423570985008687907853269984665640564039457584007913129639936
theorem zwb (a b c:UInt64):(addS a b c).toNat=(a.toNat+b.toNat+c.toNat)%18446744073709551616:=by unfold addS;rw[UInt64.toNat_ofNat']
theorem zwc (a b:UInt64) {c:UInt64} (h:c.toNat≤1):(addC a b c).toNat=(a.toNat+b.toNat+c.toNat)/18446744073709551616:=by
  have ha:a.toNat<18446744073709551616:=a.toNat_lt;have hb:b.toNat<18446744073709551616:=b.toNat_lt;unfold addC;rw[UInt64.toNat_ofNat_of_lt' yY]
theorem zsX (a0 a1 a2 a3 b0 b1 b2 b3:UInt64):zbZ addS addC [a0,a1,a2,a3] [b0,b1,b2,b3] 4=([addS a0 b0 0,addS a1 b1 (addC a0 b0 0),addS a2 b2 (addC a1 b1 (addC a0 b0 0)),addS a3 b3 (addC a2 b2 (addC a1 b1 (addC a0 b0 0)))],addC a3 b3 (addC a2 b2 (addC a1 b1 (addC a0 b0 0)))):=rfl
theorem nW_lt {a:Wide} (_h:a.length=4):nW a<W256:=by
  have h0:(a.getD 0 0).toNat<18446744073709551616:=UInt64.toNat_lt _;have h1:(a.getD 1 0).toNat<18446744073709551616:=UInt64.toNat_lt _;have h2:(a.getD 2 0).toNat<18446744073709551616:=UInt64.toNat_lt _;have h3:(a.getD 3 0).toNat<18446744073709551616:=UInt64.toNat_lt _;unfold nW W256;omega
theorem nW_inj {a b:Wide} (ha:a.length=4) (hb:b.length=4) (h:nW a=nW b):a=b:=by
  match a,ha with
  | [a0,a1,a2,a3],_=>match b,hb with
    | [b0,b1,b2,b3],_ =>
      have h0:a0.toNat<18446744073709551616:=a0.toNat_lt;have h1:a1.toNat<18446744073709551616:=a1.toNat_lt;have h2:a2.toNat<18446744073709551616:=a2.toNat_lt;have h3:a3.toNat<18446744073709551616:=a3.toNat_lt;have k0:b0.toNat<18446744073709551616:=b0.toNat_lt;have k1:b1.toNat<18446744073709551616:=b1.toNat_lt;have k2:b2.toNat<18446744073709551616:=b2.toNat_lt;have k3:b3.toNat<18446744073709551616:=b3.toNat_lt;have h:a0.toNat+18446744073709551616*a1.toNat+340282366920938463463374607431768211456*a2.toNat+6277101735386680763835789423207666416102355444464034512896*a3.toNat=b0.toNat+18446744073709551616*b1.toNat+340282366920938463463374607431768211456*b2.toNat+6277101735386680763835789423207666416102355444464034512896*b3.toNat:=h;rw[UInt64.toNat_inj.1 (show a0.toNat=b0.toNat by omega),UInt64.toNat_inj.1 (show a1.toNat=b1.toNat by omega),UInt64.toNat_inj.1 (show a2.toNat=b2.toNat by omega),UInt64.toNat_inj.1 (show a3.toNat=b3.toNat by omega)]
theorem ze9 {a b:Wide} (ha:a.length=4) (hb:b.length=4):(addW a b).length=4:=by
  match a,ha with
  | [a0,a1,a2,a3],_=>match b,hb with
    | [b0,b1,b2,b3],_=>unfold addW;rw[zsX];rfl
theorem znr {a b:Wide} (ha:a.length=4) (hb:b.length=4):nW (addW a b)=(nW a+nW b)%W256∧(zfU a b=true↔nW a+nW b<W256):=by
  match a,ha with
  | [a0,a1,a2,a3],_=>match b,hb with
    | [b0,b1,b2,b3],_ =>
      have h0:a0.toNat<18446744073709551616:=a0.toNat_lt;have h1:a1.toNat<18446744073709551616:=a1.toNat_lt;have h2:a2.toNat<18446744073709551616:=a2.toNat_lt;have h3:a3.toNat<18446744073709551616:=a3.toNat_lt;have k0:b0.toNat<18446744073709551616:=b0.toNat_lt;have k1:b1.toNat<18446744073709551616:=b1.toNat_lt;have k2:b2.toNat<18446744073709551616:=b2.toNat_lt;have k3:b3.toNat<18446744073709551616:=b3.toNat_lt;have z:(0:UInt64).toNat≤1:=yn;have z0:(0:UInt64).toNat=0:=rfl;have c1:=zwc a0 b0 z;have l1:=zrj a0 b0 z;have c2:=zwc a1 b1 l1;have l2:=zrj a1 b1 l1;have c3:=zwc a2 b2 l2;have l3:=zrj a2 b2 l2;have c4:=zwc a3 b3 l3;have s0:=zwb a0 b0 0;have s1:=zwb a1 b1 (addC a0 b0 0);have s2:=zwb a2 b2 (addC a1 b1 (addC a0 b0 0));have s3:=zwb a3 b3 (addC a2 b2 (addC a1 b1 (addC a0 b0 0)));unfold addW zfU;rw[zsX];unfold nW W256;simp only[List.getD_cons_zero,List.getD_cons_succ,uj];rw[z0] at c1 s0;generalize addC a3 b3 (addC a2 b2 (addC a1 b1 (addC a0 b0 0)))=x4 at *;generalize addS a3 b3 (addC a2 b2 (addC a1 b1 (addC a0 b0 0)))=y3 at *;generalize addS a2 b2 (addC a1 b1 (addC a0 b0 0))=y2 at *;generalize addC a2 b2 (addC a1 b1 (addC a0 b0 0))=x3 at *;generalize addS a1 b1 (addC a0 b0 0)=y1 at *;generalize addC a1 b1 (addC a0 b0 0)=x2 at *;generalize addS a0 b0 0=y0 at *;generalize addC a0 b0 0=x1 at *
      constructor
      · omega
      constructor<;>intro h<;>omega
theorem zpm {a b:Wide} (ha:a.length=4) (hb:b.length=4):nW (addW a b)=(nW a+nW b)%W256:=(znr ha hb).1
theorem zjW {r:Nat} (h:r≤64):2^r*2^(64-r)=18446744073709551616:=by
  rw[←Nat.pow_add,show r+(64-r)=64 by omega]
theorem shl_n {x:UInt64} {r:Nat} (h:r<64):(zhD x r).toNat=x.toNat*2^r%18446744073709551616:=by
  unfold zhD;rw[UInt64.toNat_ofNat',Nat.min_eq_left ya]
theorem shr_n {x:UInt64} {r:Nat} (h:r<64):(zaN x r).toNat=x.toNat/2^r:=by
  unfold zaN;have hx:x.toNat<18446744073709551616:=x.toNat_lt;rw[Nat.min_eq_left ya,UInt64.toNat_ofNat_of_lt' (by show _<18446744073709551616;have:=Nat.div_le_self x.toNat (2^r);omega)]
def upU (x y:UInt64) (r:Nat):UInt64:=zhD x r|||zaN (zaN y 1) (63-r)
theorem or_sum {a b i:Nat} (h:b<2^i):(a*2^i)|||b=a*2^i+b:=by
  rw[←Nat.shiftLeft_eq,Nat.shiftLeft_add_eq_or_of_lt h]
theorem upU_n {x y:UInt64} {r:Nat} (h:r<64):(upU x y r).toNat=x.toNat%2^(64-r)*2^r+y.toNat/2^(64-r):=by
  have hy:y.toNat<18446744073709551616:=y.toNat_lt;unfold upU;rw[UInt64.toNat_or,shl_n h,shr_n ya,shr_n ya,Nat.div_div_eq_div_mul,←Nat.pow_add,show 1+(63-r)=64-r by omega];have e:x.toNat*2^r%18446744073709551616=x.toNat%2^(64-r)*2^r:=by
    rw[←zjW (r:=r) ya,Nat.mul_comm (2^r) (2^(64-r)),Nat.mul_mod_mul_right]
  rw[e,or_sum];rw[Nat.div_lt_iff_lt_mul (Nat.two_pow_pos _),zjW ya];exact hy
theorem up_small {a0 a1 a2 a3:UInt64} {r:Nat} (h:r<64):nW [upU a0 0 r,upU a1 a0 r,upU a2 a1 r,upU a3 a2 r]=nW [a0,a1,a2,a3]*2^r%W256:=by
  have hs:=zjW (r:=r) ya;unfold nW;simp only[List.getD_cons_zero,List.getD_cons_succ];rw[upU_n h,upU_n h,upU_n h,upU_n h];have hz:(0:UInt64).toNat=0:=rfl;rw[hz,Nat.zero_div];obtain⟨p,hp⟩:∃p,p=2^r:=⟨_,rfl⟩;obtain⟨s,hs'⟩:∃s,s=2^(64-r):=⟨_,rfl⟩;rw[←hp,←hs'] at hs ⊢;have key:∀x:UInt64,∃t c:Nat,x.toNat*p=t+18446744073709551616*c∧x.toNat%s*p=t∧x.toNat/s=c∧c<18446744073709551616:=fun x=>by
    have hx:x.toNat<18446744073709551616:=x.toNat_lt;refine⟨_,_,?_,rfl,rfl,?_⟩
    · have e:=Nat.mod_add_div x.toNat s
      conv=>lhs;rw[←e]
      rw[Nat.add_mul,←hs,Nat.mul_comm s (x.toNat/s),Nat.mul_assoc,Nat.mul_comm s p,Nat.mul_comm (x.toNat/s)]
    exact Nat.lt_of_le_of_lt (Nat.div_le_self _ _) hx
  obtain⟨t0,c0,e0,f0,g0,l0⟩:=key a0;obtain⟨t1,c1,e1,f1,g1,l1⟩:=key a1;obtain⟨t2,c2,e2,f2,g2,l2⟩:=key a2;obtain⟨t3,c3,e3,f3,g3,l3⟩:=key a3;have b3:t3<18446744073709551616:=by
    rw[←f3,←hs,Nat.mul_comm p s];exact Nat.mul_lt_mul_of_pos_right (Nat.mod_lt _ ybc) (by rw[hp];exact Nat.two_pow_pos _)
  have b:∀{x:UInt64} {t:Nat},x.toNat%s*p=t→t<18446744073709551616:=fun {x t} f=>by
    rw[←f,←hs,Nat.mul_comm p s];exact Nat.mul_lt_mul_of_pos_right (Nat.mod_lt _ ybc) (by rw[hp];exact Nat.two_pow_pos _)
  have b0:=b f0;have b1:=b f1;have b2:=b f2;have hd:∀{x:UInt64} {c:Nat},x.toNat/s=c→c<p:=fun {x c} f=>by
    rw[←f,Nat.div_lt_iff_lt_mul ybc,hs];exact x.toNat_lt
  have hm:∀{x:UInt64} {t:Nat},x.toNat%s*p=t→t+p≤18446744073709551616:=fun {x t} f=>by
    rw[←f,←hs,Nat.mul_comm p s];have h1:x.toNat%s+1≤s:=Nat.mod_lt _ ybc;have h2:=Nat.mul_le_mul_right p h1;rw[Nat.add_mul,Nat.one_mul] at h2;exact h2
  have d0:=hd g0;have d1:=hd g1;have d2:=hd g2;have m1:=hm f1;have m2:=hm f2;have m3:=hm f3;rw[f0,f1,f2,f3,g0,g1,g2];have e:(a0.toNat+18446744073709551616*a1.toNat+340282366920938463463374607431768211456*a2.toNat+6277101735386680763835789423207666416102355444464034512896*a3.toNat)*p=a0.toNat*p+18446744073709551616*(a1.toNat*p)+340282366920938463463374607431768211456*(a2.toNat*p)+6277101735386680763835789423207666416102355444464034512896*(a3.toNat*p):=by
    rw[Nat.add_mul,Nat.add_mul,Nat.add_mul,Nat.mul_assoc,Nat.mul_assoc,Nat.mul_assoc]
  rw[e,e0,e1,e2,e3];unfold W256;omega
theorem zl4 {a:Wide} (h:a.length=4):∃a0 a1 a2 a3,a=[a0,a1,a2,a3]:=by
  match a,h with
  | [a0,a1,a2,a3],_=>exact⟨a0,a1,a2,a3,rfl⟩
theorem upW_len {a:Wide} {n:Int} (h:a.length=4):(upW a n).length=4:=by
  unfold upW;split
  · exact h
  split
  · rfl
  simp
theorem nW_up {a:Wide} {n:Nat} (h:a.length=4) (hn:n<256):nW (upW a n)=nW a*2^n%W256:=by
  obtain⟨a0,a1,a2,a3,rfl⟩:=zl4 h;obtain⟨q,r,rfl,hr⟩:∃q r,n=64*q+r∧r<64:=⟨n/64,n%64,by omega,by omega⟩;have h1:((64*q+r:Nat):Int)/64=q:=ya;have h2:(((64*q+r:Nat):Int)%64).toNat=r:=ya;have hz:=UInt64.toNat_lt a0;have h3:q<4:=ya;have h4:(63-((64*q+r:Nat):Int)%64).toNat=63-r:=ya;have e:∀b:Wide,b.length=4→(∀i:Nat,i<4→atW [a0,a1,a2,a3] ((i:Int)-q)=b.getD i 0∧atW [a0,a1,a2,a3] ((i:Int)-q-1)=if i=0 then 0 else b.getD (i-1) 0)→nW b=nW [a0,a1,a2,a3]*18446744073709551616^q%W256→nW (upW [a0,a1,a2,a3] ((64*q+r:Nat):Int))=nW [a0,a1,a2,a3]*2^(64*q+r)%W256:=fun b hb hat hnb=>by
    obtain⟨b0,b1,b2,b3,rfl⟩:=zl4 hb;unfold upW;rw[if_neg ya,if_neg ya];have hF:(List.range 4).map (upF [a0,a1,a2,a3] ((64*q+r:Nat):Int))=[upU b0 0 r,upU b1 b0 r,upU b2 b1 r,upU b3 b2 r]:=by
      have hu:∀i,upF [a0,a1,a2,a3] ((64*q+r:Nat):Int) i=upU (atW [a0,a1,a2,a3] ((i:Int)-q)) (atW [a0,a1,a2,a3] ((i:Int)-q-1)) r:=fun i=>by unfold upF upU;rw[h1,h2,h4]
      show [upF _ _ 0,upF _ _ 1,upF _ _ 2,upF _ _ 3]=_;rw[hu,hu,hu,hu,(hat 0 yn).1,(hat 0 yn).2,(hat 1 yn).1,(hat 1 yn).2,(hat 2 yn).1,(hat 2 yn).2,(hat 3 yn).1,(hat 3 yn).2];rfl
    rw[hF,up_small hr,hnb,Nat.mod_mul_mod,Nat.pow_add,Nat.pow_mul,Nat.mul_assoc]
  have hb0:a0.toNat<18446744073709551616:=a0.toNat_lt;have hb1:a1.toNat<18446744073709551616:=a1.toNat_lt;have hb2:a2.toNat<18446744073709551616:=a2.toNat_lt;have hb3:a3.toNat<18446744073709551616:=a3.toNat_lt;have hq:q=0∨q=1∨q=2∨q=3:=ya;rcases hq with rfl|rfl|rfl|rfl
  · refine e [a0,a1,a2,a3] rfl (fun i hi=>?_) ?_
    · match i,hi with
      | 0,_=>exact⟨rfl,rfl⟩
      | 1,_=>exact⟨rfl,rfl⟩
      | 2,_=>exact⟨rfl,rfl⟩
      | 3,_=>exact⟨rfl,rfl⟩
    rw[Nat.pow_zero,Nat.mul_one,Nat.mod_eq_of_lt (nW_lt h)]
  · refine e [0,a0,a1,a2] rfl (fun i hi=>?_) ?_
    · match i,hi with
      | 0,_=>exact⟨rfl,rfl⟩
      | 1,_=>exact⟨rfl,rfl⟩
      | 2,_=>exact⟨rfl,rfl⟩
      | 3,_=>exact⟨rfl,rfl⟩
    unfold nW W256;simp only[List.getD_cons_zero,List.getD_cons_succ];have:(0:UInt64).toNat=0:=rfl;omega
  · refine e [0,0,a0,a1] rfl (fun i hi=>?_) ?_
    · match i,hi with
      | 0,_=>exact⟨rfl,rfl⟩
      | 1,_=>exact⟨rfl,rfl⟩
      | 2,_=>exact⟨rfl,rfl⟩
      | 3,_=>exact⟨rfl,rfl⟩
    unfold nW W256;simp only[List.getD_cons_zero,List.getD_cons_succ];have:(0:UInt64).toNat=0:=rfl;omega
  refine e [0,0,0,a0] rfl (fun i hi=>?_) ?_
  · match i,hi with
    | 0,_=>exact⟨rfl,rfl⟩
    | 1,_=>exact⟨rfl,rfl⟩
    | 2,_=>exact⟨rfl,rfl⟩
    | 3,_=>exact⟨rfl,rfl⟩
  unfold nW W256;simp only[List.getD_cons_zero,List.getD_cons_succ];have:(0:UInt64).toNat=0:=rfl;omega
theorem cmpW_n {a b:Wide} (ha:a.length=4) (hb:b.length=4):cmpW a b=if nW a<nW b then -1 else if nW b<nW a then 1 else 0:=by
  obtain⟨a0,a1,a2,a3,rfl⟩:=zl4 ha;obtain⟨b0,b1,b2,b3,rfl⟩:=zl4 hb;have h0:a0.toNat<18446744073709551616:=a0.toNat_lt;have h1:a1.toNat<18446744073709551616:=a1.toNat_lt;have h2:a2.toNat<18446744073709551616:=a2.toNat_lt;have h3:a3.toNat<18446744073709551616:=a3.toNat_lt;have k0:b0.toNat<18446744073709551616:=b0.toNat_lt;have k1:b1.toNat<18446744073709551616:=b1.toNat_lt;have k2:b2.toNat<18446744073709551616:=b2.toNat_lt;have k3:b3.toNat<18446744073709551616:=b3.toNat_lt;show orL [cmpU a3 b3,cmpU a2 b2,cmpU a1 b1,cmpU a0 b0]=if a0.toNat+18446744073709551616*a1.toNat+340282366920938463463374607431768211456*a2.toNat+6277101735386680763835789423207666416102355444464034512896*a3.toNat<b0.toNat+18446744073709551616*b1.toNat+340282366920938463463374607431768211456*b2.toNat+6277101735386680763835789423207666416102355444464034512896*b3.toNat then -1 else if b0.toNat+18446744073709551616*b1.toNat+340282366920938463463374607431768211456*b2.toNat+6277101735386680763835789423207666416102355444464034512896*b3.toNat<a0.toNat+18446744073709551616*a1.toNat+340282366920938463463374607431768211456*a2.toNat+6277101735386680763835789423207666416102355444464034512896*a3.toNat then 1 else 0
  have c:∀x y:UInt64,cmpU x y=if x.toNat<y.toNat then -1 else if y.toNat<x.toNat then 1 else 0:=fun x y=>by unfold cmpU;simp only[UInt64.lt_iff_toNat_lt]
  rw[c,c,c,c];by_cases d3:a3.toNat=b3.toNat
  · by_cases d2:a2.toNat=b2.toNat
    · by_cases d1:a1.toNat=b1.toNat
      · rw[d3,d2,d1,if_neg (Nat.lt_irrefl _),if_neg (Nat.lt_irrefl _),if_neg (Nat.lt_irrefl _),if_neg (Nat.lt_irrefl _),if_neg (Nat.lt_irrefl _),if_neg (Nat.lt_irrefl _)]
        by_cases l:a0.toNat<b0.toNat
        · rw[if_pos l];show(-1:Int)=_;rw[if_pos ya]
        rw[if_neg l];by_cases l2:b0.toNat<a0.toNat
        · rw[if_pos l2];show(1:Int)=_;rw[if_neg ya,if_pos ya]
        rw[if_neg l2];show(0:Int)=_;rw[if_neg ya,if_neg ya]
      rw[d3,d2,if_neg (Nat.lt_irrefl _),if_neg (Nat.lt_irrefl _),if_neg (Nat.lt_irrefl _),if_neg (Nat.lt_irrefl _)];by_cases l:a1.toNat<b1.toNat
      · rw[if_pos l];show(-1:Int)=_;rw[if_pos ya]
      rw[if_neg l,if_pos (show b1.toNat<a1.toNat by omega)];show(1:Int)=_;rw[if_neg ya,if_pos ya]
    rw[d3,if_neg (Nat.lt_irrefl _),if_neg (Nat.lt_irrefl _)];by_cases l:a2.toNat<b2.toNat
    · rw[if_pos l];show(-1:Int)=_;rw[if_pos ya]
    rw[if_neg l,if_pos (show b2.toNat<a2.toNat by omega)];show(1:Int)=_;rw[if_neg ya,if_pos ya]
  by_cases l:a3.toNat<b3.toNat
  · rw[if_pos l];show(-1:Int)=_;rw[if_pos ya]
  rw[if_neg l,if_pos (show b3.toNat<a3.toNat by omega)];show(1:Int)=_;rw[if_neg ya,if_pos ya]
theorem zuJ (a b:UInt64) {c:UInt64} (h:c.toNat≤1):(subS a b c).toNat=(a.toNat+18446744073709551616-b.toNat-c.toNat)%18446744073709551616:=by unfold subS;rw[UInt64.toNat_ofNat']
theorem zuK (a b c:UInt64):(subC a b c).toNat=if a.toNat<b.toNat+c.toNat then 1 else 0:=by unfold subC;split<;>rfl
theorem zsW (a0 a1 a2 a3 b0 b1 b2 b3:UInt64):zbZ subS subC [a0,a1,a2,a3] [b0,b1,b2,b3] 4=([subS a0 b0 0,subS a1 b1 (subC a0 b0 0),subS a2 b2 (subC a1 b1 (subC a0 b0 0)),subS a3 b3 (subC a2 b2 (subC a1 b1 (subC a0 b0 0)))],subC a3 b3 (subC a2 b2 (subC a1 b1 (subC a0 b0 0)))):=rfl
theorem subW_len {a b:Wide} (ha:a.length=4) (hb:b.length=4):(subW a b).length=4:=by
  obtain⟨a0,a1,a2,a3,rfl⟩:=zl4 ha;obtain⟨b0,b1,b2,b3,rfl⟩:=zl4 hb;unfold subW;rw[zsW];rfl
theorem nW_sub {a b:Wide} (ha:a.length=4) (hb:b.length=4):nW (subW a b)=(nW a+W256-nW b)%W256∧(subOk a b=true↔nW b≤nW a):=by
  obtain⟨a0,a1,a2,a3,rfl⟩:=zl4 ha;obtain⟨b0,b1,b2,b3,rfl⟩:=zl4 hb;have h0:a0.toNat<18446744073709551616:=a0.toNat_lt;have h1:a1.toNat<18446744073709551616:=a1.toNat_lt;have h2:a2.toNat<18446744073709551616:=a2.toNat_lt;have h3:a3.toNat<18446744073709551616:=a3.toNat_lt;have k0:b0.toNat<18446744073709551616:=b0.toNat_lt;have k1:b1.toNat<18446744073709551616:=b1.toNat_lt;have k2:b2.toNat<18446744073709551616:=b2.toNat_lt;have k3:b3.toNat<18446744073709551616:=b3.toNat_lt;have z0:(0:UInt64).toNat=0:=rfl;have c1:=zuK a0 b0 0;have c2:=zuK a1 b1 (subC a0 b0 0);have c3:=zuK a2 b2 (subC a1 b1 (subC a0 b0 0));have c4:=zuK a3 b3 (subC a2 b2 (subC a1 b1 (subC a0 b0 0)));have s0:=zuJ a0 b0 (show(0:UInt64).toNat≤1 by decide);have s1:=zuJ a1 b1 (zp6 a0 b0 0);have s2:=zuJ a2 b2 (zp6 a1 b1 (subC a0 b0 0));have s3:=zuJ a3 b3 (zp6 a2 b2 (subC a1 b1 (subC a0 b0 0)));unfold subW subOk;rw[zsW];unfold nW W256;simp only[List.getD_cons_zero,List.getD_cons_succ,uj];rw[z0] at c1 s0;generalize subC a3 b3 (subC a2 b2 (subC a1 b1 (subC a0 b0 0)))=x4 at *;generalize subS a3 b3 (subC a2 b2 (subC a1 b1 (subC a0 b0 0)))=y3 at *;generalize subS a2 b2 (subC a1 b1 (subC a0 b0 0))=y2 at *;generalize subC a2 b2 (subC a1 b1 (subC a0 b0 0))=x3 at *;generalize subS a1 b1 (subC a0 b0 0)=y1 at *;generalize subC a1 b1 (subC a0 b0 0)=x2 at *;generalize subS a0 b0 0=y0 at *;generalize subC a0 b0 0=x1 at *;have e0:y0.toNat+b0.toNat=a0.toNat+18446744073709551616*x1.toNat:=by split at c1<;>omega
  have e1:y1.toNat+b1.toNat+x1.toNat=a1.toNat+18446744073709551616*x2.toNat:=by split at c1<;>split at c2<;>omega
  have e2:y2.toNat+b2.toNat+x2.toNat=a2.toNat+18446744073709551616*x3.toNat:=by split at c2<;>split at c3<;>omega
  have e3:y3.toNat+b3.toNat+x3.toNat=a3.toNat+18446744073709551616*x4.toNat:=by split at c3<;>split at c4<;>omega
  have l0:y0.toNat<18446744073709551616:=y0.toNat_lt;have l1:y1.toNat<18446744073709551616:=y1.toNat_lt;have l2:y2.toNat<18446744073709551616:=y2.toNat_lt;have l3:y3.toNat<18446744073709551616:=y3.toNat_lt;have l4:x4.toNat≤1:=by split at c4<;>omega
  clear c1 c2 c3 c4 s0 s1 s2 s3
  constructor
  · omega
  constructor<;>intro h<;>omega
theorem limb_n {a:Wide} {q:Nat} (h:a.length=4) (hq:q<4):(a.getD q 0).toNat=nW a/18446744073709551616^q%18446744073709551616:=by
  obtain⟨a0,a1,a2,a3,rfl⟩:=zl4 h;have h0:a0.toNat<18446744073709551616:=a0.toNat_lt;have h1:a1.toNat<18446744073709551616:=a1.toNat_lt;have h2:a2.toNat<18446744073709551616:=a2.toNat_lt;have h3:a3.toNat<18446744073709551616:=a3.toNat_lt;unfold nW;simp only[List.getD_cons_zero,List.getD_cons_succ]
  match q,hq with
  | 0,_=>simp only[List.getD_cons_zero];omega
  | 1,_=>simp only[List.getD_cons_zero,List.getD_cons_succ];omega
  | 2,_=>simp only[List.getD_cons_zero,List.getD_cons_succ];omega
  | 3,_=>simp only[List.getD_cons_zero,List.getD_cons_succ];omega
theorem set_n {a:Wide} {q:Nat} {v:UInt64} (h:a.length=4) (hq:q<4):nW (a.set q v)+(a.getD q 0).toNat*18446744073709551616^q=nW a+v.toNat*18446744073709551616^q:=by
  obtain⟨a0,a1,a2,a3,rfl⟩:=zl4 h;unfold nW
  match q,hq with
  | 0,_=>simp only[List.set_cons_zero,List.getD_cons_zero,List.getD_cons_succ];omega
  | 1,_=>simp only[List.set_cons_zero,List.set_cons_succ,List.getD_cons_zero,List.getD_cons_succ];omega
  | 2,_=>simp only[List.set_cons_zero,List.set_cons_succ,List.getD_cons_zero,List.getD_cons_succ];omega
  | 3,_=>simp only[List.set_cons_zero,List.set_cons_succ,List.getD_cons_zero,List.getD_cons_succ];omega
theorem orBit_n {a:Wide} {n K:Nat} (h:a.length=4) (hn:n<256) (hd:nW a=K*2^(n+1)):nW (zj1 a n)=nW a+2^n:=by
  obtain⟨q,r,rfl,hr⟩:∃q r,n=64*q+r∧r<64:=⟨n/64,n%64,by omega,by omega⟩;have hq:q<4:=ya;have e1:(64*q+r)/64=q:=ya;have e2:(64*q+r)%64=r:=ya;unfold zj1;rw[e1,e2];have hs:=set_n (v:=a.getD q default|||zhD 1 r) h hq;have hl:=limb_n h hq;have ep:2^(64*q+r+1)=18446744073709551616^q*2^(r+1):=by rw[Nat.add_assoc,Nat.pow_add,Nat.pow_mul]
  have epn:2^(64*q+r)=18446744073709551616^q*2^r:=by rw[Nat.pow_add,Nat.pow_mul]
  have hb:0<18446744073709551616^q:=Nat.pow_pos yn;have hl2:(a.getD q 0).toNat=K%2^(63-r)*2^(r+1):=by
    rw[hl,hd,ep,Nat.mul_left_comm,Nat.mul_div_cancel_left _ hb,←zjW (r:=r+1) ya,show 64-(r+1)=63-r by omega,Nat.mul_comm (2^(r+1)) (2^(63-r)),Nat.mul_mod_mul_right]
  have hv:(a.getD q default|||zhD 1 r).toNat=(a.getD q 0).toNat+2^r:=by
    have h1:(zhD 1 r).toNat=2^r:=by
      rw[shl_n hr];show 1*2^r%_=_;rw[Nat.one_mul,Nat.mod_eq_of_lt];exact Nat.pow_lt_pow_right yn hr
    rw[UInt64.toNat_or,h1];show(a.getD q 0).toNat|||2^r=_
    rw[hl2,or_sum (Nat.pow_lt_pow_right yn ya)]
  rw[hv,Nat.add_mul,Nat.mul_comm (2^r),←epn] at hs;omega
theorem zvZ (n:Nat):n<2^zaj n∧(0<n→2^(zaj n-1)≤n):=by
  unfold zaj
  split
  · rename_i h;subst h;exact⟨by decide,fun h=>absurd h yn⟩
  rename_i h;exact⟨Nat.lt_log2_self,fun _=>by rw[Nat.add_sub_cancel];exact Nat.log2_self_le h⟩
theorem longW_n {a:Wide} (h:a.length=4):nW a<2^longW a∧(0<nW a→1≤longW a∧2^(longW a-1)≤nW a):=by
  obtain⟨a0,a1,a2,a3,rfl⟩:=zl4 h;have h0:a0.toNat<18446744073709551616:=a0.toNat_lt;have h1:a1.toNat<18446744073709551616:=a1.toNat_lt;have h2:a2.toNat<18446744073709551616:=a2.toNat_lt;have h3:a3.toNat<18446744073709551616:=a3.toNat_lt;have key:∀(x k R:Nat) ,0<x→R<18446744073709551616^k→R+18446744073709551616^k*x<2^(k*64+zaj x)∧1≤k*64+zaj x∧2^(k*64+zaj x-1)≤R+18446744073709551616^k*x:=fun x k R hx hR=>by
    obtain⟨b1,b2⟩:=zvZ x;have b2:=b2 hx;have b3:1≤zaj x:=zlm hx;have e:2^(k*64+zaj x)=18446744073709551616^k*2^zaj x:=by rw[Nat.mul_comm k 64,Nat.pow_add,Nat.pow_mul]
    have e':2^(k*64+zaj x-1)=18446744073709551616^k*2^(zaj x-1):=by rw[Nat.add_sub_assoc b3,Nat.mul_comm k 64,Nat.pow_add,Nat.pow_mul]
    refine⟨?_,by omega,?_⟩
    · rw[e]
      have:=Nat.mul_le_mul_left (18446744073709551616^k) (show x+1≤2^zaj x from b1)
      rw[Nat.mul_add,Nat.mul_one] at this;omega
    rw[e']
    have:=Nat.mul_le_mul_left (18446744073709551616^k) b2
    omega
  unfold longW;simp only[zme,List.getD_cons_succ,List.getD_cons_zero];unfold nW;simp only[List.getD_cons_succ,List.getD_cons_zero];by_cases c3:0<a3.toNat
  · rw[if_pos c3]
    obtain⟨x,y,z⟩:=key a3.toNat 3 (a0.toNat+18446744073709551616*a1.toNat+340282366920938463463374607431768211456*a2.toNat) c3 ya;exact⟨x,fun _=>⟨y,z⟩⟩
  rw[if_neg c3];have z3:a3.toNat=0:=ya;rw[z3];by_cases c2:0<a2.toNat
  · rw[if_pos c2]
    obtain⟨x,y,z⟩:=key a2.toNat 2 (a0.toNat+18446744073709551616*a1.toNat) c2 ya;exact⟨x,fun _=>⟨y,z⟩⟩
  rw[if_neg c2];have z2:a2.toNat=0:=ya;rw[z2];by_cases c1:0<a1.toNat
  · rw[if_pos c1]
    obtain⟨x,y,z⟩:=key a1.toNat 1 a0.toNat c1 ya;rw[Nat.pow_one] at x z;exact⟨x,fun _=>⟨y,z⟩⟩
  rw[if_neg c1];have z1:a1.toNat=0:=ya;rw[z1];by_cases c0:0<a0.toNat
  · rw[if_pos c0]
    obtain⟨x,y,z⟩:=key a0.toNat 0 0 c0 yn;exact⟨by simpa using x,fun _=>⟨y,by simpa using z⟩⟩
  rw[if_neg c0];have z0:a0.toNat=0:=ya;rw[z0];exact⟨by decide,fun h=>absurd h yn⟩
theorem divN_n {b:Wide} (hb:b.length=4) {A:Nat}:∀(n:Nat) (x:Wide×Wide),x.1.length=4→x.2.length=4→nW b*2^n≤2*W256→n≤256→A=nW x.2*nW b+nW x.1→nW x.1<nW b*2^n→(∃K,nW x.2=K*2^n)→(∀k,k<n→nW b*2^k<W256)→
    (divN b n x).1.length=4∧(divN b n x).2.length=4∧A=nW (divN b n x).2*nW b+nW (divN b n x).1∧nW (divN b n x).1<nW b
  | 0,x,h1,h2,_,_,h3,h4,_,_=>⟨h1,h2,h3,by rw[Nat.pow_zero,Nat.mul_one] at h4;exact h4⟩
  | n+1,x,h1,h2,h5,h6,h3,h4,⟨K,hK⟩,h8=>by
    have hup:=nW_up (a:=b) (n:=n) hb ya;have hlt:=h8 n ya;rw[Nat.mod_eq_of_lt hlt] at hup;have hul:=upW_len (n:=(n:Int)) hb;obtain⟨s1,s2⟩:=nW_sub h1 hul;have hx1:=nW_lt h1;have ep:2^(n+1)=2*2^n:=by rw[Nat.pow_succ,Nat.mul_comm]
    have eb:nW b*2^(n+1)=2*(nW b*2^n):=by rw[ep,Nat.mul_left_comm]
    rw[divN];unfold zij;by_cases c:subOk x.1 (upW b n)=true
    · rw[if_pos c]
      have hle:=s2.1 c;rw[hup] at hle s1;have e1:nW (subW x.1 (upW b n))=nW x.1-nW b*2^n:=by rw[s1,show nW x.1+W256-nW b*2^n=(nW x.1-nW b*2^n)+W256 by omega,Nat.add_mod_right,Nat.mod_eq_of_lt ya]
      have e2:=orBit_n h2 (show n<256 by omega) hK;refine divN_n hb n (subW x.1 (upW b n),zj1 x.2 n) (show(subW x.1 (upW b n)).length=4 from subW_len h1 hul) (by show(zj1 x.2 n).length=4;unfold zj1;rw[List.length_set];exact h2) ya ya ?_ ?_ ⟨2*K+1,?_⟩ (fun k hk=>h8 k ya)
      · show A=nW (zj1 x.2 n)*nW b+nW (subW x.1 (upW b n))
        rw[e1,e2,Nat.add_mul,Nat.mul_comm (2^n)];omega
      · show nW (subW x.1 (upW b n))<_
        rw[e1];omega
      show nW (zj1 x.2 n)=_;rw[e2,hK,ep,Nat.add_mul,Nat.one_mul,Nat.mul_comm 2 K,Nat.mul_assoc]
    rw[if_neg c];have hgt:nW x.1<nW b*2^n:=by
      rw[←hup];exact Nat.lt_of_not_le fun hh=>c (s2.2 hh)
    exact divN_n hb n x h1 h2 ya ya h3 hgt ⟨K*2,by rw[hK,ep,Nat.mul_assoc]⟩ (fun k hk=>h8 k ya)
theorem zk0:nW zav=0:=rfl
theorem nW_pos {b:Wide} (hb:b.length=4) (h:b≠zav):0<nW b:=by
  refine Nat.pos_of_ne_zero fun e=>h (nW_inj hb rfl (by rw[e];rfl))
theorem nW_div {a b:Wide} (ha:a.length=4) (hb:b.length=4) (h:b≠zav):(divW a b).length=4∧(remW a b).length=4∧nW (divW a b)=nW a/nW b∧nW (remW a b)=nW a%nW b:=by
  have hp:=nW_pos hb h;obtain⟨la,_⟩:=longW_n ha;obtain⟨lb,lb2⟩:=longW_n hb;obtain⟨lb3,lb4⟩:=lb2 hp;have wa:=zqC a;have pw:2^256=W256:=yn;have hn:longW a+1-longW b≤256:=ya;have hover:∀k,k<longW a+1-longW b→nW b*2^k<W256:=fun k hk=>by
    have h1:nW b*2^k<2^longW b*2^k:=Nat.mul_lt_mul_of_pos_right lb (Nat.two_pow_pos k);rw[←Nat.pow_add] at h1;have h2:2^(longW b+k)≤2^256:=Nat.pow_le_pow_right yn ya;rw[pw] at h2;omega
  have hstart:nW a<nW b*2^(longW a+1-longW b):=by
    have h1:2^(longW b-1)*2^(longW a+1-longW b)≤nW b*2^(longW a+1-longW b):=Nat.mul_le_mul_right _ lb4;rw[←Nat.pow_add] at h1;have h2:2^longW a≤2^(longW b-1+(longW a+1-longW b)):=Nat.pow_le_pow_right yn ya;omega
  obtain⟨N,hN⟩:∃N,N=longW a+1-longW b:=⟨_,rfl⟩;unfold divW remW divP;rw[if_neg h];rw[←hN] at hn hover hstart ⊢;show(divN b N (a,zav)).2.length=4∧(divN b N (a,zav)).1.length=4∧nW (divN b N (a,zav)).2=_∧nW (divN b N (a,zav)).1=_;have hbound:nW b*2^N≤2*W256:=by
    cases N with
    | zero=>rw[Nat.pow_zero,Nat.mul_one];have:=nW_lt hb;omega
    | succ n=>have:=hover n ya;rw[Nat.pow_succ,←Nat.mul_assoc];omega
  obtain⟨g1,g2,g3,g4⟩:=divN_n hb (A:=nW a) N (a,zav) ha rfl hbound hn (by show nW a=nW zav*nW b+nW a;rw[zk0,Nat.zero_mul,Nat.zero_add]) hstart ⟨0,by rw[Nat.zero_mul];rfl⟩ hover;refine⟨g2,g1,?_,?_⟩
  · conv=>rhs;rw[g3]
    rw[Nat.add_comm,Nat.add_mul_div_right _ _ hp,Nat.div_eq_of_lt g4,Nat.zero_add]
  conv=>rhs;rw[g3]
  rw[Nat.add_comm,Nat.add_mul_mod_self_right,Nat.mod_eq_of_lt g4]
theorem of32_len {b:Ab.Id}:(ziS b).length=4:=by
  have h:∀k,(zsg b k).length=4:=fun k=>by
    induction k with
    | zero=>rfl
    | succ k ih=>unfold zsg;rw[zdU];unfold of32S;rw[List.length_set];exact ih
  exact h 32
def zfc (x:Trial):Prop:=zfW x.t∧x.b.t.length≤4000000000000
def zl9 (x:Trial):Int:=if 48≤x.b.h.height then 3 else 0
def zqk (x:Trial):Int:=if ¬zeS x.b.h=zeS x.want then 5 else 0
def zoI (x:Trial):Int:=if ¬x.b.h.links=x.want.links∨¬x.b.l=zeb x.t then 6 else 0
def zqj (x:Trial):Int:=if ¬x.b.h=x.want then 7 else 0
def zpZ (x:Trial):Int:=if ¬zat x.b.h=true then 4 else 0
def zgP (x:Trial):Int:=(zZ x.t.c x.b.t).2
def zsO (x:Trial):Trial:={ x with c:=(zZ x.t.c x.b.t).1 }
def zhE (f:Option Nat) (x:Trial):Int:=if f=some 60 then zl9 x else if f=some 61 then zqk x else if f=some 62 then zoI x else if f=some 63 then zqj x else if f=some 64 then zpZ x else zgP x
def askX (f:Option Nat) (x:Trial):Trial:=if f=some 65 then zsO x else x
def zhz:List (Option Nat)→Trial→Int
  | [],_=>0
  | f::l,x=>if zhE f x=0 then zhz l (askX f x) else zhE f x
def zif:List (Option Nat)→Trial→Trial
  | [],x=>x
  | f::l,x=>if zhE f x=0 then zif l (askX f x) else askX f x
def Asks (f:Option Nat):Prop:=f=some 60∨f=some 61∨f=some 62∨f=some 63∨f=some 64∨f=some 65
theorem zbF {l:List (Option Nat)} {k:Nat} {f:Option Nat} {x:Trial} (h:l[k]?=some f) (h0:zhE f x=0):zhz (l.drop k) x=zhz (l.drop (k+1)) (askX f x)∧zif (l.drop k) x=zif (l.drop (k+1)) (askX f x):=by
  obtain⟨hk,rfl⟩:=ul.1 h;rw[List.drop_eq_getElem_cons hk,zhz,zif,if_pos h0,if_pos h0];exact⟨rfl,rfl⟩
theorem zaJ {l:List (Option Nat)} {k:Nat} {f:Option Nat} {x:Trial} (h:l[k]?=some f) (h0:¬zhE f x=0):zhz (l.drop k) x=zhE f x∧zif (l.drop k) x=askX f x:=by
  obtain⟨hk,rfl⟩:=ul.1 h;rw[List.drop_eq_getElem_cons hk,zhz,zif,if_neg h0,if_neg h0];exact⟨rfl,rfl⟩
theorem znS {l:List (Option Nat)} {k:Nat} {x:Trial} (h:l.length≤k):zhz (l.drop k) x=0∧zif (l.drop k) x=x:=by
  rw[List.drop_of_length_le h];exact⟨rfl,rfl⟩
theorem zcj {f:Option Nat} {x:Trial} (h:zfc x):zfc (askX f x):=by unfold askX;split<;>exact h
theorem ask_size (x:Trial):Tells P 60 [.rptr zew x] (.val i64T (zl9 x)):=by
 refine zc Tryz.func60 rfl rfl rfl (fun ext w hext=>?_);refine CQR ?_;refine qce ?_;refine A0 mR ?_;refine A0 (zbX rfl rfl) ?_;refine A0 (oFr zho zfL) ?_;refine A0 (oFr zaU zal) ?_;refine A0 (oFr zcr zak) ?_;refine xh ?_;refine qcg ?_;refine Cf (p:=48≤x.b.h.height) (fun ht9=>?_) (fun ht9=>?_)
 ·
  refine qau ?_;exact zb rfl rfl (za rfl (by unfold zl9;rw[if_pos (ht9)]))
 refine CSQR ?_;refine qad ?_;exact zb rfl rfl (za rfl (by unfold zl9;rw[if_neg (ht9)]))
theorem ask_prev (x:Trial):Tells P 61 [.rptr zew x] (.val i64T (zqk x)):=by
 refine zc Tryz.func61 rfl rfl rfl (fun ext w hext=>?_);refine qch ?_;refine G0 (ze rfl rfl zaF) ?_;refine G0 (oCl (zpL _) rfl fn_114 ybz) ?_;refine qbo ?_;refine G0 (oFr zkl zeK) ?_;refine G0 (ze rfl rfl zaF) ?_;refine G0 (oCl (zpL _) rfl fn_114 ybz) ?_;refine G0 (zhy rfl rfl rfl (zpz)) ?_;refine GK.nil ?_;refine zo (p:=¬zeS x.b.h=zeS x.want) rfl yB (fun ht14=>?_) (fun ht14=>?_)
 ·
  refine qau ?_;exact zb rfl rfl (za rfl (by unfold zqk;rw[if_pos (ht14)]))
 refine CSQR ?_;refine qad ?_;exact zb rfl rfl (za rfl (by unfold zqk;rw[if_neg (ht14)]))
theorem ask_link (x:Trial) (hx:zfc x):Tells P 62 [.rptr zew x] (.val i64T (zoI x)):=by
 refine zc Tryz.func62 rfl rfl rfl (fun ext w hext=>?_);refine qch ?_;refine G0 (oFr zhl zb7) ?_;refine G0 (ze rfl rfl zaA) ?_;refine qbo ?_;refine G0 (oFr zkl zeK) ?_;refine G0 (oFr zhl zb7) ?_;refine G0 (ze rfl rfl zaA) ?_;refine G0 (zhy rfl rfl rfl (zkn)) ?_;refine zaH (d:=14) (p:=¬x.b.h.links=x.want.links) rfl yB (fun g14=>?_) (fun g14=>?_)
 ·
  refine G0 mV ?_;refine qab ?_;refine qab ?_;refine qaM ?_;refine Ct ?_;refine qau ?_;exact zb rfl rfl (za rfl (by unfold zoI;rw[if_pos (.inl g14)]))
 refine G0 mV ?_;refine qbQ ?_;refine G1 (oFr zho zfL) ?_;refine G1 (oFr zdW zb2) ?_;refine G1 (ze rfl rfl zcy) ?_;refine qbQ ?_;refine G1 (oFr zmA zkE) ?_;refine G1 (ze rfl rfl zd6) ?_;refine G1 (oCl (zB (znu x.t)) rfl fn_113 ybz) ?_;refine G1 (oCl (zt1 _ _) rfl fn_29 ybB) ?_;refine G1 oN ?_;refine qaM ?_;refine zo (p:=¬x.b.l=zeb x.t) rfl yB (fun ht28=>?_) (fun ht28=>?_)
 ·
  refine qau ?_;exact zb rfl rfl (za rfl (by unfold zoI;rw[if_pos (.inr ht28)]))
 refine CSQR ?_;refine qad ?_;exact zb rfl rfl (za rfl (by unfold zoI;rw[if_neg (fun h=>h.elim g14 ht28)]))
theorem ask_root (x:Trial):Tells P 63 [.rptr zew x] (.val i64T (zqj x)):=by
 refine zc Tryz.func63 rfl rfl rfl (fun ext w hext=>?_);refine qch ?_;refine G0 (ze rfl rfl zaF) ?_;refine qbo ?_;refine G0 (oFr zkl zeK) ?_;refine G0 (ze rfl rfl zaF) ?_;refine G0 (zhy rfl rfl rfl (zpz)) ?_;refine GK.nil ?_;refine zo (p:=¬x.b.h=x.want) rfl yB (fun ht12=>?_) (fun ht12=>?_)
 ·
  refine qau ?_;exact zb rfl rfl (za rfl (by unfold zqj;rw[if_pos (ht12)]))
 refine CSQR ?_;refine qad ?_;exact zb rfl rfl (za rfl (by unfold zqj;rw[if_neg (ht12)]))
theorem ask_work (x:Trial):Tells P 64 [.rptr zew x] (.val i64T (zpZ x)):=by
 refine zc Tryz.func64 rfl rfl rfl (fun ext w hext=>?_);refine CQR ?_;refine qce ?_;refine A0 mR ?_;refine A0 (zbX rfl rfl) ?_;refine A0 (oFr zho zfL) ?_;refine A0 (oFr zaU zal) ?_;refine A0 (ze rfl rfl zaF) ?_;refine A0 (oCl (zgK _) rfl fn_42 ybz) ?_;refine qbj ?_;refine zo (p:=¬zat x.b.h=true) rfl yB (fun ht9=>?_) (fun ht9=>?_)
 ·
  refine qau ?_;exact zb rfl rfl (za rfl (by unfold zpZ;rw[if_pos (ht9)]))
 refine CSQR ?_;refine qad ?_;exact zb rfl rfl (za rfl (by unfold zpZ;rw[if_neg (ht9)]))
theorem ask_coins (x:Trial) (hx:zfc x):zee P 65 (.box 139 zew x) [.ptr 0 0] (.val i64T (zgP x)) (.box 139 zew (zsO x)):=by
 refine zeD trivial Tryz.func65 rfl rfl ⟨Nat.one_pos,trivial⟩ (fun ext pg w hext hgr=>?_);refine CQR ?_;refine qcj ?_;refine qbG ?_;refine G0 (oFp zmA) ?_;refine G0 (oFp zqN) ?_;refine G0 (oLb (zkE.comp zrl) zl6) ?_;refine qbG ?_;refine G0 (oFp zho) ?_;refine G0 (oFp zeQ) ?_;refine G0 (oLb (zfL.comp zcN) zl7) ?_;refine G0 (oCl (zcO (apply_ok x.t.c x.b.t (by have:=hx.1.2.2;omega))) rfl fn_115 yi) ?_;refine qbq ?_;refine CQR ?_;refine A0 mP ?_;refine qaw ?_;refine xb ?_;refine A0 (oFp zvO) ?_;refine zg rfl rfl rfl rfl rfl ztg zl6 rfl ?_;refine CNQR ?_;refine qaw ?_;refine qad ?_;exact zdk rfl rfl rfl rfl rfl (zbK rfl rfl) (zgk (zbK (x:=zsO x) rfl rfl) rfl rfl)
theorem zvN (x0:Trial) (l:List (Option Nat)) (hx0:zfc x0) (hl:∀f∈l,Asks f):zee P 66 (.box 139 zew x0) [.ptr 0 0,.val (bsl fnoT) l] (.val i64T (zhz l x0)) (.box 139 zew (zif l x0)):=by
 refine zeD trivial Tryz.func66 rfl rfl ⟨Nat.one_pos,⟨trivial,trivial⟩⟩ (fun ext pg w hext hgr=>?_);refine zf (d:=1) rfl zl (fun hsl1=>?_);refine CQR ?_;refine qam ?_;refine A0 (zO rfl rfl isl_143) ?_;refine qa0 ?_;refine Lp (ι:=Nat×Trial) 1 (fun (i:Nat×Trial)=>match i with|(k,x)=>((((Fr.none).set 0 (.ptr 0 0)).set 8 (.val (bsl fnoT) l)).set 9 (.val i64T (l.length:Int))).set 10 (.val i64T (k:Int))) (fun (i:Nat×Trial)=>match i with|(k,x)=>(Hp.none).set 0 (.box 139 zew x)) (fun (i:Nat×Trial)=>match i with|(k,x)=>k≤l.length∧zfc x∧zhz l x0=zhz (l.drop k) x∧zif l x0=zif (l.drop k) x) (fun (i:Nat×Trial)=>match i with|(k,x)=>l.length-k) ((0,x0)) (⟨uf _,hx0,rfl,rfl⟩) ?_;intro⟨k,x⟩ hinv;dsimp only at hinv;refine qal ?_;refine Cf (p:=k<l.length) (fun ht11=>?_) (fun ht11=>?_)
 ·
  obtain⟨f,hf⟩:∃f,l[k]?=some f:=ybr;have hask:=hl f (ud hf);rcases hask with he|he|he|he|he|he
  ·
   refine qa7 ?_;refine zj (d:=14) rfl he ?_;refine ze8 (d:=14) (f:=60) rfl ?_;refine A0 mP ?_;refine A0 (zgp (As:=[_]) (Cs:=[]) (ask_size x) rfl rfl fn_60 ybC yC trivial rfl) ?_;refine qaR ?_;refine qav ?_;refine zo (p:=¬zhE f x=0) rfl yaR (fun ht18=>?_) (fun ht18=>?_)
   ·
    refine qbb ?_;refine xA ?_;exact zdk rfl rfl rfl rfl rfl (zbK rfl (hinv.2.2.2.trans (zaJ hf ht18).2).symm) (zgk (zbK rfl (hinv.2.2.2.trans (zaJ hf ht18).2).symm) rfl yag)
   refine qaU ?_;refine xA ?_;exact Nx ((k+1,askX f x)) (⟨by omega,zcj hinv.2.1,hinv.2.2.1.trans (zbF hf (ua ht18)).1,hinv.2.2.2.trans (zbF hf (ua ht18)).2⟩) yab
  ·
   refine qa7 ?_;refine zj (d:=14) rfl he ?_;refine ze8 (d:=14) (f:=61) rfl ?_;refine A0 mP ?_;refine A0 (zgp (As:=[_]) (Cs:=[]) (ask_prev x) rfl rfl fn_61 ybC yC trivial rfl) ?_;refine qaR ?_;refine qav ?_;refine zo (p:=¬zhE f x=0) rfl yaR (fun ht18=>?_) (fun ht18=>?_)
   ·
    refine qbb ?_;refine xA ?_;exact zdk rfl rfl rfl rfl rfl (zbK rfl (hinv.2.2.2.trans (zaJ hf ht18).2).symm) (zgk (zbK rfl (hinv.2.2.2.trans (zaJ hf ht18).2).symm) rfl yag)
   refine qaU ?_;refine xA ?_;exact Nx ((k+1,askX f x)) (⟨by omega,zcj hinv.2.1,hinv.2.2.1.trans (zbF hf (ua ht18)).1,hinv.2.2.2.trans (zbF hf (ua ht18)).2⟩) yab
  ·
   refine qa7 ?_;refine zj (d:=14) rfl he ?_;refine ze8 (d:=14) (f:=62) rfl ?_;refine A0 mP ?_;refine A0 (zgp (As:=[_]) (Cs:=[]) (ask_link x hinv.2.1) rfl rfl fn_62 ybC yC trivial rfl) ?_;refine qaR ?_;refine qav ?_;refine zo (p:=¬zhE f x=0) rfl yaR (fun ht18=>?_) (fun ht18=>?_)
   ·
    refine qbb ?_;refine xA ?_;exact zdk rfl rfl rfl rfl rfl (zbK rfl (hinv.2.2.2.trans (zaJ hf ht18).2).symm) (zgk (zbK rfl (hinv.2.2.2.trans (zaJ hf ht18).2).symm) rfl yag)
   refine qaU ?_;refine xA ?_;exact Nx ((k+1,askX f x)) (⟨by omega,zcj hinv.2.1,hinv.2.2.1.trans (zbF hf (ua ht18)).1,hinv.2.2.2.trans (zbF hf (ua ht18)).2⟩) yab
  ·
   refine qa7 ?_;refine zj (d:=14) rfl he ?_;refine ze8 (d:=14) (f:=63) rfl ?_;refine A0 mP ?_;refine A0 (zgp (As:=[_]) (Cs:=[]) (ask_root x) rfl rfl fn_63 ybC yC trivial rfl) ?_;refine qaR ?_;refine qav ?_;refine zo (p:=¬zhE f x=0) rfl yaR (fun ht18=>?_) (fun ht18=>?_)
   ·
    refine qbb ?_;refine xA ?_;exact zdk rfl rfl rfl rfl rfl (zbK rfl (hinv.2.2.2.trans (zaJ hf ht18).2).symm) (zgk (zbK rfl (hinv.2.2.2.trans (zaJ hf ht18).2).symm) rfl yag)
   refine qaU ?_;refine xA ?_;exact Nx ((k+1,askX f x)) (⟨by omega,zcj hinv.2.1,hinv.2.2.1.trans (zbF hf (ua ht18)).1,hinv.2.2.2.trans (zbF hf (ua ht18)).2⟩) yab
  ·
   refine qa7 ?_;refine zj (d:=14) rfl he ?_;refine ze8 (d:=14) (f:=64) rfl ?_;refine A0 mP ?_;refine A0 (zgp (As:=[_]) (Cs:=[]) (ask_work x) rfl rfl fn_64 ybC yC trivial rfl) ?_;refine qaR ?_;refine qav ?_;refine zo (p:=¬zhE f x=0) rfl yaR (fun ht18=>?_) (fun ht18=>?_)
   ·
    refine qbb ?_;refine xA ?_;exact zdk rfl rfl rfl rfl rfl (zbK rfl (hinv.2.2.2.trans (zaJ hf ht18).2).symm) (zgk (zbK rfl (hinv.2.2.2.trans (zaJ hf ht18).2).symm) rfl yag)
   refine qaU ?_;refine xA ?_;exact Nx ((k+1,askX f x)) (⟨by omega,zcj hinv.2.1,hinv.2.2.1.trans (zbF hf (ua ht18)).1,hinv.2.2.2.trans (zbF hf (ua ht18)).2⟩) yab
  refine qa7 ?_;refine zj (d:=14) rfl he ?_;refine ze8 (d:=14) (f:=65) rfl ?_;refine A0 mP ?_;refine aw_calluv (ask_coins x hinv.2.1) rfl rfl fn_65 rfl trivial trivial rfl ⟨ye,trivial⟩ rfl rfl rfl ?_;refine qaR ?_;refine qav ?_;refine zo (p:=¬zhE f x=0) rfl yaR (fun ht18=>?_) (fun ht18=>?_)
  ·
   refine qbb ?_;refine xA ?_;exact zdk rfl rfl rfl rfl rfl (zbK rfl (hinv.2.2.2.trans (zaJ hf ht18).2).symm) (zgk (zbK rfl (hinv.2.2.2.trans (zaJ hf ht18).2).symm) rfl yag)
  refine qaU ?_;refine xA ?_;exact Nx ((k+1,askX f x)) (⟨by omega,zcj hinv.2.1,hinv.2.2.1.trans (zbF hf (ua ht18)).1,hinv.2.2.2.trans (zbF hf (ua ht18)).2⟩) yab
 refine CE ?_;refine qau ?_;exact zdk rfl rfl rfl rfl rfl (zbK rfl (hinv.2.2.2.trans (znS ya).2).symm) (zgk (zbK rfl (hinv.2.2.2.trans (znS ya).2).symm) rfl (hinv.2.2.1.trans (znS ya).1).symm)
def zdn (t:Tip) (b:Block):Int :=
  if 48≤b.h.height then 3 else if ¬zeS b.h=zeS (zcD t b.t b.h.nonce) then 5 else
  if ¬b.h.links=(zcD t b.t b.h.nonce).links∨¬b.l=zeb t then 6 else if ¬b.h=zcD t b.t b.h.nonce then 7 else
  if ¬zat b.h=true then 4 else (zZ t.c b.t).2
def zjh (t:Tip) (b:Block):Tip:=if zdn t b=0 then ⟨b,zas t.p (zbA b.h),(zZ t.c b.t).1⟩ else t
def zeV (t:Tip) (l:List Tx) (nonce:UInt64) (tries:Int):Int :=
  if 48≤(zcD t l nonce).height then 3 else if ¬(zZ t.c l).2=0 then (zZ t.c l).2 else if (zh3 (zcD t l nonce) tries).isSome=true then 0 else 4
def zsi (t:Tip) (l:List Tx) (nonce:UInt64) (tries:Int):Block :=
  if zeV t l nonce tries=0 then ⟨(zh3 (zcD t l nonce) tries).getD (zcD t l nonce),zeb t,l⟩ else zrs
theorem ask_two {x:Trial}:zhz [some 60,some 65] x=if 48≤x.b.h.height then 3 else (zZ x.t.c x.b.t).2:=by
  show(if zl9 x=0 then (if zgP x=0 then 0 else zgP x) else zl9 x)=_;unfold zl9 zgP;by_cases h:48≤x.b.h.height
  · rw[if_pos h,if_pos h,if_neg yn]
  rw[if_neg h,if_neg h,if_pos rfl];split<;>simp_all
theorem zkc {p:Prop} [Decidable p] {e r:Int} (he:e≠0):(if (if p then e else 0)=0 then r else (if p then e else 0))=if p then e else r:=by
  by_cases h:p
  · rw[if_pos h,if_pos h,if_neg he]
  rw[if_neg h,if_neg h,if_pos rfl]
theorem ask_all {t:Tip} {b:Block} {c:List Coin}:zhz [some 60,some 61,some 62,some 63,some 64,some 65] ⟨t,b,zcD t b.t b.h.nonce,c⟩=zdn t b:=by
  obtain⟨x,hx⟩:∃x:Trial,x=⟨t,b,zcD t b.t b.h.nonce,c⟩:=⟨_,rfl⟩;have e:zdn t b=zdn x.t x.b:=by rw[hx]
  have hw:x.want=zcD x.t x.b.t x.b.h.nonce:=by rw[hx]
  rw[e,←hx];show(if zl9 x=0 then (if zqk x=0 then (if zoI x=0 then (if zqj x=0 then (if zpZ x=0 then (if zgP x=0 then 0 else zgP x) else zpZ x) else zqj x) else zoI x) else zqk x) else zl9 x)=_;have hc:(if zgP x=0 then 0 else zgP x)=zgP x:=by split<;>simp_all
  rw[hc];unfold zl9 zqk zoI zqj zpZ zgP zdn;rw[zkc yn,zkc yn,zkc yn,zkc yn,zkc yn,hw]
theorem ask_allX {t:Tip} {b:Block} {c:List Coin} (h:zdn t b=0):(zif [some 60,some 61,some 62,some 63,some 64,some 65] ⟨t,b,zcD t b.t b.h.nonce,c⟩).c=(zZ t.c b.t).1:=by
  obtain⟨x,hx⟩:∃x:Trial,x=⟨t,b,zcD t b.t b.h.nonce,c⟩:=⟨_,rfl⟩;have hw:x.want=zcD x.t x.b.t x.b.h.nonce:=by rw[hx]
  have h:zdn x.t x.b=0:=by rw[hx];exact h
  have e:(zZ t.c b.t).1=(zZ x.t.c x.b.t).1:=by rw[hx]
  rw[e,←hx];show(if zl9 x=0 then (if zqk x=0 then (if zoI x=0 then (if zqj x=0 then (if zpZ x=0 then (if zgP x=0 then zsO x else zsO x) else x) else x) else x) else x) else x).c=_;unfold zdn at h;rw[←hw] at h;by_cases h1:48≤x.b.h.height
  · rw[if_pos h1] at h;exact absurd h yn
  rw[if_neg h1] at h;by_cases h2:¬zeS x.b.h=zeS x.want
  · rw[if_pos h2] at h;exact absurd h yn
  rw[if_neg h2] at h;by_cases h3:¬x.b.h.links=x.want.links∨¬x.b.l=zeb x.t
  · rw[if_pos h3] at h;exact absurd h yn
  rw[if_neg h3] at h;by_cases h4:¬x.b.h=x.want
  · rw[if_pos h4] at h;exact absurd h yn
  rw[if_neg h4] at h;by_cases h5:¬zat x.b.h=true
  · rw[if_pos h5] at h;exact absurd h yn
  rw[if_neg h5] at h;unfold zl9 zqk zoI zqj zpZ zgP;rw[if_neg h1,if_neg h2,if_neg h3,if_neg h4,if_neg h5,if_pos rfl,if_pos rfl,if_pos rfl,if_pos rfl,if_pos rfl,if_pos h];rfl
theorem asks_all:∀f∈([some 60,some 61,some 62,some 63,some 64,some 65]:List (Option Nat)),Asks f:=by intro f hf;simp at hf;unfold Asks;exact hf
theorem asks_two:∀f∈([some 60,some 65]:List (Option Nat)),Asks f:=by intro f hf;simp at hf;unfold Asks;rcases hf with h|h<;>simp[h]
theorem mineBE_err {t:Tip} {l:List Tx} {nonce:UInt64} {tries:Int} (h:¬(if 48≤(zcD t l nonce).height then 3 else (zZ t.c l).2)=0):zeV t l nonce tries=(if 48≤(zcD t l nonce).height then 3 else (zZ t.c l).2):=by
  unfold zeV
  split
  · rfl
  rename_i h1;rw[if_neg h1] at h;rw[if_pos h]
theorem ztM {t:Tip} {l:List Tx} {nonce:UInt64} {tries:Int} (h:(if 48≤(zcD t l nonce).height then 3 else (zZ t.c l).2)=0) (h2:¬(zh3 (zcD t l nonce) tries).isSome=true):zeV t l nonce tries=4:=by
  unfold zeV
  split
  · rename_i h1;rw[if_pos h1] at h;exact absurd h yn
  rename_i h1;rw[if_neg h1] at h;simp only[h,h2,not_true_eq_false,if_false]
theorem mineBE_ok {t:Tip} {l:List Tx} {nonce:UInt64} {tries:Int} (h:(if 48≤(zcD t l nonce).height then 3 else (zZ t.c l).2)=0) (h2:(zh3 (zcD t l nonce) tries).isSome=true):zeV t l nonce tries=0:=by
  unfold zeV
  split
  · rename_i h1;rw[if_pos h1] at h;exact absurd h yn
  rename_i h1;rw[if_neg h1] at h;simp only[h,h2,not_true_eq_false,if_false]
theorem push_ok (t:Tip) (b:Block) (ht:zfW t) (hb:zfX b):Tells P 20 [.val tipT t,.val zH b] (.tup2 (.val tipT (zjh t b)) (.val i64T (zdn t b))):=by
 have hbt:=hb.2.1;have htp:=ht.2.1;refine zc Tryz.func20 rfl rfl rfl (fun ext w hext=>?_);refine qax ?_;refine zq zl3 rfl rfl rfl rfl ?_;refine qaA ?_;refine zC [some 1,some 1,some 1,some 1,some 1,some 1,some 1,some 1,some 1,some 1,none,some 1] mixed yc ?_;refine X0 (oLs rfl rfl rfl zd6) ?_;refine X0 (oLs rfl rfl rfl zdO) ?_;refine X0 (oLs rfl rfl rfl zd6) ?_;refine X0 (oFp zeQ) ?_;refine X0 (oLb zcN zl7) ?_;refine X0 (oFp zaU) ?_;refine X0 (oFp zig) ?_;refine X0 (oLb (zal.comp zcM) zco) ?_;refine X0 (oCl (zvb t b.t b.h.nonce ya ya) rfl fn_59 yJ) ?_;refine X0 (zu rfl ze_139 bd_139 (.cons zmA zkE zd6 rfl (.cons zho zfL zdO rfl (.cons zkl zeK zaF rfl .nil))) rfl) ?_;refine XK.e (fun fr' hfr kk H=>by exact zgU rfl rfl rfl rfl ((hfr 18 yc).trans rfl) (zr H)) ?_;refine X0 aP ?_;refine XK.nil' ?_;refine CQR ?_;refine A0 (zvA (xs:=[_,_,_,_,_,_]) rfl ar_141 ze_141 ⟨rfl,⟨_,rfl,rfl⟩,rfl,⟨_,rfl,rfl⟩,rfl,⟨_,rfl,rfl⟩,rfl,⟨_,rfl,rfl⟩,rfl,⟨_,rfl,rfl⟩,rfl,⟨_,rfl,rfl⟩,trivial⟩ rfl) ?_;refine zq ze_141 rfl rfl rfl rfl ?_;refine zg rfl rfl rfl rfl rfl (Lens.self _) ty_141 rfl ?_;refine CNQ ?_;refine CQ ?_;refine zci (d:=7) rfl rfl (Lens.self _) ?_;refine CR ?_;refine A0 mP ?_;refine A0 (zic rfl rfl ar_141 rfl rfl) ?_;refine zgf (zvN ⟨t,b,zcD t b.t b.h.nonce,[]⟩ [some 60,some 61,some 62,some 63,some 64,some 65] ⟨ht,by show b.t.length≤4000000000000;omega⟩ asks_all) rfl fn_66 rfl trivial trivial rfl ybD rfl rfl rfl ?_;refine zj (d:=23) rfl ask_all ?_;refine qag ?_;refine qbz ?_;refine zo (p:=¬zdn t b=0) rfl yO (fun ht25=>?_) (fun ht25=>?_)
 ·
  refine CQR ?_;refine xz ?_;refine A0 (oCl (own_ok t ht) rfl fn_67 yd) ?_;refine qaw ?_;refine qbh ?_;refine qad ?_;exact zp rfl rfl (zx rfl rfl zd6 (by unfold zjh;rw[if_neg ht25])) (zad (za rfl (rfl)))
 refine CS ?_;refine CQ ?_;refine zC [some 1,some 1,some 1,some 1,some 1,some 1,some 1,some 1,some 1,some 1,some 1,some 1,some 1,none,some 1] mixed yc ?_;refine X0 (oLs rfl rfl rfl zdO) ?_;refine X0 (oCl (zsM b hb) rfl fn_68 yd) ?_;refine X0 (oFp zle) ?_;refine X0 (oLb zlt zox) ?_;refine X0 (oFp zaU) ?_;refine X0 (oLb zal zaF) ?_;refine X0 (oCl (zvl _) rfl fn_56 yd) ?_;refine X0 (oCl (zB (zlO t.p (zbA b.h) ya)) rfl fn_55 yi) ?_;refine X0 mP ?_;refine xe ?_;refine X0 (oFp zvO) ?_;refine X0 (oLb ztg zl6) ?_;refine X0 (zu rfl zl3 zug (.cons zc5 zc6 zdO rfl (.cons zle zlt zox rfl (.cons zqN zrl zl6 rfl .nil))) rfl) ?_;refine XK.e (x:=.idk) (fun fr' hfr kk H=>by exact zg rfl rfl rfl ((hfr 4 yc).trans rfl) rfl (Lens.self _) zd6 ((hfr 41 yc).trans rfl) (zr H)) ?_;refine X0 aV ?_;refine XK.nil' ?_;exact zp rfl rfl (zx rfl rfl zd6 (by unfold zjh;rw[if_pos (ua ht25),ask_allX (ua ht25)])) (zad (za rfl ((ua ht25).symm)))
theorem mineB_ok (t:Tip) (l:List Tx) (nonce:UInt64) (tries:Int) (ht:zfW t) (hl:zrS l):Tells P 97 [.val tipT t,.val (sl txT) l,.val u64T nonce,.val i64T tries] (.tup2 (.val zH (zsi t l nonce tries)) (.val i64T (zeV t l nonce tries))):=by
 have hbt:=hl.1;have htp:=ht.2.1;refine zc Tryz.func97 rfl rfl rfl (fun ext w hext=>?_);refine zf (d:=1) rfl zl (fun hsl1=>?_);refine zf (d:=3) rfl zt (fun hin3=>?_);refine qai ?_;refine zq zmJ rfl rfl rfl rfl ?_;refine qa4 ?_;refine xz ?_;refine qaq ?_;refine A0 (oCl (zvb t l nonce ya ya) rfl fn_59 yJ) ?_;refine qct ?_;refine qaS ?_;refine CNQR ?_;refine xz ?_;refine qbU ?_;refine qaw ?_;refine A0 (zu rfl zmJ bd_36 (.cons zaU zal zaF rfl (.cons zeQ zcN zl7 rfl .nil)) rfl) ?_;refine qbU ?_;refine A0 (zu rfl ze_139 bd_139 (.cons zmA zkE zd6 rfl (.cons zho zfL zdO rfl (.cons zkl zeK zaF rfl .nil))) rfl) ?_;refine xc ?_;refine A0 aP ?_;refine CNQQR ?_;refine A0 mP ?_;refine A0 (g_bslF (xs:=[_,_]) rfl sl_143 row_143 ⟨rfl,⟨_,rfl,rfl⟩,rfl,⟨_,rfl,rfl⟩,trivial⟩ rfl rfl) ?_;refine zgf (zvN ⟨t,⟨zcD t l nonce,[],l⟩,zcD t l nonce,[]⟩ [some 60,some 65] ⟨ht,by show l.length≤4000000000000;omega⟩ asks_two) rfl fn_66 rfl trivial trivial rfl ybD rfl rfl rfl ?_;refine zj (d:=27) rfl ask_two ?_;refine qag ?_;refine qbz ?_;refine zo (p:=¬(if 48≤(zcD t l nonce).height then 3 else (zZ t.c l).2)=0) rfl yO (fun ht29=>?_) (fun ht29=>?_)
 ·
  have hE:zeV t l nonce tries=(if 48≤(zcD t l nonce).height then 3 else (zZ t.c l).2):=mineBE_err ht29;refine CQR ?_;refine A0 (zu rfl zmJ bd_36 .nil rfl) ?_;refine qaw ?_;refine qbT ?_;refine qad ?_;exact zp rfl rfl (zx rfl rfl zdO (by unfold zsi;rw[hE,if_neg ht29])) (zad (za rfl (hE.symm)))
 refine CSQR ?_;refine qbU ?_;refine qaw ?_;refine A0 (oCl (mine_ok (zcD t l nonce) tries) rfl fn_154 yi) ?_;refine qaQ ?_;refine qaS ?_;refine qam ?_;refine qbj ?_;refine zo (p:=¬(zh3 (zcD t l nonce) tries).isSome=true) rfl (by cases (zh3 (zcD t l nonce) tries).isSome<;>rfl) (fun ht39=>?_) (fun ht39=>?_)
 ·
  have hE:zeV t l nonce tries=4:=ztM (ua ht29) ht39;refine CQR ?_;refine A0 (zu rfl zmJ bd_36 .nil rfl) ?_;refine qbT ?_;refine qad ?_;exact zp rfl rfl (zx rfl rfl zdO (by unfold zsi;rw[hE];rfl)) (zad (za rfl (hE.symm)))
 have hE:zeV t l nonce tries=0:=mineBE_ok (ua ht29) (ua ht39);refine CS ?_;refine CQ ?_;refine xj ?_;refine X0 (oLs rfl rfl rfl zaF) ?_;refine X0 (oLs rfl rfl rfl zd6) ?_;refine X0 (oCl (zB (znu t)) rfl fn_113 yd) ?_;refine X0 mV ?_;refine X0 (oCl (zB (txs_ok l hl)) rfl fn_117 yd) ?_;refine X0 (zu rfl zmJ bd_36 (.cons zaU zal zaF rfl (.cons zdW zb2 zcy rfl (.cons zeQ zcN zl7 rfl .nil))) rfl) ?_;refine XK.e (x:=.idk) (fun fr' hfr kk H=>by exact zg rfl rfl rfl ((hfr 8 yc).trans rfl) rfl (Lens.self _) zdO ((hfr 46 yc).trans rfl) (zr H)) ?_;refine X0 aV ?_;refine XK.nil' ?_;exact zp rfl rfl (zx rfl rfl zdO (by unfold zsi;rw[hE,if_pos rfl])) (zad (za rfl (hE.symm)))
def s2:Ab.Id:=[219,193,180,201,0,255,228,141,87,91,93,165,198,56,4,1,37,246,93,176,254,62,36,73,75,118,234,152,100,87,217,134]
def s4:Ab.Id:=[229,45,156,80,140,80,35,71,52,77,140,7,173,145,203,214,6,138,252,117,255,98,146,240,98,160,156,163,129,200,158,113]
def id0:Ab.Id:=[204,117,100,156,217,35,11,173,35,93,199,149,159,68,227,45,148,39,20,174,85,27,122,223,187,132,2,33,173,199,16,195]
def lk0:Ab.Id:=[191,122,202,251,39,175,213,3,220,82,240,192,217,1,99,0,242,60,209,156,152,127,176,94,46,148,67,11,109,16,112,47]
def ziT:Head:=⟨0,zId,s2,s2,s4,zav,545259519,0⟩
def zt6 (n:UInt64):Head:=⟨1,id0,lk0,s2,id0,[2,0,0,0],545259519,n⟩
theorem sum_s2:zfr [2]=s2:=yq
theorem sum_s4:zfr [4]=s4:=yq
theorem zqh:zhx []=s2:=by rw[zhx,if_pos (show([]:List Ab.Id).length=0 from rfl),sum_s2]
theorem zuY (x:Ab.Id):zhx [x]=x:=by rw[zhx,if_neg (show ¬[x].length=0 by simp),dif_pos (show [x].length≤1 by simp)];rfl
theorem easy_first:zf4 545259519=ziT:=by
  have e1:zct []=s2:=zqh;have e2:zrH []=s2:=zqh;have e3:(za0 []).h=s4:=sum_s4;unfold zf4;rw[e1,e2,e3];rfl
theorem zqW:zag ziT=id0:=yq
theorem easy_work:zcb ziT=[2,0,0,0]:=yq
theorem easy_level:zK ziT=31:=yq
theorem zqV:za6 545259519=true:=yq
theorem easy_lk:zvk id0=lk0:=yq
theorem easy_may0:zat (zt6 0)=false:=yq
theorem znY:zat (zt6 1)=true:=yq
def few (t:Tx):Bool:=decide (t.ins.length≤6∧t.outs.length≤6)
theorem few_ok (t:Tx):Tells P 50 [.val txT t] (.val zn (few t)):=by
 refine zc Tryz.func50 rfl rfl rfl (fun ext w hext=>?_);refine qai ?_;refine qa4 ?_;refine qbf ?_;refine A0 zh2 ?_;refine Sp (d:=6) (p:=t.ins.length≤6) (fun g6=>?_) (fun g6=>?_)
 ·
  refine qaw ?_;refine qbX ?_;refine A1 (zO rfl rfl zeO) ?_;refine A1 zh2 ?_;refine qaD ?_;exact zb rfl rfl (za rfl yaQ)
 refine qaw ?_;refine qbA ?_;refine qaD ?_;exact zb rfl rfl (za rfl yaQ)
theorem fewAll_ok (l:List Tx) (m:Int):Tells P 17 [.val (bsl txT) l,.val i64T m] (.val zn (l.all few&&decide ((l.length:Int)≤m))):=by
 refine zc Tryz.func17 rfl rfl rfl (fun ext w hext=>?_);refine zf (d:=0) rfl zl (fun hsl0=>?_);refine zf (d:=1) rfl zt (fun hin1=>?_);refine CQR ?_;refine qce ?_;refine A0 aV ?_;refine CNB ?_;refine Lp (ι:=Nat) 0 (fun (k:Nat)=>(((Fr.none).set 0 (.val (bsl txT) l)).set 1 (.val i64T m)).set 5 (.val i64T (k:Int))) (fun (k:Nat)=>Hp.none) (fun (k:Nat)=>k≤l.length∧(l.take k).all few=true) (fun (k:Nat)=>l.length-k) (0) (⟨uf _,rfl⟩) ?_;intro k hinv;refine CQQR ?_;refine qaq ?_;refine qcq ?_;refine qaT ?_;refine Cf (p:=k<l.length) (fun ht10=>?_) (fun ht10=>?_)
 ·
  obtain⟨t,ht⟩:∃t,l[k]?=some t:=⟨_,ub ht10⟩;refine CSQBQR ?_;refine qaq ?_;refine A0 (zbM rfl rfl rfl zm4 yj) ?_;refine A0 (ze rfl rfl zgx) ?_;refine A0 (oCl (few_ok _) rfl fn_50 ybz) ?_;refine qag ?_;refine qbj ?_;refine zo (p:=¬few t=true) rfl yB (fun ht19=>?_) (fun ht19=>?_)
  ·
   refine qau ?_;exact zb rfl rfl (za rfl (by symm;rw[Bool.and_eq_false_iff];left;rw[List.all_eq_false];exact⟨t,ud ht,ht19⟩))
  refine CSIR ?_;refine qaW ?_;refine qad ?_;exact Nx (k+1) (⟨by omega,by rw[un,ht,List.all_append,hinv.2];simp[ua ht19]⟩) ya
 refine CE ?_;refine qa6 ?_;refine qcq ?_;refine qaw ?_;refine A0 zh2 ?_;refine qad ?_;exact zb rfl rfl (za rfl (by rw[uc ya] at hinv;rw[hinv.2,Bool.true_and];rfl))
def leaf0:Total:=leafT id0 [2,0,0,0]
def zeR:Tip:=⟨⟨ziT,[],[]⟩,[leaf0],[]⟩
def zbv:Block:=⟨zt6 1,[id0],[]⟩
def leaf1:Total:=zbA (zt6 1)
def zvR:Tip:=⟨zbv,zas [leaf0] leaf1,[]⟩
theorem easy_leaf:zbA ziT=leaf0:=by unfold zbA leaf0;rw[zqW,easy_work]
theorem zqT:zar 545259519=zeR:=by unfold zar;rw[if_pos zqV,easy_first,easy_leaf];rfl
theorem zlg:zeb zeR=[id0]:=by
  show zbJ [] (zag ziT) (zK ziT)=_;rw[zqW];unfold zbJ;rw[if_neg (show ¬32<([]:List Ab.Id).length by decide),if_pos (show([]:List Ab.Id).length=0 from rfl)]
theorem znX (n:UInt64):zcD zeR [] n=zt6 n:=by
  have e1:zct [id0]=lk0:=(zuY _).trans easy_lk;have e2:zrH []=s2:=zqh;unfold zcD;rw[zlg,e1,e2];show(⟨_,zag ziT,_,_,_,_,_,_⟩:Head)=_;rw[zqW];rfl
theorem zsL:zh3 (zt6 0) 200=some (zt6 1):=by
  unfold zh3;rw[zj8 yn (by rw[easy_may0];decide)];exact zh4 yn znY
theorem zol:zZ [] []=([],0):=yq
theorem zpB:zeV zeR [] 0 200=0:=by
  unfold zeV;rw[znX,if_neg yn,show(zZ zeR.c []).2=0 from congrArg (·.2) zol,if_neg yn,zsL];rfl
theorem easy_mineB:zsi zeR [] 0 200=zbv:=by
  unfold zsi;rw[zpB,if_pos rfl,znX,zsL,zlg];rfl
theorem zpA:zdn zeR zbv=0:=by
  unfold zdn;have e:zcD zeR zbv.t zbv.h.nonce=zbv.h:=znX 1;rw[e,if_neg yn,if_neg yB,if_neg (by rw[zlg];simp[zbv]),if_neg yB,if_neg (by rw[show zat zbv.h=true from znY];simp)];exact congrArg (·.2) zol
theorem easy_pushT:zjh zeR zbv=zvR:=by
  unfold zjh;rw[zpA,if_pos rfl,show(zZ zeR.c zbv.t).1=[] from congrArg (·.1) zol];rfl
theorem ztx:zfX zbv:=by refine⟨by decide,by decide,fun t ht=>by cases ht⟩
def fewB (b:Block):Bool:=(b.t.all few&&decide ((b.t.length:Int)≤6))&&decide (b.l.length≤40)
theorem eq_u32 {x y:UInt32}:decide (IntL.toI u32T x=IntL.toI u32T y)=decide (x=y):=by rw[uo];show((x.toNat:Nat):Int)=((y.toNat:Nat):Int)↔_;rw[Int.ofNat_inj,UInt32.toNat_inj]
theorem zr9:∀(r:List Total) (x:Total),(zgF r x).length≤r.length+1
  | [],_=>ug _
  | y::r,x=>by
    rw[zgF]
    split
    · have:=zr9 r (zfv y x);rw[List.length_cons];omega
    rw[List.length_cons];omega
theorem zqy {p:List Total} {x:Total}:(zas p x).length≤p.length+1:=by
  unfold zas
  have:=zr9 p.reverse x
  rw[List.length_reverse] at this ⊢;exact this
theorem apply_may {p:List Coin} {l:List Tx} (h:(zZ p l).2=0):zaO p=true:=by
  refine Classical.byContradiction fun hn=>?_
  unfold zZ at h;rw[if_pos hn] at h;exact absurd h (show ¬(1:Int)=0 by decide)
theorem ziA {t:Tip} {b:Block}:zdn t b=0↔b.h.height<48∧b.h=zcD t b.t b.h.nonce∧b.l=zeb t∧zat b.h=true∧(zZ t.c b.t).2=0:=by
  constructor
  · intro h
    unfold zdn at h;by_cases h1:48≤b.h.height
    · rw[if_pos h1] at h;exact absurd h yn
    rw[if_neg h1] at h;by_cases h2:¬zeS b.h=zeS (zcD t b.t b.h.nonce)
    · rw[if_pos h2] at h;exact absurd h yn
    rw[if_neg h2] at h;by_cases h3:¬b.h.links=(zcD t b.t b.h.nonce).links∨¬b.l=zeb t
    · rw[if_pos h3] at h;exact absurd h yn
    rw[if_neg h3] at h;by_cases h4:¬b.h=zcD t b.t b.h.nonce
    · rw[if_pos h4] at h;exact absurd h yn
    rw[if_neg h4] at h;by_cases h5:¬zat b.h=true
    · rw[if_pos h5] at h;exact absurd h yn
    rw[if_neg h5] at h;exact⟨by omega,ua h4,ua fun hc=>h3 (.inr hc),ua h5,h⟩
  rintro ⟨h1,h2,h3,h4,h5⟩
  unfold zdn;rw[if_neg ya,if_neg (Classical.not_not.2 (congrArg zeS h2)),if_neg (fun h=>h.elim (fun h=>h (congrArg (·.links) h2)) fun h=>h h3),if_neg (Classical.not_not.2 h2),if_neg (Classical.not_not.2 h4)];exact h5
theorem zei {a:UInt32} (h:za6 a=true):zar a=⟨⟨zf4 a,[],[]⟩,[zbA (zf4 a)],[]⟩:=by unfold zar;rw[if_pos h];rfl
theorem zmq {t:Tip} {b:Block} (h:zdn t b=0):zjh t b=⟨b,zas t.p (zbA b.h),(zZ t.c b.t).1⟩:=by unfold zjh;rw[if_pos h]
def zgY (x:Total):Prop:=x.w.length=4∧-9223372036854775808≤x.n∧x.n≤9223372036854775807
theorem wrap_q (n:Int):∃q,IntKind.i64.wrap n=n+18446744073709551616*q∧-9223372036854775808≤IntKind.i64.wrap n∧IntKind.i64.wrap n≤9223372036854775807:=by
  have h:=zcY.1 (zi6 n);refine⟨(IntKind.i64.wrap n-n)/18446744073709551616,?_,h⟩;simp only[IntKind.wrap,IntKind.signed,IntKind.bits];simp
  split<;>omega
def nS (l:List Total):Nat:=(l.map fun x=>nW x.w).sum
def iS (l:List Total):Int:=(l.map (·.n)).sum
theorem zsr {y x:Total} (hy:zgY y) (hx:zgY x):zgY (zfv y x):=⟨ze9 hy.1 hx.1,(wrap_q _).choose_spec.2⟩
theorem zvo {y x:Total} (hy:zgY y) (hx:zgY x):nW (zfv y x).w=(nW y.w+nW x.w)%W256∧∃q,(zfv y x).n=y.n+x.n+18446744073709551616*q:=⟨zpm hy.1 hx.1,let ⟨q,h,_⟩:=wrap_q (y.n+x.n);⟨q,h⟩⟩
theorem zlH:∀{r:List Total} {x:Total},(∀y∈r,zgY y)→zgY x→zgY (zbQ r x)∧nW (zbQ r x).w=(nS r+nW x.w)%W256∧∃q,(zbQ r x).n=iS r+x.n+18446744073709551616*q
  | [],x,_,hx=>⟨hx,by have:=nW_lt hx.1;show nW x.w=(0+nW x.w)%W256;unfold W256 at *;omega,0,by show x.n=0+x.n+_;omega⟩
  | y::r,x,hr,hx=>by
    have hy:=hr y yB;obtain⟨h1,h2,q,h3⟩:=zlH (r:=r) (fun z hz=>hr z (by simp[hz])) (zsr hy hx);obtain⟨h4,q',h5⟩:=zvo hy hx;refine⟨h1,?_,q+q',?_⟩
    · show nW (zbQ r (zfv y x)).w=(nS (y::r)+nW x.w)%W256
      have e:nS (y::r)=nW y.w+nS r:=by unfold nS;simp
      rw[h2,h4,e];unfold W256;omega
    show(zbQ r (zfv y x)).n=iS (y::r)+x.n+_;have e:iS (y::r)=y.n+iS r:=by unfold iS;simp
    rw[h3,h5,e];omega
theorem znk:∀{r:List Total} {x:Total},(∀y∈r,zgY y)→zgY x→(∀y∈zgF r x,zgY y)∧nS (zgF r x)%W256=(nS r+nW x.w)%W256∧∃q,iS (zgF r x)=iS r+x.n+18446744073709551616*q
  | [],x,_,hx=>⟨fun y hy=>by simp[zgF] at hy;rw[hy];exact hx,by simp[zgF,nS],0,by simp[zgF,iS]⟩
  | y::r,x,hr,hx=>by
    have hy:=hr y yB;have e:nS (y::r)=nW y.w+nS r:=by unfold nS;simp
    have e':iS (y::r)=y.n+iS r:=by unfold iS;simp
    rw[zgF]
    split
    · obtain⟨h1,h2,q,h3⟩:=znk (r:=r) (fun z hz=>hr z (by simp[hz])) (zsr hy hx)
      obtain⟨h4,q',h5⟩:=zvo hy hx;refine⟨h1,?_,q+q',?_⟩
      · rw[h2,h4,e];unfold W256;omega
      rw[h3,h5,e'];omega
    refine⟨fun z hz=>?_,?_,0,?_⟩
    · rcases List.mem_cons.1 hz with h|h
      · rw[h];exact hx
      exact hr z h
    · have:nS (x::y::r)=nW x.w+(nW y.w+nS r):=by unfold nS;simp
      rw[this,e];congr 1;omega
    have:iS (x::y::r)=x.n+(y.n+iS r):=by unfold iS;simp
    rw[this,e'];omega
theorem zr5 {r:List Total} (hr:∀y∈r,zgY y):zgY (za0 r.reverse)∧nW (za0 r.reverse).w=nS r%W256∧∃q,(za0 r.reverse).n=iS r+18446744073709551616*q:=by
  unfold za0;rw[List.reverse_reverse];cases r with
  | nil=>exact⟨⟨rfl,by decide,by decide⟩,rfl,0,rfl⟩
  | cons x r =>
    obtain⟨h1,h2,q,h3⟩:=zlH (r:=r) (fun z hz=>hr z (by simp[hz])) (hr x yB);refine⟨h1,?_,q,?_⟩
    · show nW (zbQ r x).w=_
      rw[h2];unfold nS;simp;congr 1;omega
    show(zbQ r x).n=_;rw[h3];unfold iS;simp;omega
theorem zeC (h:Head):(zcb h).length=4:=by
  unfold zcb
  split
  · unfold zpY
    split
    · refine ze9 ?_ rfl
      unfold divW divP
      split
      · rfl
      simp only[]
      have:∀(b:Wide) (n:Nat) (x:Wide×Wide),x.2.length=4→(divN b n x).2.length=4:=fun b n=>by
        induction n with
        | zero=>intro x hx;exact hx
        | succ n ih =>
          intro x hx;rw[divN];refine ih _ ?_;unfold zij
          split
          · simp only[zj1,List.length_set];exact hx
          exact hx
      exact this _ _ _ rfl
    rfl
  rfl
theorem append_sum {p:List Total} {h:Head} (hp:∀x∈p,zgY x):(za0 (zas p (zbA h))).w=addW (za0 p).w (zcb h)∧(za0 (zas p (zbA h))).n=IntKind.i64.wrap ((za0 p).n+1):=by
  have hr:∀x∈p.reverse,zgY x:=fun x hx=>hp x (by simpa using hx)
  have hx:zgY (zbA h):=⟨zeC h,by show(-9223372036854775808:Int)≤1;decide,by show(1:Int)≤9223372036854775807;decide⟩;obtain⟨a1,a2,q1,a3⟩:=znk hr hx;obtain⟨b1,b2,q2,b3⟩:=zr5 a1;obtain⟨c1,c2,q3,c3⟩:=zr5 hr;rw[List.reverse_reverse] at c1 c2 c3
  constructor
  · refine nW_inj b1.1 (ze9 c1.1 (zeC h)) ?_
    rw[zpm c1.1 (zeC h),c2];show nW (za0 (zgF p.reverse (zbA h)).reverse).w=_;rw[b2,a2];show(nS p.reverse+nW (zcb h))%W256=_;unfold W256;omega
  show(za0 (zgF p.reverse (zbA h)).reverse).n=_;obtain⟨q4,d1,d2⟩:=wrap_q ((za0 p).n+1);have e:(zbA h).n=1:=rfl
  have:=b1.2
  omega
def zaw:Tip→List Block→Tip×Int
  | t,[]=>(t,0)
  | t,b::l=>if zdn t b=0 then zaw (zjh t b) l else (zTip,zdn t b)
def zM (l:List Block):Tip×Int :=
  match l with
  | []=>(zTip,9)
  | g::r=>if za6 g.h.bits=true∧(zar g.h.bits).b=g then zaw (zar g.h.bits) r else (zTip,12)
def zoO (l:List Block) (t:List Tx) (nonce:UInt64):Int:=if (zM l).2=0 then zeV (zM l).1 t nonce 200 else (zM l).2
def zkd (l:List Block) (t:List Tx) (nonce:UInt64):List Block:=if zoO l t nonce=0 then l++[zsi (zM l).1 t nonce 200] else l
def zk (l:List Block):List Int:=l.map fun b=>zK b.h
def zQ (l:List Block):List Total:=l.map fun b=>zbA b.h
def zhR (l:List Block):Prop:=l.length*232≤140737488351232∧∀b∈l,zfX b
def Chain (l:List Block) (t:Tip):Prop:=zM l=(t,0)
theorem zku:∀{l m:List Block} {t:Tip},zaw t (l++m)=if (zaw t l).2=0 then zaw (zaw t l).1 m else zaw t l
  | [],m,t=>by simp[zaw]
  | b::l,m,t=>by
    rw[List.cons_append,zaw,zaw];by_cases h:zdn t b=0
    · rw[if_pos h,if_pos h];exact zku
    rw[if_neg h,if_neg h,if_neg h]
theorem zjv {l m:List Block} (h:¬l=[]):zM (l++m)=if (zM l).2=0 then zaw (zM l).1 m else zM l:=by
  cases l with
  | nil=>exact absurd rfl h
  | cons g r =>
    rw[List.cons_append];unfold zM;simp only[];by_cases h:za6 g.h.bits=true∧(zar g.h.bits).b=g
    · rw[if_pos h,if_pos h];exact zku
    rw[if_neg h,if_neg h];rfl
theorem zkv {l:List Block} (h:(zM l).2=0):¬l=[]:=fun e=>by rw[e] at h;exact absurd h yn
theorem zsU {l:List Block} {b:Block} (h:(zM l).2=0):zM (l++[b])=if zdn (zM l).1 b=0 then (zjh (zM l).1 b,0) else (zTip,zdn (zM l).1 b):=by
  rw[zjv (zkv h),if_pos h];rfl
theorem ze6 {l:List Block} (h:(zM l).2=0):Chain l (zM l).1:=by unfold Chain;rw[←h]
theorem zim {b:Block} {t:Tip} (h:Chain [b] t):za6 b.h.bits=true∧b=⟨zf4 b.h.bits,[],[]⟩∧t=zar b.h.bits:=by
  unfold Chain zM at h;simp only[] at h;by_cases c:za6 b.h.bits=true∧(zar b.h.bits).b=b
  · rw[if_pos c] at h
    refine⟨c.1,?_,(congrArg (·.1) h).symm⟩
    have:=c.2
    rw[zei c.1] at this;exact this.symm
  rw[if_neg c] at h;exact absurd (congrArg (·.2) h) (by show ¬(12:Int)=0;decide)
theorem chain_snoc {l:List Block} {b:Block} {t:Tip} (hl:¬l=[]) (h:Chain (l++[b]) t):∃t',Chain l t'∧zdn t' b=0∧t=zjh t' b:=by
  unfold Chain at h;rw[zjv hl] at h;by_cases c:(zM l).2=0
  · rw[if_pos c] at h
    rw[zaw] at h;by_cases d:zdn (zM l).1 b=0
    · rw[if_pos d,zaw] at h
      exact⟨_,ze6 c,d,(congrArg (·.1) h).symm⟩
    rw[if_neg d] at h;exact absurd (congrArg (·.2) h) d
  rw[if_neg c] at h;exact absurd (congrArg (·.2) h) c
theorem zkw {P:List Block→Tip→Prop} (h1:∀bits,za6 bits=true→P [⟨zf4 bits,[],[]⟩] (zar bits)) (h2:∀l t b,Chain l t→P l t→zdn t b=0→P (l++[b]) (zjh t b)):∀(n:Nat) (l:List Block) (t:Tip),l.length=n→Chain l t→P l t
  | 0,l,t,hn,h=>absurd (List.eq_nil_of_length_eq_zero hn) (zkv (congrArg (·.2) h))
  | n+1,l,t,hn,h=>by
    have hl:¬l=[]:=fun e=>by rw[e] at hn;cases hn
    obtain⟨r,b,rfl⟩:∃r b,l=r++[b]:=⟨l.dropLast,l.getLast hl,(List.dropLast_concat_getLast hl).symm⟩;by_cases hr:r=[]
    · subst hr
      obtain⟨e1,e2,e3⟩:=zim h;rw[e3,List.nil_append]
      have:=h1 b.h.bits e1
      rw[←e2] at this;exact this
    obtain⟨t',e1,e2,e3⟩:=chain_snoc hr h;rw[e3];exact h2 _ _ _ e1 (zkw h1 h2 n r t' (by simp at hn;omega) e1) e2
theorem zch {l:List Block} {t:Tip} (h:Chain l t):l.getLast?=some t.b∧t.b.h.height=(l.length:Int)-1∧l.length≤48∧t.p=(zQ l).foldl zas []∧(∃g,l[0]?=some g∧t.b.h.bits=g.h.bits):=by
  refine zkw (P:=fun l t=>l.getLast?=some t.b∧t.b.h.height=(l.length:Int)-1∧l.length≤48∧t.p=(zQ l).foldl zas []∧(∃g,l[0]?=some g∧t.b.h.bits=g.h.bits)) (fun bits hb=>?_) (fun l t b hc hi hp=>?_) l.length l t rfl h
  · rw[zei hb]
    exact⟨rfl,rfl,Nat.le_of_ble_eq_true rfl,rfl,_,rfl,rfl⟩
  obtain⟨i1,i2,i3,i4,g,i5,i6⟩:=hi;obtain⟨p1,p2,_⟩:=ziA.1 hp;have hne:0<l.length:=List.length_pos_iff.2 (zkv (congrArg (·.2) hc));have e:b.h.height=IntKind.i64.wrap (t.b.h.height+1):=congrArg (·.height) p2;rw[i2,zaz ya] at e;rw[zmq hp];refine⟨by simp,?_,?_,?_,g,?_,?_⟩
  · show b.h.height=_
    rw[e,ue,List.length_singleton];omega
  · rw[ue,List.length_singleton];omega
  · show zas t.p (zbA b.h)=_
    rw[i4];unfold zQ;rw[List.map_append,List.foldl_append];rfl
  · rw[List.getElem?_append_left hne];exact i5
  show b.h.bits=_;rw[show b.h.bits=t.b.h.bits from congrArg (·.bits) p2,i6]
theorem zgQ {l:List Block} {t:Tip} {i:Nat} (h:Chain l t) (hi:1≤i) (hl:i≤l.length):∃t',Chain (l.take i) t'∧zaw t' (l.drop i)=(t,0):=by
  have hne:¬l.take i=[]:=fun e=>by have:=congrArg List.length e;rw[um] at this;change min i l.length=0 at this;omega
  have h0:zM (l.take i++l.drop i)=(t,0):=by rw[List.take_append_drop];exact h
  rw[zjv hne] at h0;by_cases c:(zM (l.take i)).2=0
  · rw[if_pos c] at h0;exact⟨_,ze6 c,h0⟩
  rw[if_neg c] at h0;exact absurd (congrArg (·.2) h0) c
theorem zq4 {l:List Block} {t:Tip} {i:Nat} {b:Block} (h:Chain l t) (hi:1≤i) (hb:l[i]?=some b):∃t',Chain (l.take i) t'∧zdn t' b=0∧l[i-1]?=some t'.b:=by
  obtain⟨hl,e⟩:=ul.1 hb;obtain⟨t',h1,h2⟩:=zgQ h hi (Nat.le_of_lt hl);rw[List.drop_eq_getElem_cons hl,e,zaw] at h2;refine⟨t',h1,?_,?_⟩
  · by_cases c:zdn t' b=0
    · exact c
    rw[if_neg c] at h2;exact absurd (congrArg (·.2) h2) c
  have:=(zch h1).1
  have h5:(l.take i)[i-1]?=l[i-1]?:=by rw[List.getElem?_take];split<;>first|rfl|omega
  rw[List.getLast?_eq_getElem?,um,Nat.min_eq_left (Nat.le_of_lt hl),h5] at this;exact this
theorem zhP {t:Tip} (h1:t.b.l=[]) (h2:t.b.t=[]) (h3:Nat.ble t.p.length 1=true) (h4:t.c=[]):zfW t:=by
  have:=Nat.le_of_ble_eq_true h3
  refine⟨⟨by rw[h1];decide,by rw[h2];decide,fun x hx=>by rw[h2] at hx;cases hx⟩,by omega,by rw[h4];decide⟩
def zrR (t:Tip) (n:Nat):Prop:=zfW t∧t.p.length≤n+1∧t.b.h.height=n
theorem znj {t:Tip} {b:Block} {n:Nat} (ht:zrR t n) (hn:n≤1000000000000) (hb:zfX b) (h:zdn t b=0):zrR (zjh t b) (n+1):=by
  obtain⟨h6,h7,_,_,h5⟩:=ziA.1 h;rw[zmq h];have h1:=zqy (p:=t.p) (x:=zbA b.h);have h2:=zeA (zum (l:=b.t) (apply_may h5)).1;obtain⟨_,h3,h4⟩:=ht;have e:b.h.height=IntKind.i64.wrap (t.b.h.height+1):=congrArg (·.height) h7;rw[h4,zaz ya] at e;refine⟨⟨hb,?_,?_⟩,?_,?_⟩
  · show(zas t.p (zbA b.h)).length≤1000
    omega
  · show(zZ t.c b.t).1.length≤1000
    omega
  · show(zas t.p (zbA b.h)).length≤n+1+1
    omega
  show b.h.height=_;rw[e];omega
theorem znR {bits:UInt32}:zrR (zar bits) 0:=by
  by_cases h:za6 bits=true
  · rw[zei h];exact⟨zhP rfl rfl rfl rfl,Nat.le_of_ble_eq_true rfl,rfl⟩
  have:zar bits=zTip:=by unfold zar;rw[if_neg h]
  rw[this];exact⟨zhP rfl rfl rfl rfl,Nat.le_of_ble_eq_true rfl,rfl⟩
theorem zil:∀{l:List Block} {t:Tip} {n:Nat},zrR t n→n+l.length≤1000000000000→(∀b∈l,zfX b)→zfW (zaw t l).1
  | [],t,n,ht,_,_=>ht.1
  | b::l,t,n,ht,hn,hl=>by
    rw[zaw];rw[List.length_cons] at hn
    split
    · rename_i h
      exact zil (znj ht ya (hl b yB) h) ya fun x hx=>hl x (by simp[hx])
    exact zhP rfl rfl rfl rfl
theorem zt8 {l:List Block} (h:zhR l):zfW (zM l).1:=by
  cases l with
  | nil=>exact zhP rfl rfl rfl rfl
  | cons g r =>
    unfold zM;simp only[]
    split
    · refine zil znR ?_ fun x hx=>h.2 x (by simp[hx])
      have:=h.1
      rw[List.length_cons] at this;omega
    exact zhP rfl rfl rfl rfl
def zbV (v:Nat→Int) (n:Int):Nat→Nat
  | 0=>0
  | i+1=>if 1≤i∧n≤v i∧0<n then i else zbV v n i
theorem zh7 {v u:Nat→Int} {n:Int}:∀{i:Nat},(∀k,k<i→v k=u k)→zbV v n i=zbV u n i
  | 0,_=>rfl
  | i+1,h=>by
    rw[zbV,zbV,h i ya,zh7 (i:=i) fun k hk=>h k ya]
theorem znz {v:Nat→Int} {n:Int}:∀{i:Nat},zbV v n i<i∨zbV v n i=0
  | 0=>.inr rfl
  | i+1=>by
    rw[zbV]
    split
    · left;omega
    have:=znz (v:=v) (n:=n) (i:=i);omega
def zbr (l:List Block) (k:Nat):Int:=(l[k]?.map fun b=>zK b.h).getD 0
def idAt (l:List Block) (k:Nat):Ab.Id:=(l[k]?.map fun b=>zag b.h).getD []
def Linked (l:List Block) (L:List Ab.Id):Prop:=1≤L.length∧L.length≤32∧L[0]?=some (idAt l 0)∧∀n:Nat,1≤n→n≤31→(n<L.length→0<zbV (zbr l) n l.length∧L[n]?=some (idAt l (zbV (zbr l) n l.length)))∧(L.length≤n→zbV (zbr l) n l.length=0)
theorem zrf {l:List Block} {b:Block} {k:Nat} (h:k<l.length):zbr (l++[b]) k=zbr l k∧idAt (l++[b]) k=idAt l k:=by
  unfold zbr idAt;rw[List.getElem?_append_left h];exact⟨rfl,rfl⟩
theorem at_last {l:List Block} {b:Block}:zbr (l++[b]) l.length=zK b.h∧idAt (l++[b]) l.length=zag b.h:=by
  unfold zbr idAt;rw[List.getElem?_append_right (ug _),Nat.sub_self];exact⟨rfl,rfl⟩
theorem ztN {l:List Block} {L:List Ab.Id} {b:Block} (hl:1≤l.length) (h:Linked l L):Linked (l++[b]) (zbJ L (zag b.h) (zK b.h)):=by
  obtain⟨h1,h2,h3,h4⟩:=h;have e0:idAt (l++[b]) 0=idAt l 0:=(zrf ya).2;have la:∀n:Nat,zbV (zbr (l++[b])) n (l++[b]).length=if n≤zK b.h∧(0:Int)<n then l.length else zbV (zbr l) n l.length:=fun n=>by
    rw[ue,List.length_singleton,zbV,(at_last (l:=l) (b:=b)).1,zh7 fun k hk=>(zrf hk).1];by_cases c:(n:Int)≤zK b.h∧(0:Int)<n
    · rw[if_pos c,if_pos ⟨hl,c.1,c.2⟩]
    rw[if_neg c,if_neg fun x=>c ⟨x.2.1,x.2.2⟩]
  have ll:∀n:Nat,zbV (zbr l) n l.length<l.length:=fun n=>by
    have:=znz (v:=zbr l) (n:=n) (i:=l.length);omega
  unfold zbJ;rw[if_neg ya,if_neg ya];by_cases c:zK b.h<1
  · rw[if_pos c]
    refine⟨h1,h2,by rw[e0];exact h3,fun n hn hn'=>?_⟩;rw[la n,if_neg ya];rw[(zrf (ll n)).2];exact h4 n hn hn'
  rw[if_neg c];obtain⟨m,hm⟩:∃m,m=(min (zK b.h) 31).toNat:=⟨_,rfl⟩;rw[←hm];have hm1:1≤m∧m≤31:=ya;have hlen:(L.take 1++List.replicate m (zag b.h)++L.drop (m+1)).length=max (m+1) L.length:=by
    simp only[ue,um,List.length_replicate,List.length_drop];omega
  have ht1:(L.take 1).length=1:=ybd;have get_lo:∀n:Nat,1≤n→n≤m→(L.take 1++List.replicate m (zag b.h)++L.drop (m+1))[n]?=some (zag b.h):=fun n hn hn'=>by
    rw[List.append_assoc,List.getElem?_append_right ya,List.getElem?_append_left (by rw[List.length_replicate];omega),List.getElem?_replicate,if_pos ya]
  have get_hi:∀n:Nat,m<n→(L.take 1++List.replicate m (zag b.h)++L.drop (m+1))[n]?=L[n]?:=fun n hn=>by
    rw[List.getElem?_append_right (by simp only[ue,ht1,List.length_replicate];omega),List.getElem?_drop];congr 1;simp only[ue,ht1,List.length_replicate];omega
  refine⟨by rw[hlen];omega,by rw[hlen];omega,?_,fun n hn hn'=>?_⟩
  · rw[List.append_assoc,List.getElem?_append_left ya,List.getElem?_take,e0];simpa using h3
  rw[hlen,la n];by_cases d:n≤m
  · rw[if_pos ya,get_lo n hn d,(at_last (l:=l) (b:=b)).2]
    exact⟨fun _=>⟨by omega,rfl⟩,fun h=>by omega⟩
  rw[if_neg ya,get_hi n ya,(zrf (ll n)).2];obtain⟨a1,a2⟩:=h4 n hn hn';exact⟨fun h=>a1 ya,fun h=>a2 ya⟩
theorem zoa {l:List Block} {t:Tip} (h:Chain l t):Linked l (zeb t):=by
  refine zkw (P:=fun l t=>Linked l (zeb t)) (fun bits hb=>?_) (fun l t b hc hi hp=>?_) l.length l t rfl h
  · rw[zei hb]
    show Linked _ (zbJ [] (zag (zf4 bits)) _);unfold zbJ;rw[if_neg yn,if_pos (show([]:List Ab.Id).length=0 from rfl)];refine⟨Nat.le_of_ble_eq_true rfl,Nat.le_of_ble_eq_true rfl,rfl,fun n hn hn'=>⟨fun h=>?_,fun _=>rfl⟩⟩;rw[List.length_singleton] at h;omega
  have e : zeb (zjh t b) = zbJ (zeb t) (zag b.h) (zK b.h) := by
    rw[zmq hp];show zbJ b.l _ _=_;rw[(ziA.1 hp).2.2.1]
  rw[e];exact ztN (List.length_pos_iff.2 (zkv (congrArg (·.2) hc))) hi
theorem ztQ {l:List Block} {i:Nat} (h:i≤l.length) (n:Int):zbV (zbr (l.take i)) n (l.take i).length=zbV (zbr l) n i:=by
  rw[um,Nat.min_eq_left h];refine zh7 fun k hk=>?_
  unfold zbr;rw[List.getElem?_take,if_pos hk]
theorem zsw {l:List Block} {i k:Nat} (h:k<i):idAt (l.take i) k=idAt l k:=by
  unfold idAt;rw[List.getElem?_take,if_pos h]
theorem zlZ {l:List Block} {t:Tip} {i:Nat} {b:Block} (h:Chain l t) (hi:1≤i) (hb:l[i]?=some b):b.l[0]?=some (idAt l 0)∧∀n:Nat,n≤31→(n<b.l.length→b.l[n]?=some (idAt l (zbV (zbr l) n i))∧(n=0∨0<zbV (zbr l) n i))∧(b.l.length≤n→zbV (zbr l) n i=0):=by
  obtain⟨t',h1,h2,h3⟩:=zq4 h hi hb;obtain⟨hl,_⟩:=ul.1 hb;have e:b.l=zeb t':=(ziA.1 h2).2.2.1;obtain⟨a1,a2,a3,a4⟩:=zoa h1;rw[←e] at a1 a2 a3 a4;rw[zsw ya] at a3;refine⟨a3,fun n hn=>?_⟩;by_cases hn0:n=0
  · subst hn0
    have z:zbV (zbr l) ((0:Nat):Int) i=0:=by
      have:∀j,zbV (zbr l) ((0:Nat):Int) j=0:=fun j=>by
        induction j with
        | zero=>rfl
        | succ j ih=>rw[zbV,if_neg ya];exact ih
      exact this i
    rw[z];exact⟨fun _=>⟨a3,.inl rfl⟩,fun _=>rfl⟩
  obtain⟨b1,b2⟩:=a4 n ya hn;rw[ztQ ya] at b1 b2;have hlt:zbV (zbr l) n i<i:=by have:=znz (v:=zbr l) (n:=n) (i:=i);omega
  rw[zsw hlt] at b1;exact⟨fun h=>⟨(b1 h).2,.inr (b1 h).1⟩,b2⟩
theorem zt9 {l:List Block} {t:Tip} (h:Chain l t):(∀x∈t.p,zgY x)∧(za0 t.p).n=l.length:=by
  refine zkw (P:=fun l t=>(∀x∈t.p,zgY x)∧(za0 t.p).n=l.length) (fun bits hb=>?_) (fun l t b hc hi hp=>?_) l.length l t rfl h
  · rw[zei hb]
    refine⟨fun x hx=>?_,rfl⟩;rw[List.mem_singleton.1 hx];exact⟨zeC _,by show(-9223372036854775808:Int)≤1;decide,by show(1:Int)≤9223372036854775807;decide⟩
  have hlen:=(zch hc).2.2.1;rw[zmq hp];obtain⟨i1,i2⟩:=hi;refine⟨fun x hx=>?_,?_⟩
  · have hr:∀y∈t.p.reverse,zgY y:=fun y hy=>i1 y (by simpa using hy)
    have hg:zgY (zbA b.h):=⟨zeC _,by show(-9223372036854775808:Int)≤1;decide,by show(1:Int)≤9223372036854775807;decide⟩;refine(znk hr hg).1 x ?_;have hx:x∈zas t.p (zbA b.h):=hx;unfold zas at hx;simpa using hx
  show(za0 (zas t.p (zbA b.h))).n=_;rw[(append_sum i1).2,i2,zaz ya,ue,List.length_singleton];omega
theorem zcE {l:List Block} {i:Nat}:zQ (l.take i)=(zQ l).take i:=by unfold zQ;rw[List.map_take]
theorem zb5 {l:List Block} {t:Tip} {i:Nat} {b a g:Block} (h:Chain l t) (hi:1≤i) (hb:l[i]?=some b) (ha:l[i-1]?=some a) (hg:l[0]?=some g):b.h.height=i∧b.h.prev=zag a.h∧b.h.past=(za0 (((zQ l).take i).foldl zas [])).h∧b.h.work=(za0 (((zQ l).take i).foldl zas [])).w∧(za0 (((zQ l).take i).foldl zas [])).n=i∧b.h.bits=g.h.bits∧b.h.links=zct b.l∧zat b.h=true:=by
  obtain⟨t',h1,h2,h3⟩:=zq4 h hi hb;obtain⟨hl,_⟩:=ul.1 hb;obtain⟨c1,c2,c3,c4,g',c5,c6⟩:=zch h1;obtain⟨_,p2,p3,p4,_⟩:=ziA.1 h2;have hlt:(l.take i).length=i:=ybd;rw[zcE] at c4;rw[ha] at h3;injection h3 with h3;rw[List.getElem?_take,if_pos ya,hg] at c5;injection c5 with c5;rw[←c4];refine⟨?_,?_,congrArg (·.past) p2,congrArg (·.work) p2,?_,?_,?_,p4⟩
  · rw[show b.h.height=IntKind.i64.wrap (t'.b.h.height+1) from congrArg (·.height) p2,c2,hlt,zaz ya];omega
  · rw[h3];exact congrArg (·.prev) p2
  · rw[(zt9 h1).2,hlt]
  · rw[c5,←c6];exact congrArg (·.bits) p2
  rw[p3];exact congrArg (·.links) p2
def zcZ:Block:=⟨ziT,[],[]⟩
theorem zhp:zM [zcZ]=(zeR,0):=by
  unfold zM;simp only[];have e:zar zcZ.h.bits=zeR:=zqT;rw[e,if_pos ⟨zqV,rfl⟩];rfl
theorem easy_growE:zoO [zcZ] [] 0=0:=by
  unfold zoO;rw[zhp,if_pos rfl];exact zpB
theorem easy_grown:zkd [zcZ] [] 0=[zcZ,zbv]:=by
  unfold zkd;rw[easy_growE,if_pos rfl,zhp,easy_mineB];rfl
theorem zt5:zM [zcZ,zbv]=(zvR,0):=by
  rw[show [zcZ,zbv]=[zcZ]++[zbv] from rfl,zsU (by rw[zhp]),zhp,zpA,if_pos rfl,easy_pushT]
theorem zt4:decide (0≤zK zbv.h)=true:=yq
theorem easy_nz:decide (zag zbv.h=zId)=false:=yq
theorem zlC:zfX zcZ:=by refine⟨by decide,by decide,fun t ht=>by cases ht⟩
theorem zrQ:zhR [zcZ]:=⟨by decide,fun b hb=>by rw[List.mem_singleton.1 hb];exact zlC⟩
theorem ztw:zhR [zcZ,zbv]:=⟨by decide,fun b hb=>by
  rcases List.mem_cons.1 hb with h|h
  · rw[h];exact zlC
  rw[List.mem_singleton.1 h];exact ztx⟩
def fewC (l:List Block):Bool:=l.all fewB&&decide ((l.length:Int)≤50)
theorem fewC_len {l:List Block} (h:fewC l=true):l.length≤50:=by
  unfold fewC at h;rw[uk,uj] at h;omega
end Go.Proofs.YticippfoekpkhaaGreat
