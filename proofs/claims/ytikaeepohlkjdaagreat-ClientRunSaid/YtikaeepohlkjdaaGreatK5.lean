/- Parts of the proof: the layer that reads Go values as data, and what the functions of the program tell. -/
import Derived.Test.YtikaeepohlkjdaaGreatK4
set_option linter.unusedVariables false
set_option linter.unusedSimpArgs false
set_option maxRecDepth 20000
namespace Go.Proofs.YtikaeepohlkjdaaGreat
open Go.Ab Go.RowKit
def zne (a:Wide):Nat→Nat
  | 0=>0
  | k+1=>if 0<(a.getD k default).toNat then k*64+zaJ (a.getD k default).toNat else zne a k
def longW (a:Wide):Nat:=zne a 4
theorem longN_yes {a:Wide} {k:Nat} (hk:0<k) (h:0<(a.getD (k-1) default).toNat):zne a k=(k-1)*64+zaJ (a.getD (k-1) default).toNat:=by
  obtain⟨j,rfl⟩:∃j,k=j+1:=⟨k-1,by omega⟩;rw[Nat.add_sub_cancel] at *;rw[zne,ut h]
theorem longN_no {a:Wide} {k:Nat} (hk:0<k) (h:¬0<(a.getD (k-1) default).toNat):zne a k=zne a (k-1):=by
  obtain⟨j,rfl⟩:∃j,k=j+1:=⟨k-1,by omega⟩;rw[Nat.add_sub_cancel] at *;rw[zne,ur h]
theorem zvp (a:Wide):∀k,zne a k≤k*64
  | 0=>ug _
  | k+1=>by
    have:=zvp a k
    have hb:=zgG (s:=64) (n:=(a.getD k default).toNat) (UInt64.toNat_lt _);rw[zne]
    split<;>omega
theorem zvo (a:Wide):longW a≤256:=zvp a 4
theorem bitLen_pos {n:Nat} (h:0<n):1≤zaJ n:=by unfold zaJ;rw[ur ya];omega
theorem longW_pos {a:Wide} (hl:a.length=4) (h:a≠zc6):1≤longW a:=by
  match a,hl with
  | [a0,a1,a2,a3],_ =>
    unfold longW;simp only[zne,List.getD_cons_succ,List.getD_cons_zero];have hp:∀x:UInt64,0<x.toNat→1≤zaJ x.toNat:=fun x hx=>bitLen_pos hx
    have hz:∀x:UInt64,¬0<x.toNat→x=0:=fun x hx=>UInt64.toNat_inj.1 yK
    split
    · have:=hp _ ‹_›;omega
    split
    · have:=hp _ ‹_›;omega
    split
    · have:=hp _ ‹_›;omega
    split
    · have:=hp _ ‹_›;omega
    exact absurd (by rw[hz a0 ‹_›,hz a1 ‹_›,hz a2 ‹_›,hz a3 ‹_›];rfl) h
def ztN (out:Wide) (n:Nat):Wide:=out.set (n/64) (out.getD (n/64) default|||zlR 1 (n%64))
def zjk (b:Wide) (x:Wide×Wide) (n:Nat):Wide×Wide:=if subOk x.1 (upW b n)=true then (subW x.1 (upW b n),ztN x.2 n) else x
def divN (b:Wide):Nat→Wide×Wide→Wide×Wide
  | 0,x=>x
  | n+1,x=>divN b n (zjk b x n)
theorem zqV {b:Wide} {n:Int} (h:0≤n) (x:Wide×Wide):divN b (n+1).toNat x=divN b (n-1+1).toNat (zjk b x n.toNat):=by
  rw[show(n+1).toNat=n.toNat+1 by omega,show(n-1+1).toNat=n.toNat by omega,divN]
def divP (a b:Wide):Wide×Wide:=if b=zc6 then (zc6,zc6) else ((divN b (longW a+1-longW b) (a,zc6)).2,(divN b (longW a+1-longW b) (a,zc6)).1)
def divW (a b:Wide):Wide:=(divP a b).1
def remW (a b:Wide):Wide:=(divP a b).2
def divOk (b:Wide):Bool:=decide (b≠zc6)
theorem zvn (a:Wide):Tells P 324 [.val zaC a] (.val i64T (longW a:Nat)):=by
 refine zd Tryz.func324 rfl rfl rfl (fun ext w hext=>?_);refine ze (d:=0) rfl zeN (fun ha=>?_);refine qah ?_;refine qbO ?_;refine qcq ?_;refine Lp (ι:=Nat) 1 (fun (k:Nat)=>((Fr.none).set 1 (.ptr 0 0)).set 3 (.val i64T ((k:Int)-1))) (fun (k:Nat)=>(Hp.none).set 0 (.box 52 zaC a)) (fun (k:Nat)=>k≤4∧longW a=zne a k) (fun (k:Nat)=>k) (4) (⟨ug _,rfl⟩) ?_;intro k hinv;refine qbQ ?_;refine qcs ?_;refine Cf (p:=0<k) (fun ht5=>?_) (fun ht5=>?_)
 ·
  refine qaR ?_;refine A0 (zD (i:=k-1) rfl rfl rfl yp zcA ya) ?_;refine A0 (zr rfl rfl rfl (Lens.elem (i:=k-1) ya u64T) zct) ?_;refine qcL ?_;refine zn (p:=0<(a.getD (k-1) default).toNat) rfl (by rw[uo];show(0:Int)<((a.getD (k-1) default).toNat:Int)↔_;omega) (fun ht11=>?_) (fun ht11=>?_)
  ·
   have hb:=zgG (s:=64) (n:=(a.getD (k-1) default).toNat) (UInt64.toNat_lt _);refine qaE ?_;refine A0 zoA ?_;refine qa7 ?_;refine A0 (zD (i:=k-1) rfl rfl rfl yp zcA ya) ?_;refine A0 (zr rfl rfl rfl (Lens.elem (i:=k-1) ya u64T) zct) ?_;refine A0 (oCl (zvs _) rfl fn_224 yd) ?_;refine A0 zdl ?_;refine qae ?_;exact zb rfl rfl (za rfl (by rw[hinv.2,longN_yes ht5 ht11];omega))
  refine CSIR ?_;refine qcO ?_;refine qae ?_;refine zi (d:=3) (y:=((k-1:Nat):Int)-1) rfl ya ?_;exact Nx (k-1) (⟨by omega,by rw[hinv.2,longN_no ht5 ht11]⟩) ya
 obtain rfl:k=0:=ya;refine qcM ?_;exact zb rfl rfl (za rfl (by rw[hinv.2];rfl))
theorem divW_ok (a b:Wide):Tells P 277 [.val zaC a,.val zaC b] (.tup3 (.val zaC (divW a b)) (.val zaC (remW a b)) (.val zl (divOk b))):=by
 refine zd Tryz.func277 rfl rfl rfl (fun ext w hext=>?_);refine ze (d:=0) rfl zeN (fun ha=>?_);refine ze (d:=1) rfl zeN (fun hb=>?_);refine qaA ?_;refine qbd ?_;refine qbd ?_;refine qbO ?_;refine qbH ?_;refine A0 (zgZ rfl zcA zpP rfl) ?_;refine A0 (ziU rfl rfl rfl (eqt_52)) ?_;refine CN ?_;refine zn (p:=b=zc6) rfl yA (fun ht13=>?_) (fun ht13=>?_)
 ·
  refine CQR ?_;refine A0 (zgZ rfl zcA zpP rfl) ?_;refine A0 (zgZ rfl zcA zpP rfl) ?_;refine qaz ?_;refine qaz ?_;refine qae ?_;exact zwh rfl rfl (zs rfl rfl zaO (by unfold divW divP;rw[ut ht13])) (zs rfl rfl zaO (by unfold remW divP;rw[ut ht13])) (zQ (za rfl (by unfold divOk;symm;exact uh (fun h=>h ht13))))
 have hz:=longW_pos hb ht13;have hla:=zvo a;have hlb:=zvo b;refine CSQR ?_;refine qbd ?_;refine CNQ ?_;refine qb0 ?_;refine G0 (oLs rfl rfl rfl zaO) ?_;refine G0 (oCl (zvn _) rfl fn_324 yd) ?_;refine G0 (oLs rfl rfl rfl zaO) ?_;refine G0 (oCl (zvn _) rfl fn_324 yd) ?_;refine G0 zbT ?_;refine qbs ?_;refine CB ?_;refine Lp (ι:=Int×Wide×Wide) 5 (fun(n,x)=>(((((Fr.none.set 2 (.ptr 0 0)).set 3 (.ptr 1 0)).set 4 (.ptr 2 0)).set 5 (.ptr 3 0)).set 7 (.ptr 4 0)).set 8 (.val i64T n)) (fun(n,x)=>((((Hp.none.set 0 (.box 52 zaC x.1)).set 1 (.box 52 zaC b)).set 2 (.box 52 zaC zc6)).set 3 (.box 52 zaC zc6)).set 4 (.box 52 zaC x.2)) (fun(n,x)=>n≤255∧-256≤n∧x.2.length=4∧divN b (n+1).toNat x=divN b (longW a+1-longW b) (a,zc6)) (fun(n,x)=>(n+1).toNat) (((longW a:Int)-(longW b:Int),a,zc6)) (⟨by omega,by omega,rfl,by rw[show((longW a:Int)-(longW b:Int)+1).toNat=longW a+1-longW b by omega]⟩) ?_;intro⟨n,x⟩ hinv;dsimp only at hinv;refine qbQ ?_;refine qcs ?_;refine Cf (p:=0≤n) (fun ht22=>?_) (fun ht22=>?_)
 ·
  refine qcH ?_;refine CB ?_;refine CQ ?_;refine xv ?_;refine XK.gf (t:=2) rfl rfl (fun _ he=>zr rfl rfl he (Lens.self _) zaO) ⟨rfl,trivial⟩ rfl rfl rfl ?_;refine XK.gf (t:=3) rfl rfl (fun _ he=>zr rfl rfl he (Lens.self _) zaO) ⟨rfl,trivial⟩ rfl rfl rfl ?_;refine XK.ga (fun _=>g_mv (.inl rfl) rfl) rfl rfl rfl ?_;refine XK.ga (fun _=>zd1 (upW_ok _ _) rfl fn_176 ye rfl) rfl rfl rfl ?_;refine XK.ga (fun _=>zd1 (subW_ok _ _) rfl fn_325 ye rfl) rfl rfl rfl ?_;refine XK.ga yh rfl rfl rfl ?_;refine XK.ga yap rfl rfl rfl ?_;refine XK.ga yR rfl rfl rfl ?_;refine XK.e (fun fr' hfr kk H=>by exact zq zpP rfl rfl rfl rfl (zt H)) ?_;refine XK.e (x:=.idk) (fun fr' hfr kk H=>by exact zg rfl rfl rfl ((hfr 9 yc).trans rfl) rfl (Lens.self _) zaO ((hfr 31 yc).trans rfl) (zt H)) ?_;refine X0 aV ?_;refine XK.nilp ⟨yE,yE,trivial⟩ ?_;refine qaE ?_;refine CN ?_;refine zn (p:=subOk x.1 (upW b n)=true) rfl yA (fun ht33=>?_) (fun ht33=>?_)
  ·
   refine qcE ?_;refine xj ?_;refine X0 mV ?_;refine X0 (g_quo rfl rfl rfl ybH (by first|decide|omega) rfl) ?_;refine X0 (zD (i:=n.toNat/64) rfl rfl rfl yp zcA ya) ?_;refine X0 (zr rfl rfl rfl (Lens.elem (i:=n.toNat/64) ya u64T) zct) ?_;refine X0 mV ?_;refine X0 (g_rem rfl rfl rfl ybH (by first|decide|omega) rfl) ?_;refine X0 (zkY rfl rfl rfl ym rfl) ?_;refine X0 (zsJ rfl rfl rfl) ?_;refine X0 (zD (i:=n.toNat/64) rfl rfl rfl yp zcA ya) ?_;refine XK.e (x:=.idk) (fun fr' hfr kk H=>by exact zg rfl rfl rfl ((hfr 43 yc).trans rfl) rfl (Lens.elem (i:=n.toNat/64) ya u64T) zct ((hfr 42 yc).trans rfl) (zt H)) ?_;refine XK.nil' ?_;refine CI ?_;refine CR ?_;refine qcO ?_;refine qae ?_;refine zF (n:=4) (y:=ztN x.2 n.toNat) rfl (by unfold ztN;rw[show(IntL.toI i64T (n%64)).toNat=n.toNat%64 by simp only[IntL.toI,id_eq];omega];rfl) ?_;exact Nx ((n-1,subW x.1 (upW b n),ztN x.2 n.toNat)) y7 (by show(n-1+1).toNat<(n+1).toNat;omega)
  refine CSIR ?_;refine qcO ?_;refine qae ?_;exact Nx ((n-1,x)) y7 (by show(n-1+1).toNat<(n+1).toNat;omega)
 refine CE ?_;refine CQ ?_;refine zA [some 1,some 1000001,none,none,some 1] mixed yc ?_;refine xr ?_;refine XK.gf (t:=2) rfl rfl (fun _ he=>zr rfl rfl he (Lens.self _) zaO) ⟨rfl,trivial⟩ rfl rfl rfl ?_;refine XK.e (x:=.idk) (fun fr' hfr kk H=>by exact zg rfl rfl rfl ((hfr 4 yc).trans rfl) rfl (Lens.self _) zaO ((hfr 44 yc).trans rfl) (zt H)) ?_;refine XK.e (x:=.idk) (fun fr' hfr kk H=>by exact zg rfl rfl rfl ((hfr 5 yc).trans rfl) rfl (Lens.self _) zaO ((hfr 45 yc).trans rfl) (zt H)) ?_;refine X0 aV ?_;refine XK.nilp ⟨yE,trivial⟩ ?_;exact zwh rfl rfl (zs rfl rfl zaO (by unfold divW divP;rw[ur ht13,←hinv.2.2.2,show(n+1).toNat=0 by omega];rfl)) (zs rfl rfl zaO (by unfold remW divP;rw[ur ht13,←hinv.2.2.2,show(n+1).toNat=0 by omega];rfl)) (zQ (za rfl (by unfold divOk;symm;exact ui ht13)))
set_option maxRecDepth 20000
def zdi (f:Int→Bool) (lo hi:Nat):Nat :=
  if h:lo<hi then (if f (((lo+hi)/2:Nat):Int)=true then zdi f lo ((lo+hi)/2) else zdi f ((lo+hi)/2+1) hi) else lo
termination_by hi-lo
theorem zrO {f:Int→Bool} {lo hi:Nat} (h:lo<hi) (hf:¬f (((lo+hi)/2:Nat):Int)=true):zdi f lo hi=zdi f ((lo+hi)/2+1) hi:=by
  rw[zdi,dif_pos h,ur hf]
theorem zoV {f:Int→Bool} {lo hi:Nat} (h:lo<hi) (hf:f (((lo+hi)/2:Nat):Int)=true):zdi f lo hi=zdi f lo ((lo+hi)/2):=by
  conv=>lhs;rw[zdi,dif_pos h,ut hf]
theorem search_end {f:Int→Bool} {lo:Nat}:zdi f lo lo=lo:=by rw[zdi,dif_neg (Nat.lt_irrefl _)]
def zvr (n t:Wide) (k:Int):Bool:=decide (0<cmpW n (downW t k))
def levelW (id:Ab.Id) (t:Wide):Int:=(zdi (zvr (zlU id) t) 0 32:Nat)-1
theorem zmP {f:Int→Bool} (lo hi:Nat) (h:lo≤hi):zdi f lo hi≤hi:=by
  rw[zdi]
  split
  · split
    · have:=zmP (f:=f) lo ((lo+hi)/2) ya;omega
    exact zmP _ _ ya
  exact h
termination_by hi-lo
theorem search_ok (n:Nat) (f:Int→Bool) (hn:n<4611686018427387904):Tells P 244 [.val i64T (n:Int),.fn1 P i64T zl f] (.val i64T (zdi f 0 n:Nat)):=by
 refine zd Tryz.func244 rfl rfl rfl (fun ext w hext=>?_);refine ze (d:=0) rfl zu (fun hin0=>?_);refine CQR ?_;refine qaL ?_;refine A0 aV ?_;refine qaQ ?_;refine CB ?_;refine Lp (ι:=Nat×Nat) 0 (fun (i:Nat×Nat)=>match i with|(lo,hi)=>(((Fr.none).set 1 (.fn1 P i64T zl f)).set 5 (.val i64T (lo:Int))).set 6 (.val i64T (hi:Int))) (fun (i:Nat×Nat)=>match i with|(lo,hi)=>Hp.none) (fun (i:Nat×Nat)=>match i with|(lo,hi)=>lo≤hi∧hi≤n∧zdi f 0 n=zdi f lo hi) (fun (i:Nat×Nat)=>match i with|(lo,hi)=>hi-lo) ((0,n)) (⟨uf _,ug _,rfl⟩) ?_;intro⟨lo,hi⟩ hinv;dsimp only at hinv;refine CQQR ?_;refine qav ?_;refine qbr ?_;refine Cf (p:=lo<hi) (fun ht11=>?_) (fun ht11=>?_)
 ·
  refine CS ?_;refine CB ?_;refine CQR ?_;refine qav ?_;refine A0 zdl ?_;refine xe ?_;refine xf ?_;refine A0 (znx rfl (ui_3) (us_234) rfl (mid_eq ya)) ?_;refine qaj ?_;refine A0 mF ?_;refine qa7 ?_;refine A0 (zka rfl rfl yn) ?_;refine qb3 ?_;refine zn (p:=¬f (((lo+hi)/2:Nat):Int)=true) rfl yA (fun ht21=>?_) (fun ht21=>?_)
  ·
   refine CR ?_;refine qb2 ?_;refine qae ?_;refine CI ?_;exact Nx (((lo+hi)/2+1,hi)) yaN ybe
  refine CR ?_;refine qa7 ?_;refine qae ?_;refine CI ?_;exact Nx ((lo,(lo+hi)/2)) yaN ybe
 obtain rfl:hi=lo:=ya;refine CE ?_;refine qb4 ?_;exact zb rfl rfl (za rfl (by rw[hinv.2.2,search_end]))
theorem zsg (n t:Wide) (k:Int):Tells P 241 [.val i64T k,.rptr zaC n,.rptr zaC t] (.val zl (zvr n t k)):=by
 refine zd Tryz.func241 rfl rfl rfl (fun ext w hext=>?_);refine ze (d:=0) rfl zu (fun hin0=>?_);refine CQR ?_;refine qcv ?_;refine G0 (zf rfl rfl zaO) ?_;refine G0 (zf rfl rfl zaO) ?_;refine G0 mV ?_;refine G0 (oCl (downW_ok _ _) rfl fn_243 ye) ?_;refine G0 (oCl (cmpW_ok _ _) rfl fn_242 ye) ?_;refine G0 zbH ?_;refine qbs ?_;exact zb rfl rfl (za rfl rfl)
theorem levelW_ok (id:Ab.Id) (t:Wide):Tells P 187 [.val idT id,.val zaC t] (.val i64T (levelW id t)):=by
 refine zd Tryz.func187 rfl rfl rfl (fun ext w hext=>?_);have hsl:=zmP (f:=zvr (zlU id) t) 0 32 yr;refine qaA ?_;refine qaj ?_;refine qbG ?_;refine A0 (oCl (zvf _) rfl fn_175 yd) ?_;refine qbd ?_;refine qaz ?_;refine CNQR ?_;refine A0 (zj6 (caps:=[_,_]) rfl rfl) ?_;refine A0 aC ?_;refine CNQR ?_;refine A0 mC ?_;refine A0 (oCl (search_ok 32 (zvr (zlU id) t) yr) rfl fn_244 ⟨yn,(by first|exact zdI (Cs:=[_,_]) rfl fn_241 yaV ⟨y8,y8,trivial⟩ rfl (fun x=>zsg (zlU id) t x)|exact zdH (Cs:=[_,_]) rfl fn_241 yaV ⟨y8,y8,trivial⟩ rfl (fun x y=>zsg (zlU id) t x)|exact zdJ rfl),trivial⟩) ?_;refine A0 zbT ?_;refine qae ?_;exact zb rfl rfl (za rfl rfl)
def workW (t:Wide):Wide:=if addOk t (ofW 1)=true then addW (divW [~~~ t.getD 0 default,~~~ t.getD 1 default,~~~ t.getD 2 default,~~~ t.getD 3 default] (addW t (ofW 1))) (ofW 1) else ofW 1
theorem workW_ok (t:Wide):Tells P 240 [.val zaC t] (.val zaC (workW t)):=by
 refine zd Tryz.func240 rfl rfl rfl (fun ext w hext=>?_);refine ze (d:=0) rfl zeN (fun ha=>?_);refine qah ?_;refine qbd ?_;refine CNQ ?_;refine zA [some 1000001,some 1000001,some 1000001,some 1000001,some 1000001,some 1000001,none,none,some 1] mixed yc ?_;refine XK.gf (t:=1) rfl rfl (fun _ he=>zr rfl rfl he (Lens.self _) zaO) ⟨rfl,trivial⟩ rfl rfl rfl ?_;refine XK.ga (fun _=>zd1 (zve 1) rfl zvQ yd rfl) rfl rfl rfl ?_;refine XK.ga (fun _=>zd1 (zuA _ _) rfl fn_238 ye rfl) rfl rfl rfl ?_;refine XK.ga yh rfl rfl rfl ?_;refine XK.ga yap rfl rfl rfl ?_;refine XK.ga yR rfl rfl rfl ?_;refine XK.e (fun fr' hfr kk H=>by exact zq zpP rfl rfl rfl rfl (zt H)) ?_;refine XK.e (x:=.idk) (fun fr' hfr kk H=>by exact zg rfl rfl rfl ((hfr 3 yc).trans rfl) rfl (Lens.self _) zaO ((hfr 13 yc).trans rfl) (zt H)) ?_;refine X0 aV ?_;refine XK.nilp ⟨yE,trivial⟩ ?_;refine qbQ ?_;refine qb3 ?_;refine zn (p:=¬addOk t (ofW 1)=true) rfl (by cases addOk t (ofW 1)<;>rfl) (fun ht16=>?_) (fun ht16=>?_)
 ·
  refine CQR ?_;refine A0 (oCl (zve 1) rfl zvQ yd) ?_;refine qaz ?_;refine CN ?_;exact z7 rfl rfl rfl rfl zaO (by unfold workW;rw[ur ht16]<;>rfl)
 refine CSQR ?_;refine A0 (zD (i:=0) rfl rfl rfl yp zcA ya) ?_;refine A0 (zr rfl rfl rfl (Lens.elem (i:=0) ya u64T) zct) ?_;refine A0 (zqM rfl rfl) ?_;refine A0 (zD (i:=1) rfl rfl rfl yp zcA ya) ?_;refine A0 (zr rfl rfl rfl (Lens.elem (i:=1) ya u64T) zct) ?_;refine A0 (zqM rfl rfl) ?_;refine A0 (zD (i:=2) rfl rfl rfl yp zcA ya) ?_;refine A0 (zr rfl rfl rfl (Lens.elem (i:=2) ya u64T) zct) ?_;refine A0 (zqM rfl rfl) ?_;refine A0 (zD (i:=3) rfl rfl rfl yp zcA ya) ?_;refine A0 (zr rfl rfl rfl (Lens.elem (i:=3) ya u64T) zct) ?_;refine A0 (zqM rfl rfl) ?_;refine A0 (zil (T:=u64T) (xs:=[_,_,_,_]) rfl zcA zpP ⟨rfl,rfl,rfl,rfl,rfl,rfl,rfl,rfl,trivial⟩ rfl) ?_;refine qbd ?_;refine qaz ?_;refine CNQR ?_;refine qbH ?_;refine qbH ?_;refine A0 (oCl (divW_ok _ _) rfl fn_277 ye) ?_;refine qaN ?_;refine A0 e32 ?_;refine qbd ?_;refine qbd ?_;refine qaz ?_;refine qaz ?_;refine qaQ ?_;refine zA [some 1,some 1,some 1,some 1,some 1,some 1000001,none] mixed yc ?_;refine xr ?_;refine X0 (oCl (zve 1) rfl zvQ yd) ?_;refine X0 (oCl (zuA _ _) rfl fn_238 ye) ?_;refine X0 mX ?_;refine X0 yS ?_;refine XK.ga yR rfl rfl rfl ?_;refine XK.e (x:=.idk) (fun fr' hfr kk H=>by exact zg rfl rfl rfl ((hfr 6 yc).trans rfl) rfl (Lens.self _) zaO ((hfr 42 yc).trans rfl) (zt H)) ?_;refine XK.nil' ?_;refine qcE ?_;exact z7 rfl rfl rfl rfl zaO (by unfold workW;rw[ut (ua ht16)]<;>rfl)
def hOk (h:Head):Bool:=decide (0≤h.height∧h.height≤1048576)
def zcH (h:Head):List UInt8:=[zz (z2 (IntL.toI i64T h.height)) 4,h.prev,h.links,h.txs,h.past,zfK h.work,zz (z2 (IntL.toI u32T h.bits)) 4,zz h.nonce 8].flatten
def zaT (h:Head):List UInt8:=if hOk h=true then zcH h else []
def za5 (h:Head):Ab.Id:=if hOk h=true then zgo ([5]++zcH h) else zId
def zat (h:Head):Int:=if zbG h.bits=true∧hOk h=true then (if h.height=0 then 31 else levelW (za5 h) (tgtW h.bits)) else -1
def zff (h:Head):Wide:=if zbG h.bits=true then workW (tgtW h.bits) else zc6
def zcl (h:Head):Bool:=!decide (zat h = -1)
theorem zsT {h:Head} {ρ:Nat→Value} {B:Nat→Prop} {U N:Nat→Prop} {w:World} {v:Value} (hv:(AV.val zbU h).rel ρ B U N w v):h.prev.length=32∧h.links.length=32∧h.txs.length=32∧h.past.length=32∧h.work.length=4:=by
  obtain⟨cs,⟨_,_,_,_,_,_,_,h1,_,_,_,h2,_,_,_,h3,_,_,_,h4,_,_,_,h5,_⟩,_⟩:=hv;exact⟨h1.1,h2.1,h3.1,h4.1,h5.1⟩
theorem zep (a:Wide):(zfK a).length=32:=by unfold zfK;simp
theorem hput_ok (h:Head):Tells P 69 [.val zbU h] (.tup2 (.fresh 5 u8T (zaT h)) (.val zl (hOk h))):=by
 refine zd Tryz.func69 rfl rfl rfl (fun ext w hext=>?_);refine ze (d:=0) rfl zsT (fun hh=>?_);obtain⟨hh1,hh2,hh3,hh4,hh5⟩:=hh;refine qah ?_;refine A0 aL ?_;refine qbO ?_;refine qc6 ?_;refine A0 zcy ?_;refine Sp (d:=7) (p:=h.height<0) (fun g7=>?_) (fun g7=>?_)
 ·
  refine qa7 ?_;refine qcU ?_;refine Ct ?_;refine qc9 ?_;exact zac rfl rfl ybx (za rfl (by unfold hOk;symm;apply uh;omega))
 refine qa7 ?_;refine A1 (oFp zcf) ?_;refine A1 (oLb zaa ty_3) ?_;refine A1 zbH ?_;refine qau ?_;refine Cf (p:=1048576<h.height) (fun ht12=>?_) (fun ht12=>?_)
 ·
  refine qc9 ?_;exact zac rfl rfl ybx (za rfl (by unfold hOk;symm;apply uh;omega))
 refine CSQR ?_;refine A0 (oFp zji) ?_;refine A0 (oLb zhc zaO) ?_;refine A0 (oCl (zs9 _) rfl fn_137 yd) ?_;refine qaX ?_;refine qa5 ?_;refine CNQ ?_;refine zeR (d:=1) rfl rfl (Lens.self _) ?_;refine zeR (d:=4) rfl rfl (Lens.self _) ?_;have hbl:=zep h.work;have hn1:=zS (z2 (IntL.toI i64T h.height)) 4;have hn2:=zS (z2 (IntL.toI u32T h.bits)) 4;have hn3:=zS h.nonce 8;refine zA [some 1,some 1,some 1,some 1,some 1,some 1,some 1,some 1,some 1,some 1,some 1,some 1,some 1,some 1,some 1,some 1,some 1,some 1,some 1,some 1,some 1,none,some 1,some 1] mixed yc ?_;refine X0 (oFr zcf zaa) ?_;refine X0 (zf rfl rfl ty_3) ?_;refine X0 (zfC rfl (zlL) (us_3) rfl) ?_;refine qct ?_;refine X0 (oFr zfF zc4) ?_;refine qcy ?_;refine X0 (oFr zfE zcs) ?_;refine qcy ?_;refine X0 (oFr zgf zew) ?_;refine qcy ?_;refine X0 (oFr zhZ zfR) ?_;refine qcy ?_;refine qcy ?_;refine X0 (oFr zcX za2) ?_;refine X0 (zf rfl rfl zcd) ?_;refine X0 (zfC rfl (zlL) (us_53) rfl) ?_;refine qct ?_;refine X0 (oFr zge zc5) ?_;refine X0 (zf rfl rfl zct) ?_;refine X0 (znv (T:=sl u8T) (S:=bsl u8T) (zd1 (zB (zkm _ 8 yr)) rfl zvR ybQ rfl)) ?_;refine X0 (zL (T:=(bsl u8T)) (xs:=[_,_,_,_,_,_,_,_]) rfl zdL zdj yaG rfl rfl) ?_;refine XK.e (fun fr' hfr kk H=>by exact zaQ (zgB [zz (z2 (IntL.toI i64T h.height)) 4,h.prev,h.links,h.txs,h.past,zfK h.work,zz (z2 (IntL.toI u32T h.bits)) 4,zz h.nonce 8] (by simp[hh1,hh2,hh3,hh4,hbl,hn1,hn2,hn3])) rfl zpp ⟨(zc ((hfr 36 yc).trans rfl)),trivial⟩ rfl rfl rfl (zt H)) ?_;refine X0 aO ?_;refine X0 aV ?_;refine XK.nil' ?_;exact zac rfl rfl (zh rfl rfl (by unfold zaT;rw[ut (by unfold hOk;rw[uj];omega)];rfl)) (za rfl (by unfold hOk;symm;apply ui;omega))
theorem zgw (h:Head):Tells P 23 [.val zbU h] (.val idT (za5 h)):=by
 refine zd Tryz.func23 rfl rfl rfl (fun ext w hext=>?_);refine ze (d:=0) rfl zsT (fun hh=>?_);obtain⟨hh1,hh2,hh3,hh4,hh5⟩:=hh;refine qah ?_;refine qaX ?_;refine CNQR ?_;refine qc7 ?_;refine A0 (oCl (zee (hput_ok h)) rfl fn_69 yd) ?_;refine qaN ?_;refine A0 aV ?_;refine qap ?_;refine qb3 ?_;refine zn (p:=¬hOk h=true) rfl (by cases hOk h<;>rfl) (fun ht11=>?_) (fun ht11=>?_)
 ·
  refine CQR ?_;refine A0 (zgZ rfl ziK ze_49 rfl) ?_;refine qa5 ?_;refine CN ?_;exact z7 rfl rfl rfl rfl z6 (by unfold za5;rw[ur ht11]<;>rfl)
 refine CSQR ?_;refine qb7 ?_;refine zk8 (S:=bsl u8T) (d:=13) rfl ?_;refine qa7 ?_;refine zk8 (S:=bsl u8T) (d:=14) rfl ?_;refine A0 (zL (T:=(bsl u8T)) (xs:=[_,_]) rfl zdL zdj yao rfl rfl) ?_;refine A0 (oCl (of_ok [[5],zaT h] (by unfold zaT;split<;>simp[zcH,hh1,hh2,hh3,hh4,zep,zS])) rfl fn_70 yd) ?_;refine qa5 ?_;refine CN ?_;exact z7 rfl rfl rfl rfl z6 (by unfold za5 zaT;rw[ut (ua ht11),ut (ua ht11)];simp)
theorem zfY (h:Head):Tells P 123 [.val zbU h] (.val i64T (zat h)):=by
 refine zd Tryz.func123 rfl rfl rfl (fun ext w hext=>?_);refine qah ?_;refine qaj ?_;refine A0 (oFp zcX) ?_;refine A0 (oLb za2 zcd) ?_;refine A0 (oCl (zmE _) rfl fn_113 yd) ?_;refine qaN ?_;refine qbd ?_;refine qaz ?_;refine qaQ ?_;refine CB ?_;refine qbQ ?_;refine A0 oN ?_;refine zo (d:=13) (p:=¬zbG h.bits=true) rfl (by cases zbG h.bits<;>rfl) (fun g13=>?_) (fun g13=>?_)
 ·
  refine qae ?_;refine Ct ?_;refine CS ?_;refine Ct ?_;refine qa3 ?_;exact zb rfl rfl (za rfl (by unfold zat;rw[ur (by unfold hOk;rw[uj];exact fun h=>g13 h.1)]<;>rfl))
 refine qae ?_;refine Cg ?_;refine CQR ?_;refine qc6 ?_;refine A0 zcy ?_;refine Sp (d:=16) (p:=h.height<0) (fun g16=>?_) (fun g16=>?_)
 ·
  refine qae ?_;refine Ct ?_;refine CS ?_;refine Ct ?_;refine qa3 ?_;exact zb rfl rfl (za rfl (by unfold zat;rw[ur (by unfold hOk;rw[uj];omega)]<;>rfl))
 refine qae ?_;refine Cg ?_;refine CR ?_;refine qc6 ?_;refine A0 zbH ?_;refine Sp (d:=19) (p:=1048576<h.height) (fun g19=>?_) (fun g19=>?_)
 ·
  refine qae ?_;refine Ct ?_;refine qa3 ?_;exact zb rfl rfl (za rfl (by unfold zat;rw[ur (by unfold hOk;rw[uj];omega)]<;>rfl))
 refine qae ?_;refine Cg ?_;refine CQR ?_;refine qc6 ?_;refine A0 zaH ?_;refine qae ?_;refine Cf (p:=h.height=0) (fun ht20=>?_) (fun ht20=>?_)
 ·
  refine qa3 ?_;exact zb rfl rfl (za rfl (by unfold zat;rw[ut ⟨ua g13,by unfold hOk;rw[uj];omega⟩,ut ht20]<;>rfl))
 refine CS ?_;refine CI ?_;refine qb0 ?_;refine G0 (oLs rfl rfl rfl zaX) ?_;refine G0 (oCl (zgw _) rfl fn_23 yd) ?_;refine G0 (oLs rfl rfl rfl zaO) ?_;refine G0 (oCl (levelW_ok _ _) rfl fn_187 ye) ?_;refine qbs ?_;exact zb rfl rfl (za rfl (by unfold zat;rw[ut ⟨ua g13,by unfold hOk;rw[uj];omega⟩,ur ht20]))
theorem zt5 (h:Head):Tells P 184 [.val zbU h] (.val zaC (zff h)):=by
 refine zd Tryz.func184 rfl rfl rfl (fun ext w hext=>?_);refine qah ?_;refine qbd ?_;refine CNQR ?_;refine A0 (oFp zcX) ?_;refine A0 (oLb za2 zcd) ?_;refine A0 (oCl (zmE _) rfl fn_113 yd) ?_;refine qaN ?_;refine qbd ?_;refine qaz ?_;refine qap ?_;refine qb3 ?_;refine zn (p:=¬zbG h.bits=true) rfl (by cases zbG h.bits<;>rfl) (fun ht12=>?_) (fun ht12=>?_)
 ·
  refine qbU ?_;refine CN ?_;exact z7 rfl rfl rfl rfl zaO (by unfold zff;rw[ur ht12]<;>rfl)
 refine CSQR ?_;refine qbH ?_;refine A0 (oCl (workW_ok _) rfl fn_240 yd) ?_;refine qaz ?_;refine CN ?_;exact z7 rfl rfl rfl rfl zaO (by unfold zff;rw[ut (ua ht12)])
theorem zkT (h:Head):Tells P 120 [.val zbU h] (.val zl (zcl h)):=by
 refine zd Tryz.func120 rfl rfl rfl (fun ext w hext=>?_);refine qah ?_;refine qaj ?_;refine qc7 ?_;refine A0 (oCl (zfY _) rfl zvS yd) ?_;refine A0 zcQ ?_;refine qae ?_;exact zb rfl rfl (za rfl rfl)
theorem zuc (l m:List Ab.Id):Tells P 57 [.val (bsl idT) l,.val (bsl idT) m] (.val zl (decide (l=m))):=by
 refine zd Tryz.func57 rfl rfl rfl (fun ext w hext=>?_);refine ze (d:=0) rfl zm (fun hsl0=>?_);refine ze (d:=1) rfl zm (fun hsl1=>?_);refine qcQ ?_;refine qcf ?_;refine qa7 ?_;refine qcf ?_;refine qbk ?_;refine Cf (p:=¬l.length=m.length) (fun ht10=>?_) (fun ht10=>?_)
 ·
  refine qa3 ?_;exact zb rfl rfl (za rfl (uh (fun e=>ht10 (by rw[e]))).symm)
 refine qc2 ?_;refine qcf ?_;refine qaH ?_;refine Lp (ι:=Nat) 0 (fun (k:Nat)=>((((Fr.none).set 0 (.val (bsl idT) l)).set 1 (.val (bsl idT) m)).set 12 (.val i64T (l.length:Int))).set 13 (.val i64T (k:Int))) (fun (k:Nat)=>Hp.none) (fun (k:Nat)=>k≤l.length∧l.take k=m.take k) (fun (k:Nat)=>l.length-k) (0) (⟨uf _,by simp⟩) ?_;intro k hinv;refine qar ?_;refine Cf (p:=k<l.length) (fun ht14=>?_) (fun ht14=>?_)
 ·
  obtain⟨x,hx⟩:∃x,l[k]?=some x:=⟨_,ub ht14⟩;obtain⟨y,hy⟩:∃y,m[k]?=some y:=yB;refine qaR ?_;refine qcv ?_;refine qcr ?_;refine G0 (zbu rfl rfl rfl zdD yj) ?_;refine G0 (zf rfl rfl z6) ?_;refine qcr ?_;refine G0 (zbu rfl rfl rfl zdD yj) ?_;refine G0 (zf rfl rfl z6) ?_;refine G0 (zgy rfl rfl rfl (zh1)) ?_;refine GK.nil ?_;refine zn (p:=¬x=y) rfl yA (fun ht24=>?_) (fun ht24=>?_)
  ·
   refine qa3 ?_;exact zb rfl rfl (za rfl (uh (zgW hx hy ht24)).symm)
  refine qbq ?_;exact Nx (k+1) (⟨by omega,zc2 hx hy hinv.2 (by simpa using ht24)⟩) ya
 refine qcM ?_;exact zb rfl rfl (za rfl (ui yU).symm)
theorem equalIn (l m:List In):Tells P 188 [.val (bsl inT) l,.val (bsl inT) m] (.val zl (decide (l=m))):=by
 refine zd Tryz.func188 rfl rfl rfl (fun ext w hext=>?_);refine ze (d:=0) rfl zm (fun hsl0=>?_);refine ze (d:=1) rfl zm (fun hsl1=>?_);refine qcQ ?_;refine A0 (zN rfl rfl ziR) ?_;refine qa7 ?_;refine A0 (zN rfl rfl ziR) ?_;refine qbk ?_;refine Cf (p:=¬l.length=m.length) (fun ht10=>?_) (fun ht10=>?_)
 ·
  refine qa3 ?_;exact zb rfl rfl (za rfl (uh (fun e=>ht10 (by rw[e]))).symm)
 refine qc2 ?_;refine A0 (zN rfl rfl ziR) ?_;refine qaH ?_;refine Lp (ι:=Nat) 0 (fun (k:Nat)=>((((Fr.none).set 0 (.val (bsl inT) l)).set 1 (.val (bsl inT) m)).set 12 (.val i64T (l.length:Int))).set 13 (.val i64T (k:Int))) (fun (k:Nat)=>Hp.none) (fun (k:Nat)=>k≤l.length∧l.take k=m.take k) (fun (k:Nat)=>l.length-k) (0) (⟨uf _,by simp⟩) ?_;intro k hinv;refine qar ?_;refine Cf (p:=k<l.length) (fun ht14=>?_) (fun ht14=>?_)
 ·
  obtain⟨x,hx⟩:∃x,l[k]?=some x:=⟨_,ub ht14⟩;obtain⟨y,hy⟩:∃y,m[k]?=some y:=yB;refine qaR ?_;refine qcv ?_;refine qcr ?_;refine G0 (zbu rfl rfl rfl ztH yj) ?_;refine G0 (zf rfl rfl zdm) ?_;refine qcr ?_;refine G0 (zbu rfl rfl rfl ztH yj) ?_;refine G0 (zf rfl rfl zdm) ?_;refine G0 (zgy rfl rfl rfl (eqt_256)) ?_;refine GK.nil ?_;refine zn (p:=¬x=y) rfl yA (fun ht24=>?_) (fun ht24=>?_)
  ·
   refine qa3 ?_;exact zb rfl rfl (za rfl (uh (zgW hx hy ht24)).symm)
  refine qbq ?_;exact Nx (k+1) (⟨by omega,zc2 hx hy hinv.2 (by simpa using ht24)⟩) ya
 refine qcM ?_;exact zb rfl rfl (za rfl (ui yU).symm)
theorem equalOut (l m:List Out):Tells P 189 [.val (bsl outT) l,.val (bsl outT) m] (.val zl (decide (l=m))):=by
 refine zd Tryz.func189 rfl rfl rfl (fun ext w hext=>?_);refine ze (d:=0) rfl zm (fun hsl0=>?_);refine ze (d:=1) rfl zm (fun hsl1=>?_);refine qcQ ?_;refine A0 (zN rfl rfl zhM) ?_;refine qa7 ?_;refine A0 (zN rfl rfl zhM) ?_;refine qbk ?_;refine Cf (p:=¬l.length=m.length) (fun ht10=>?_) (fun ht10=>?_)
 ·
  refine qa3 ?_;exact zb rfl rfl (za rfl (uh (fun e=>ht10 (by rw[e]))).symm)
 refine qc2 ?_;refine A0 (zN rfl rfl zhM) ?_;refine qaH ?_;refine Lp (ι:=Nat) 0 (fun (k:Nat)=>((((Fr.none).set 0 (.val (bsl outT) l)).set 1 (.val (bsl outT) m)).set 12 (.val i64T (l.length:Int))).set 13 (.val i64T (k:Int))) (fun (k:Nat)=>Hp.none) (fun (k:Nat)=>k≤l.length∧l.take k=m.take k) (fun (k:Nat)=>l.length-k) (0) (⟨uf _,by simp⟩) ?_;intro k hinv;refine qar ?_;refine Cf (p:=k<l.length) (fun ht14=>?_) (fun ht14=>?_)
 ·
  obtain⟨x,hx⟩:∃x,l[k]?=some x:=⟨_,ub ht14⟩;obtain⟨y,hy⟩:∃y,m[k]?=some y:=yB;refine qaR ?_;refine qcv ?_;refine qcr ?_;refine G0 (zbu rfl rfl rfl sl_99 yj) ?_;refine G0 (zf rfl rfl ziN) ?_;refine qcr ?_;refine G0 (zbu rfl rfl rfl sl_99 yj) ?_;refine G0 (zf rfl rfl ziN) ?_;refine G0 (zgy rfl rfl rfl (eqt_258)) ?_;refine GK.nil ?_;refine zn (p:=¬x=y) rfl yA (fun ht24=>?_) (fun ht24=>?_)
  ·
   refine qa3 ?_;exact zb rfl rfl (za rfl (uh (zgW hx hy ht24)).symm)
  refine qbq ?_;exact Nx (k+1) (⟨by omega,zc2 hx hy hinv.2 (by simpa using ht24)⟩) ya
 refine qcM ?_;exact zb rfl rfl (za rfl (ui yU).symm)
theorem zh4 (l:List Ab.Id) (hl:l.length*32≤140737488355328∧l.length≤9223372036854775807):Tells P 80 [.val (bsl idT) l] (.fresh 49 idT l):=by
 refine zd Tryz.func80 rfl rfl rfl (fun ext w hext=>?_);refine ze (d:=0) rfl zm (fun hsl0=>?_);refine qa9 ?_;refine qbx ?_;refine zfk rfl rfl rfl rfl rfl zfA (fun c4 hc4=>?_);refine CN ?_;refine zn (p:=c4=true) rfl yA (fun ht4=>?_) (fun ht4=>?_)
 ·
  obtain rfl:=hc4 ht4;refine qa9 ?_;refine CN ?_;exact zb rfl rfl (zx rfl)
 refine CSQR ?_;refine zb9 (T:=idT) (xs:=[]) rfl rfl rfl rfl zdD zfU trivial rfl rfl ?_;refine qa7 ?_;refine zC rfl rfl rfl rfl rfl rfl rfl zfU yaF ?_;refine qbJ ?_;exact zb rfl rfl (zh rfl rfl yA)
theorem zpA (l:List Total) (hl:l.length*72≤140737488355328∧l.length≤9223372036854775807):Tells P 182 [.val (bsl zbJ) l] (.fresh 197 zbJ l):=by
 refine zd Tryz.func182 rfl rfl rfl (fun ext w hext=>?_);refine ze (d:=0) rfl zm (fun hsl0=>?_);refine qa9 ?_;refine qbx ?_;refine zfk rfl rfl rfl rfl rfl zpi (fun c4 hc4=>?_);refine CN ?_;refine zn (p:=c4=true) rfl yA (fun ht4=>?_) (fun ht4=>?_)
 ·
  obtain rfl:=hc4 ht4;refine qa9 ?_;refine CN ?_;exact zb rfl rfl (zx rfl)
 refine CSQR ?_;refine zb9 (T:=zbJ) (xs:=[]) rfl rfl rfl rfl zkC zmV trivial rfl rfl ?_;refine qa7 ?_;refine zC rfl rfl rfl rfl rfl rfl rfl zmV yaF ?_;refine qbJ ?_;exact zb rfl rfl (zh rfl rfl yA)
theorem cloneIn (l:List In) (hl:l.length*40≤140737488355328∧l.length≤9223372036854775807):Tells P 229 [.val (bsl inT) l] (.fresh 256 inT l):=by
 refine zd Tryz.func229 rfl rfl rfl (fun ext w hext=>?_);refine ze (d:=0) rfl zm (fun hsl0=>?_);refine qa9 ?_;refine qbx ?_;refine zfk rfl rfl rfl rfl rfl ziR (fun c4 hc4=>?_);refine CN ?_;refine zn (p:=c4=true) rfl yA (fun ht4=>?_) (fun ht4=>?_)
 ·
  obtain rfl:=hc4 ht4;refine qa9 ?_;refine CN ?_;exact zb rfl rfl (zx rfl)
 refine CSQR ?_;refine zb9 (T:=inT) (xs:=[]) rfl rfl rfl rfl ztH row_98 trivial rfl rfl ?_;refine qa7 ?_;refine zC rfl rfl rfl rfl rfl rfl rfl row_98 yaF ?_;refine qbJ ?_;exact zb rfl rfl (zh rfl rfl yA)
theorem zwa (l:List Out) (hl:l.length*16≤140737488355328∧l.length≤9223372036854775807):Tells P 230 [.val (bsl outT) l] (.fresh 258 outT l):=by
 refine zd Tryz.func230 rfl rfl rfl (fun ext w hext=>?_);refine ze (d:=0) rfl zm (fun hsl0=>?_);refine qa9 ?_;refine qbx ?_;refine zfk rfl rfl rfl rfl rfl zhM (fun c4 hc4=>?_);refine CN ?_;refine zn (p:=c4=true) rfl yA (fun ht4=>?_) (fun ht4=>?_)
 ·
  obtain rfl:=hc4 ht4;refine qa9 ?_;refine CN ?_;exact zb rfl rfl (zx rfl)
 refine CSQR ?_;refine zb9 (T:=outT) (xs:=[]) rfl rfl rfl rfl sl_99 row_99 trivial rfl rfl ?_;refine qa7 ?_;refine zC rfl rfl rfl rfl rfl rfl rfl row_99 yaF ?_;refine qbJ ?_;exact zb rfl rfl (zh rfl rfl yA)
theorem cloneTx (l:List Tx) (hl:l.length*48≤140737488355328∧l.length≤9223372036854775807):Tells P 251 [.val (bsl txT) l] (.fresh 101 txT l):=by
 refine zd Tryz.func251 rfl rfl rfl (fun ext w hext=>?_);refine ze (d:=0) rfl zm (fun hsl0=>?_);refine qa9 ?_;refine qbx ?_;refine zfk rfl rfl rfl rfl rfl zhN (fun c4 hc4=>?_);refine CN ?_;refine zn (p:=c4=true) rfl yA (fun ht4=>?_) (fun ht4=>?_)
 ·
  obtain rfl:=hc4 ht4;refine qa9 ?_;refine CN ?_;exact zb rfl rfl (zx rfl)
 refine CSQR ?_;refine zb9 (T:=txT) (xs:=[]) rfl rfl rfl rfl zpW zu0 trivial rfl rfl ?_;refine qa7 ?_;refine zC rfl rfl rfl rfl rfl rfl rfl zu0 yaF ?_;refine qbJ ?_;exact zb rfl rfl (zh rfl rfl yA)
theorem indexId (l:List Ab.Id) (v:Ab.Id):Tells P 122 [.val (bsl idT) l,.val idT v] (.val i64T (idx (fun x=>decide (v=x)) l)):=by
 refine zd Tryz.func122 rfl rfl rfl (fun ext w hext=>?_);refine ze (d:=0) rfl zm (fun hsl0=>?_);refine qah ?_;refine qap ?_;refine qcf ?_;refine qaH ?_;refine Lp (ι:=Nat) 1 (fun (k:Nat)=>(((((Fr.none).set 0 (.val (bsl idT) l)).set 3 (.ptr 0 0)).set 6 (.val (bsl idT) l)).set 7 (.val i64T (l.length:Int))).set 8 (.val i64T (k:Int))) (fun (k:Nat)=>(Hp.none).set 0 (.box 49 idT v)) (fun (k:Nat)=>k≤l.length∧idx (fun x=>decide (v=x)) l=shift k (idx (fun x=>decide (v=x)) (l.drop k))) (fun (k:Nat)=>l.length-k) (0) (⟨uf _,zdM _ l⟩) ?_;intro k hinv;refine qar ?_;refine Cf (p:=k<l.length) (fun ht9=>?_) (fun ht9=>?_)
 ·
  obtain⟨x,hx⟩:∃x,l[k]?=some x:=ybi;refine qaR ?_;refine qcv ?_;refine G0 (oLs rfl rfl rfl z6) ?_;refine qcr ?_;refine G0 (zbu rfl rfl rfl zdD yj) ?_;refine G0 (zf rfl rfl z6) ?_;refine G0 (ziU rfl rfl rfl (zh1)) ?_;refine GK.nil ?_;refine zn (p:=(decide (v=x))=true) rfl yA (fun ht16=>?_) (fun ht16=>?_)
  ·
   refine qb4 ?_;exact zb rfl rfl (za rfl (hinv.2.trans (zhO hx ht16)).symm)
  refine qbq ?_;exact Nx (k+1) (⟨by omega,hinv.2.trans (zlt hx ht16)⟩) ya
 refine qcM ?_;exact zb rfl rfl (za rfl (hinv.2.trans (zhP ya)).symm)
theorem containsId (l:List Ab.Id) (v:Ab.Id):Tells P 185 [.val (bsl idT) l,.val idT v] (.val zl (l.any fun x=>decide (v=x))):=by
 refine zd Tryz.func185 rfl rfl rfl (fun ext w hext=>?_);refine ze (d:=0) rfl zm (fun hsl0=>?_);refine qah ?_;refine qaL ?_;refine qbG ?_;refine A0 (oCl (indexId _ _) rfl fn_122 ye) ?_;refine A0 zfb ?_;refine qae ?_;exact zb rfl rfl (za rfl (zhQ _ l))
theorem equalFTx (l m:List Tx):Tells P 125 [.val (bsl txT) l,.val (bsl txT) m,.fn2 P txT txT zl (fun x y=>decide (x=y))] (.val zl (decide (l=m))):=by
 refine zd Tryz.func125 rfl rfl rfl (fun ext w hext=>?_);refine ze (d:=0) rfl zm (fun hsl0=>?_);refine ze (d:=1) rfl zm (fun hsl1=>?_);refine qcQ ?_;refine xo ?_;refine qa7 ?_;refine xo ?_;refine qbk ?_;refine Cf (p:=¬l.length=m.length) (fun ht14=>?_) (fun ht14=>?_)
 ·
  refine qa3 ?_;exact zb rfl rfl (za rfl (uh (fun e=>ht14 (by rw[e]))).symm)
 refine qc2 ?_;refine xo ?_;refine qaH ?_;refine Lp (ι:=Nat) 0 (fun (k:Nat)=>((((((Fr.none).set 0 (.val (bsl txT) l)).set 1 (.val (bsl txT) m)).set 2 (.fn2 P txT txT zl (fun x y=>decide (x=y)))).set 15 (.val (bsl txT) l)).set 16 (.val i64T (l.length:Int))).set 17 (.val i64T (k:Int))) (fun (k:Nat)=>Hp.none) (fun (k:Nat)=>k≤l.length∧l.take k=m.take k) (fun (k:Nat)=>l.length-k) (0) (⟨uf _,by simp⟩) ?_;intro k hinv;refine qar ?_;refine Cf (p:=k<l.length) (fun ht18=>?_) (fun ht18=>?_)
 ·
  obtain⟨x,hx⟩:∃x,l[k]?=some x:=⟨_,ub ht18⟩;obtain⟨y,hy⟩:∃y,m[k]?=some y:=yB;refine qaR ?_;refine qbz ?_;refine A0 aV ?_;refine qc0 ?_;refine CNQR ?_;refine qav ?_;refine qbz ?_;refine qc0 ?_;refine CNQR ?_;refine A0 mH ?_;refine qcG ?_;refine qcG ?_;refine A0 (zmf rfl rfl yn yn) ?_;refine qb3 ?_;refine zn (p:=¬x=y) rfl yA (fun ht30=>?_) (fun ht30=>?_)
  ·
   refine qa3 ?_;exact zb rfl rfl (za rfl (uh (zgW hx hy ht30)).symm)
  refine qbq ?_;exact Nx (k+1) (⟨by omega,zc2 hx hy hinv.2 (by simpa using ht30)⟩) ya
 refine qcM ?_;exact zb rfl rfl (za rfl (ui yU).symm)
theorem znT (a b:Tx):Tells P 126 [.val txT a,.val txT b] (.val zl (decide (a=b))):=by
 refine zd Tryz.func126 rfl rfl rfl (fun ext w hext=>?_);refine qaA ?_;refine qaj ?_;refine A0 (oFp zeB) ?_;refine A0 (oLb zeE zoo) ?_;refine A0 (oFp zeB) ?_;refine A0 (oLb zeE zoo) ?_;refine A0 (oCl (equalIn _ _) rfl fn_188 ye) ?_;refine Sp (d:=9) (p:=a.ins=b.ins) (fun g9=>?_) (fun g9=>?_)
 ·
  refine qa7 ?_;refine A1 (oFp zdb) ?_;refine A1 (oLb zco zkx) ?_;refine A1 (oFp zdb) ?_;refine A1 (oLb zco zkx) ?_;refine A1 (oCl (equalOut _ _) rfl fn_189 ye) ?_;refine qa6 ?_;exact zb rfl rfl (za rfl yal)
 refine qa7 ?_;refine qaa ?_;refine qda ?_;exact zb rfl rfl (za rfl (by symm;apply uh;intro h;exact g9 (by rw[h])))
def halfN (n:Nat):Nat:=2^(zaJ (n-1)-1)
theorem zik (n:Nat):0<halfN n:=Nat.two_pow_pos _
theorem zkU {n:Nat} (h:2≤n):halfN n<n:=by
  unfold halfN zaJ;rw[ur ya,Nat.add_sub_cancel]
  have:=Nat.log2_self_le (n:=n-1) ya
  omega
theorem half_eq {n:Nat} (h:2≤n) (hn:n<4398046511104):IntKind.i64.wrap (1*2^(min (IntL.toI i64T (((zaJ (z2 (IntL.toI i64T ((n:Int)-1))).toNat:Nat):Int)-1)).toNat 64))=(halfN n:Nat):=by
  have e1:(z2 (IntL.toI i64T ((n:Int)-1))).toNat=n-1:=by
    unfold z2;show(UInt64.ofNat (((n:Int)-1)%18446744073709551616).toNat).toNat=n-1;rw[UInt64.toNat_ofNat_of_lt' yac];omega
  have hb:=zgG (s:=42) (n:=n-1) ya;have hp:2^(zaJ (n-1)-1)≤2^42:=Nat.pow_le_pow_right yr ya;rw[e1];have e2:(IntL.toI i64T (((zaJ (n-1):Nat):Int)-1)).toNat=zaJ (n-1)-1:=by
    show(((zaJ (n-1):Nat):Int)-1).toNat=_;omega
  rw[e2,Nat.min_eq_left ya,Int.one_mul];have e3:(2:Int)^(zaJ (n-1)-1)=((2^(zaJ (n-1)-1):Nat):Int):=yA;rw[e3];show _=((2^(zaJ (n-1)-1):Nat):Int);obtain⟨q,hq⟩:∃q,q=2^(zaJ (n-1)-1):=⟨_,rfl⟩;rw[←hq] at hp ⊢;exact zas ya
theorem bitLen_one {n:Nat} (h:2≤n) (hn:n<4398046511104):1≤zaJ (z2 (IntL.toI i64T ((n:Int)-1))).toNat∧zaJ (z2 (IntL.toI i64T ((n:Int)-1))).toNat≤42:=by
  have e1:(z2 (IntL.toI i64T ((n:Int)-1))).toNat=n-1:=by
    unfold z2;show(UInt64.ofNat (((n:Int)-1)%18446744073709551616).toNat).toNat=n-1;rw[UInt64.toNat_ofNat_of_lt' yac];omega
  rw[e1];refine⟨?_,zgG ya⟩;unfold zaJ;rw[ur ya];omega
theorem half_ok (n:Nat) (h:2≤n) (hn:n<4398046511104):Tells P 102 [.val i64T (n:Int)] (.val i64T (halfN n:Nat)):=by
 obtain⟨hb1,hb2⟩:=bitLen_one h hn;refine zd Tryz.func102 rfl rfl rfl (fun ext w hext=>?_);refine ze (d:=0) rfl zu (fun hin0=>?_);refine CQR ?_;refine qaL ?_;refine A0 zbT ?_;refine xe ?_;refine A0 (oCl (lenU_ok _) rfl fn_169 yd) ?_;refine A0 zbT ?_;refine A0 (g_shlI rfl rfl rfl ya6 rfl) ?_;refine qae ?_;exact zb rfl rfl (za rfl (half_eq h hn))
def zvt (b:List UInt8):Ab.Id:=zgo ([0]++b)
theorem leaf_ok (b:List UInt8) (hb:b.length≤1000000):Tells P 236 [.val (bsl u8T) b] (.val idT (zvt b)):=by
 refine zd Tryz.func236 rfl rfl rfl (fun ext w hext=>?_);refine ze (d:=0) rfl zm (fun hsl0=>?_);refine qcz ?_;refine qb7 ?_;refine zk8 (S:=bsl u8T) (d:=3) rfl ?_;refine qa7 ?_;refine A0 (zL (T:=(bsl u8T)) (xs:=[_,_]) rfl zdL zdj yao rfl rfl) ?_;refine A0 (oCl (of_ok [[0],b] yK) rfl fn_70 yd) ?_;refine qa5 ?_;refine CN ?_;exact z7 rfl rfl rfl rfl z6 (by unfold zvt;simp)
def zjU (a b:Ab.Id):List UInt8:=[1]++a++b
def zvh (a b:Ab.Id):Ab.Id:=zgo (zjU a b)
theorem ztz (a b:Ab.Id) (ha:a.length=32) (hb:b.length=32):Tells P 204 [.val (arrT 2 yr idT) [a,b]] (.fresh 5 u8T (zjU a b)):=by
 refine zd Tryz.func204 rfl rfl rfl (fun ext w hext=>?_);refine qah ?_;refine A0 aL ?_;refine CNQ ?_;refine zeR (d:=1) rfl rfl (Lens.self _) ?_;have e0:([a,b]:List Ab.Id)[0]?=some a:=rfl;have e1:([a,b]:List Ab.Id)[1]?=some b:=rfl;refine xg ?_;refine X0 (znv (T:=sl u8T) (S:=bsl u8T) (zL (T:=u8T) (xs:=[_]) rfl zcG zcT yE rfl rfl)) ?_;refine X0 (g_ia_ra (i:=0) rfl rfl rfl yp zib yj) ?_;refine qcy ?_;refine X0 (g_ia_ra (i:=1) rfl rfl rfl yp zib yj) ?_;refine qcy ?_;refine X0 (zL (T:=(bsl u8T)) (xs:=[_,_,_]) rfl zdL zdj yaA rfl rfl) ?_;refine XK.e (fun fr' hfr kk H=>by exact zaQ (zgB [[1],a,b] yK) rfl zpp ⟨(zc ((hfr 8 yc).trans rfl)),trivial⟩ rfl rfl rfl (zt H)) ?_;refine X0 aO ?_;refine XK.nil' ?_;exact zb rfl rfl (zh rfl rfl (by unfold zjU;simp))
theorem ztR (a b:Ab.Id):Tells P 159 [.val idT a,.val idT b] (.val idT (zvh a b)):=by
 refine zd Tryz.func159 rfl rfl rfl (fun ext w hext=>?_);refine ze (d:=0) rfl zmk (fun ha=>?_);refine ze (d:=1) rfl zmk (fun hb=>?_);refine qaA ?_;refine qaX ?_;refine CNQR ?_;refine qbG ?_;refine qbG ?_;refine A0 (zil (T:=idT) (xs:=[_,_]) rfl zib ze_246 yao rfl) ?_;refine A0 (oCl (zB (ztz a b ha hb)) rfl fn_204 yd) ?_;refine A0 (oCl (zuO (zjU a b) (by unfold zjU;simp;omega)) rfl fn_25 yd) ?_;refine qa5 ?_;refine CN ?_;exact z7 rfl rfl rfl rfl z6 (rfl)
def zhe (l:List Ab.Id):Ab.Id:=if l.length=0 then zgo [2] else if h1:l.length≤1 then l.headD zId else zvh (zhe (l.take (halfN l.length))) (zhe (l.drop (halfN l.length)))
termination_by l.length
decreasing_by
  · have:=zkU (n:=l.length) ya;simp;omega
  have:=zik l.length;simp;omega
theorem zp6 (l:List Ab.Id) (hl:l.length<4398046511104):Tells P 103 [.val (bsl idT) l] (.val idT (zhe l)):=by
 refine zd Tryz.func103 rfl rfl rfl (fun ext w hext=>?_);refine ze (d:=0) rfl zm (fun hsl0=>?_);refine CQR ?_;refine qaX ?_;refine qbx ?_;refine qcf ?_;refine CNB ?_;refine CQR ?_;refine A0 zaH ?_;refine qae ?_;refine Cf (p:=l.length=0) (fun ht6=>?_) (fun ht6=>?_)
 ·
  refine CQR ?_;refine qb7 ?_;refine A0 (oCl (zuO [2] yr) rfl fn_25 yd) ?_;refine qa5 ?_;refine CN ?_;exact z7 rfl rfl rfl rfl z6 (by rw[zhe,ut ht6])
 refine CQR ?_;refine A0 zaH ?_;refine qae ?_;refine Cf (p:=l.length=1) (fun ht10=>?_) (fun ht10=>?_)
 ·
  obtain⟨x,hx⟩:∃x,l[0]?=some x:=yB;refine qaE ?_;refine A0 (zV (i:=0) rfl rfl rfl ya zdD yj) ?_;refine A0 (zf rfl rfl z6) ?_;refine qa5 ?_;refine CN ?_;exact z7 rfl rfl rfl rfl z6 (by rw[zhe,ur ht6,dif_pos ya];cases l with|nil=>simp at ht6|cons a m=>simp at hx ⊢;exact hx.symm)
 have hp:=zik l.length;have hh:=zkU (n:=l.length) ya;refine CS ?_;refine CI ?_;refine qaE ?_;refine qcf ?_;refine A0 (oCl (half_ok l.length ya ya) rfl fn_102 yd) ?_;refine qaQ ?_;refine xj ?_;refine X0 mV ?_;refine X0 mV ?_;refine X0 yag ?_;refine X0 (oCl (zp6 (l.take (halfN l.length)) yK) rfl zvV yd) ?_;refine X0 mV ?_;refine X0 mV ?_;refine X0 (zhh rfl rfl rfl zdD yg) ?_;refine X0 (oCl (zp6 (l.drop (halfN l.length)) yK) rfl zvV yd) ?_;refine X0 (oCl (ztR _ _) rfl fn_159 ye) ?_;refine XK.e (x:=.idk) (fun fr' hfr kk H=>by exact zg rfl rfl rfl ((hfr 2 yc).trans rfl) rfl (Lens.self _) z6 ((hfr 26 yc).trans rfl) (zt H)) ?_;refine XK.nil' ?_;exact z7 rfl rfl rfl rfl z6 (by conv=>rhs;rw[zhe,ur ht6,dif_neg ya])
termination_by l.length
decreasing_by
  all_goals (simp;omega)
theorem zpt {t:Total} {ρ:Nat→Value} {B:Nat→Prop} {U N:Nat→Prop} {w:World} {v:Value} (hv:(AV.val zbJ t).rel ρ B U N w v):t.h.length=32∧t.w.length=4:=by
  obtain⟨cs,⟨_,_,_,h1,_,_,_,h2,_⟩,_⟩:=hv;exact⟨h1.1,h2.1⟩
def zfu (t:Total):List UInt8:=[t.h,zfK t.w,zz (z2 (IntL.toI i64T t.n)) 4].flatten
theorem zjx {t:Total} (h:t.h.length=32):(zfu t).length=68:=by unfold zfu;simp[h,zep,zS]
def zj1 (a b:Total):Total:=⟨zgo ([3]++zfu a++zfu b),addW a.w b.w,IntKind.i64.wrap (a.n+b.n)⟩
def leafT (id:Ab.Id) (w:Wide):Total:=⟨id,w,1⟩
def zmd (id:Ab.Id):Ab.Id:=zvt id
def zcM (l:List Ab.Id):Ab.Id:=zhe (l.map zmd)
def zrA (l:List Tx):Ab.Id:=zhe (l.map idOf)
theorem zlf (t:Total) (hh:t.h.length=32):Tells P 239 [.val zbJ t] (.fresh 5 u8T (zfu t)):=by
 refine zd Tryz.func239 rfl rfl rfl (fun ext w hext=>?_);refine qah ?_;refine A0 aL ?_;refine CNQR ?_;refine A0 (oFp zio) ?_;refine A0 (oLb zgI zaO) ?_;refine A0 (oCl (zs9 _) rfl fn_137 yd) ?_;refine qaX ?_;refine qa5 ?_;refine CNQ ?_;refine zeR (d:=1) rfl rfl (Lens.self _) ?_;refine zeR (d:=3) rfl rfl (Lens.self _) ?_;have hbl:=zep t.w;have hn:=zS (z2 (IntL.toI i64T t.n)) 4;refine zA [some 1,some 1,some 1,some 1,some 1,some 1,some 1,some 1,none,some 1] mixed yc ?_;refine X0 (oFr ziq zgJ) ?_;refine qcy ?_;refine qcy ?_;refine X0 (oFr zg6 zfP) ?_;refine X0 (zf rfl rfl ty_3) ?_;refine X0 (zfC rfl (zlL) (us_3) rfl) ?_;refine qct ?_;refine X0 (zL (T:=(bsl u8T)) (xs:=[_,_,_]) rfl zdL zdj yaA rfl rfl) ?_;refine XK.e (fun fr' hfr kk H=>by exact zaQ (zgB [t.h,zfK t.w,zz (z2 (IntL.toI i64T t.n)) 4] (by simp[hh,hbl,hn])) rfl zpp ⟨(zc ((hfr 14 yc).trans rfl)),trivial⟩ rfl rfl rfl (zt H)) ?_;refine X0 aO ?_;refine XK.nil' ?_;exact zb rfl rfl (zh rfl rfl rfl)
theorem mleaf_ok (id:Ab.Id) (w:Wide):Tells P 183 [.val idT id,.val zaC w] (.val zbJ (leafT id w)):=by
 refine zd Tryz.func183 rfl rfl rfl (fun ext w hext=>?_);refine qaA ?_;refine zq ziL rfl rfl rfl rfl ?_;refine CNQR ?_;refine qbG ?_;refine qbH ?_;refine A0 (zy rfl ziL bd_197 (.cons ziq zgJ z6 rfl (.cons zio zgI zaO rfl (.cons zg6 zfP ty_3 rfl .nil))) rfl) ?_;refine qce ?_;refine CN ?_;exact z7 rfl rfl rfl rfl zd7 (rfl)
theorem join_ok (a b:Total):Tells P 181 [.val zbJ a,.val zbJ b] (.val zbJ (zj1 a b)):=by
 refine zd Tryz.func181 rfl rfl rfl (fun ext w hext=>?_);refine ze (d:=0) rfl zpt (fun ha=>?_);refine ze (d:=1) rfl zpt (fun hb=>?_);refine qaA ?_;refine zq ziL rfl rfl rfl rfl ?_;refine CNQR ?_;refine A0 (oFp zio) ?_;refine A0 (oLb zgI zaO) ?_;refine A0 (oFp zio) ?_;refine A0 (oLb zgI zaO) ?_;refine A0 (oCl (zuA _ _) rfl fn_238 ye) ?_;refine qaN ?_;refine qbd ?_;refine qaz ?_;refine qaQ ?_;refine zA [some 1,some 1,some 1,some 1,some 1,some 1,some 1,some 1,some 1,some 1,some 1,some 1,some 1,some 1,none] mixed yc ?_;refine X0 (znv (T:=sl u8T) (S:=bsl u8T) (zL (T:=u8T) (xs:=[_]) rfl zcG zcT yE rfl rfl)) ?_;refine X0 (oLs rfl rfl rfl zd7) ?_;refine X0 (znv (T:=sl u8T) (S:=bsl u8T) (zd1 (zB (zlf a ha.1)) rfl fn_239 yd rfl)) ?_;refine X0 (oLs rfl rfl rfl zd7) ?_;refine X0 (znv (T:=sl u8T) (S:=bsl u8T) (zd1 (zB (zlf b hb.1)) rfl fn_239 yd rfl)) ?_;refine X0 (zL (T:=(bsl u8T)) (xs:=[_,_,_]) rfl zdL zdj yaA rfl rfl) ?_;refine X0 (oCl (of_ok [[3],zfu a,zfu b] (by simp[zjx ha.1,zjx hb.1])) rfl fn_70 yd) ?_;refine xr ?_;refine X0 (oFp zg6) ?_;refine X0 (oLb zfP ty_3) ?_;refine X0 (oFp zg6) ?_;refine X0 (oLb zfP ty_3) ?_;refine X0 zdl ?_;refine X0 (zy rfl ziL bd_197 (.cons ziq zgJ z6 rfl (.cons zio zgI zaO rfl (.cons zg6 zfP ty_3 rfl .nil))) rfl) ?_;refine XK.e (x:=.idk) (fun fr' hfr kk H=>by exact zg rfl rfl rfl ((hfr 4 yc).trans rfl) rfl (Lens.self _) zd7 ((hfr 28 yc).trans rfl) (zt H)) ?_;refine XK.nil' ?_;exact z7 rfl rfl rfl rfl zd7 (by unfold zj1;simp)
theorem zng (id:Ab.Id):Tells P 179 [.val idT id] (.val idT (zmd id)):=by
 refine zd Tryz.func179 rfl rfl rfl (fun ext w hext=>?_);refine ze (d:=0) rfl zmk (fun hid=>?_);refine qah ?_;refine qaX ?_;refine CNQ ?_;refine zeR (d:=1) rfl rfl (Lens.self _) ?_;refine CR ?_;refine A0 (zj5 rfl rfl ziK rfl rfl) ?_;refine A0 (oCl (leaf_ok id ya) rfl fn_236 yd) ?_;refine qa5 ?_;refine CN ?_;exact z7 rfl rfl rfl rfl z6 (rfl)
theorem mapped_ok (l:List Ab.Id) (f:Ab.Id→Ab.Id) (hl:l.length≤4000000000000):Tells P 178 [.val (bsl idT) l,.fn1 P idT idT f] (.fresh 49 idT (l.map f)):=by
 refine zd Tryz.func178 rfl rfl rfl (fun ext w hext=>?_);refine ze (d:=0) rfl zm (fun hsl0=>?_);refine qcn ?_;refine A0 aL ?_;refine qbx ?_;refine qcf ?_;refine qaH ?_;refine zbk (T:=idT) (d:=5) 49 rfl ?_;refine Lp (ι:=Nat) 1 (fun (k:Nat)=>((((((Fr.none).set 0 (.val (bsl idT) l)).set 1 (.fn1 P idT idT f)).set 5 (.own 0)).set 8 (.val (bsl idT) l)).set 9 (.val i64T (l.length:Int))).set 10 (.val i64T (k:Int))) (fun (k:Nat)=>(Hp.none).set 0 (.row 49 idT ((l.take k).map f))) (fun (k:Nat)=>k≤l.length) (fun (k:Nat)=>l.length-k) (0) (uf _) ?_;intro k hinv;refine qar ?_;refine Cf (p:=k<l.length) (fun ht11=>?_) (fun ht11=>?_)
 ·
  obtain⟨x,hx⟩:∃x,l[k]?=some x:=⟨_,ub ht11⟩;refine CSQBQR ?_;refine A0 (zbu rfl rfl rfl zdD yj) ?_;refine A0 (zf rfl rfl z6) ?_;refine qaX ?_;refine qa5 ?_;refine CNR ?_;refine A0 mO ?_;refine A0 mF ?_;refine qbG ?_;refine A0 (zka rfl rfl yn) ?_;refine qbT ?_;refine zaz 2 0 3 rfl rfl rfl rfl rfl rfl ?_;refine zj (n:=0) (y:=(l.take (k+1)).map f) rfl (by rw[un,hx];simp) ?_;exact Nx (k+1) ya ya
 refine qaS ?_;exact zb rfl rfl (zh rfl rfl yT)
theorem zjb (l:List Ab.Id) (hl:l.length≤4000000000000):Tells P 114 [.val (bsl idT) l] (.val idT (zcM l)):=by
 refine zd Tryz.func114 rfl rfl rfl (fun ext w hext=>?_);refine ze (d:=0) rfl zm (fun hsl0=>?_);refine qcz ?_;refine qa7 ?_;refine A0 (oCl (zB (mapped_ok l zmd hl)) rfl fn_178 ⟨yn,(by first|exact zdI (Cs:=[]) rfl fn_179 yF trivial rfl (fun x=>zng x)|exact zdH (Cs:=[]) rfl fn_179 yF trivial rfl (fun x y=>zng x)|exact zdJ rfl),trivial⟩) ?_;refine A0 (oCl (zp6 (l.map zmd) yK) rfl zvV yd) ?_;refine qa5 ?_;refine CN ?_;exact z7 rfl rfl rfl rfl z6 (rfl)
theorem leads_ok (l:List Ab.Id) (prev id:Ab.Id):Tells P 119 [.val (bsl idT) l,.val idT prev,.val idT id] (.val zl (decide (prev=id)||l.any fun x=>decide (id=x))):=by
 refine zd Tryz.func119 rfl rfl rfl (fun ext w hext=>?_);refine ze (d:=0) rfl zm (fun hsl0=>?_);refine qaA ?_;refine qaj ?_;refine qbG ?_;refine qbG ?_;refine A0 (ziU rfl rfl rfl (zh1)) ?_;refine Sp (d:=9) (p:=prev=id) (fun g9=>?_) (fun g9=>?_)
 ·
  refine qa7 ?_;refine qaa ?_;refine qa6 ?_;exact zb rfl rfl (za rfl (by simp[g9]))
 refine qa7 ?_;refine qcV ?_;refine A1 (oLs rfl rfl rfl z6) ?_;refine A1 (oCl (containsId _ _) rfl fn_185 ye) ?_;refine qa6 ?_;exact zb rfl rfl (za rfl (by simp[g9]))
theorem zrz (l:List Tx) (hl:l.length≤4000000000000):Tells P 115 [.val (bsl txT) l] (.val idT (zrA l)):=by
 refine zd Tryz.func115 rfl rfl rfl (fun ext w hext=>?_);refine ze (d:=0) rfl zm (fun hsl0=>?_);refine qcz ?_;refine A0 aL ?_;refine qbx ?_;refine xo ?_;refine qaH ?_;refine zbk (T:=idT) (d:=3) 49 rfl ?_;refine Lp (ι:=Nat) 2 (fun (k:Nat)=>(((((Fr.none).set 2 (.ptr 0 0)).set 3 (.own 1)).set 6 (.val (bsl txT) l)).set 7 (.val i64T (l.length:Int))).set 8 (.val i64T (k:Int))) (fun (k:Nat)=>((Hp.none).set 0 (.box 49 idT zId)).set 1 (.row 49 idT ((l.take k).map idOf))) (fun (k:Nat)=>k≤l.length) (fun (k:Nat)=>l.length-k) (0) (uf _) ?_;intro k hinv;refine qar ?_;refine Cf (p:=k<l.length) (fun ht9=>?_) (fun ht9=>?_)
 ·
  obtain⟨x,hx⟩:∃x,l[k]?=some x:=ybi;refine CSQBQR ?_;refine qbz ?_;refine qc0 ?_;refine CNR ?_;refine A0 mO ?_;refine qcG ?_;refine A0 (oCl (id_ok _) rfl fn_44 yd) ?_;refine qbT ?_;refine xq ?_;refine zj (n:=1) (y:=(l.take (k+1)).map idOf) rfl (by rw[un,hx];simp) ?_;exact Nx (k+1) ya ya
 obtain rfl:k=l.length:=ya;refine aw_pub (d:=3) rfl rfl ?_;refine zi (d:=3) (y:=l.map idOf) rfl (by rw[List.take_length]) ?_;refine CE ?_;refine qaE ?_;refine A0 (oCl (zp6 (l.map idOf) yK) rfl zvV yd) ?_;refine qa5 ?_;refine CN ?_;exact z7 rfl rfl rfl rfl z6 (rfl)
def zcK:List Total→Total→Total
  | [],x=>x
  | y::r,x=>zcK r (zj1 y x)
def zbi (p:List Total):Total:=match p.reverse with
  | []=>⟨zgo [4],zc6,0⟩
  | x::r=>zcK r x
def zhE:List Total→Total→List Total
  | [],x=>[x]
  | y::r,x=>if y.n=x.n then zhE r (zj1 y x) else x::y::r
def zaE (p:List Total) (leaf:Total):List Total:=(zhE p.reverse leaf).reverse
theorem ztT:zbi []=⟨zgo [4],zc6,0⟩:=rfl
theorem mmrRoot_eq {p:List Total} {x:Total} {n:Nat} (hn:p.length=n+1) (hx:p[n]?=some x):zbi p=zcK (p.take n).reverse x:=by
  have e:p=p.take n++[x]:=by
    have:=un (l:=p) (i:=n)
    rw[uc ya,hx] at this;simpa using this
  unfold zbi
  conv=>lhs;rw[e]
  simp
theorem zp8 {p:List Total} {k:Nat} {x y:Total} (hx:p[k]?=some x):zcK (p.take (k+1)).reverse y=zcK (p.take k).reverse (zj1 x y):=by
  rw[un,hx];simp[zcK]
theorem zpd (p:List Total) (hp:p.length≤1000000):Tells P 116 [.val (bsl zbJ) p] (.val zbJ (zbi p)):=by
 refine zd Tryz.func116 rfl rfl rfl (fun ext w hext=>?_);refine ze (d:=0) rfl zm (fun hsl0=>?_);refine CQR ?_;refine zq ziL rfl rfl rfl rfl ?_;refine qbx ?_;refine A0 (zN rfl rfl zpi) ?_;refine A0 zaH ?_;refine CN ?_;refine Cf (p:=p.length=0) (fun ht8=>?_) (fun ht8=>?_)
 ·
  obtain rfl:p=[]:=List.length_eq_zero_iff.1 ht8;refine CQR ?_;refine qb7 ?_;refine A0 (oCl (zuO [4] yr) rfl fn_25 yd) ?_;refine A0 (zy rfl ziL bd_197 (.cons ziq zgJ z6 rfl .nil) rfl) ?_;refine qce ?_;refine CN ?_;exact z7 rfl rfl rfl rfl zd7 (ztT.symm)
 obtain⟨n,hn⟩:∃n,p.length=n+1:=⟨p.length-1,by omega⟩;obtain⟨x0,hx0⟩:∃x,p[n]?=some x:=yB;have hroot:=mmrRoot_eq hn hx0;refine CSQR ?_;refine qav ?_;refine A0 (zN rfl rfl zpi) ?_;refine A0 zbT ?_;refine A0 (zV (i:=n) rfl rfl rfl ya zkC yj) ?_;refine A0 (zf rfl rfl zd7) ?_;refine zq ziL rfl rfl rfl rfl ?_;refine qce ?_;refine CNQQR ?_;refine qav ?_;refine A0 (zN rfl rfl zpi) ?_;refine A0 zbT ?_;refine A0 (by first|exact zdy rfl rfl rfl yam zkC|exact zhi rfl rfl rfl zkC yg) ?_;refine zi (d:=22) (y:=p.take n) rfl (by congr 1;omega) ?_;refine zR rfl rfl rfl rfl Tryz.func180 fn_180 rfl rfl (fun ia1 iok1=>?_);refine qah ?_;refine qbY ?_;refine CNB ?_;refine ziA rfl rfl rfl Tryz.func237 fn_237 rfl rfl yO (fun fid2 ca2 lN2 DN2 cok2 rc2 hrc2=>?_);refine CQR ?_;refine A0 (oLs rfl rfl rfl zru) ?_;refine A0 (zN rfl rfl zpi) ?_;refine A0 zbT ?_;refine qcq ?_;refine zi (d:=3) (y:=(n:Int)-1) rfl yK ?_;refine Lp (ι:=Nat×Total) 5 (fun(k,y)=>((Fr.none.set 0 (.lit (.func (.yield lN2) #[] #[]))).set 1 (.ptr 2 0)).set 3 (.val i64T ((k:Int)-1))) (fun(k,y)=>((((Hp.none.set 0 (.box 197 zbJ zTotal)).set 1 (.box 197 zbJ y)).set 2 (.box 60 (bsl zbJ) (p.take n))).set 3 (.objAt DN2 (.deferred (some [])))).set 4 (.objAt lN2 (rc2 .ready none))) (fun(k,y)=>k≤n∧zbi p=zcK (p.take k).reverse y) (fun(k,y)=>k) ((n,x0)) (⟨ug _,hroot⟩) ?_;intro⟨k,y⟩ hinv;dsimp only at hinv;refine qbQ ?_;refine qcs ?_;refine Cf (p:=0<k) (fun ht8=>?_) (fun ht8=>?_)
 ·
  obtain⟨x,hx⟩:∃x,(p.take n)[k-1]?=some x:=⟨_,ub yK⟩;have hx2:p[k-1]?=some x:=by rw[List.getElem?_take] at hx;split at hx;exact hx;cases hx
  refine CSQBQR ?_;refine A0 mL ?_;refine qa7 ?_;refine A0 (oLs rfl rfl rfl zru) ?_;refine qa7 ?_;refine A0 (zV (i:=k-1) rfl rfl rfl ya zkC yj) ?_;refine A0 (zf rfl rfl zd7) ?_;refine ziz (nL:=4) rfl rfl rfl rfl rfl hrc2 rfl rfl rfl (fun ya3 yok3=>?_);refine CR ?_;refine zq ziL rfl rfl rfl rfl ?_;refine qce ?_;refine CN ?_;refine ziC (nL:=4) hrc2 rfl ?_;refine CB ?_;refine CR ?_;refine A0 (oLs rfl rfl rfl zd7) ?_;refine A0 (oLs rfl rfl rfl zd7) ?_;refine A0 (oCl (join_ok _ _) rfl fn_181 ye) ?_;refine qce ?_;refine CN ?_;refine CI ?_;refine zdS (nL:=4) hrc2 rfl ?_;refine qb3 ?_;refine Cg ?_;refine CSIR ?_;refine qcO ?_;refine qae ?_;refine zi (d:=3) (y:=((k-1:Nat):Int)-1) rfl ya ?_;exact Nx ((k-1,zj1 x y)) (⟨by omega,by rw[hinv.2,show k=k-1+1 by omega,zp8 hx2];rfl⟩) (by show k-1<k;omega)
 obtain rfl:k=0:=ya;refine CE ?_;refine zeQ (nL:=4) rfl hrc2 rfl yr ?_;refine CI ?_;refine CQR ?_;refine A0 (oLs rfl rfl rfl zd7) ?_;refine qce ?_;refine CN ?_;refine zay (zcn (nD:=3) rfl rfl rfl ?_);exact zrb rfl rfl rfl rfl zd7 (by rw[hinv.2];rfl)
theorem zlq (p:List Total) (leaf:Total) (hp:p.length≤1000000):Tells P 117 [.val (bsl zbJ) p,.val zbJ leaf] (.fresh 197 zbJ (zaE p leaf)):=by
 refine zd Tryz.func117 rfl rfl rfl (fun ext w hext=>?_);refine ze (d:=0) rfl zm (fun hsl0=>?_);refine qah ?_;refine A0 aL ?_;refine CN ?_;refine zwg (ι:=List Total×Total) 2 0 rfl rfl rfl (fun (i:List Total×Total)=>match i with|(r,x)=>((Fr.none).set 3 (.ptr 0 0)).set 5 (.own 1)) (fun (i:List Total×Total)=>match i with|(r,x)=>((Hp.none).set 0 (.box 197 zbJ leaf)).set 1 (.row 197 zbJ (r.reverse++[x]))) (fun (i:List Total×Total)=>match i with|(r,x)=>r.length≤1000000∧zhE r x=zhE p.reverse leaf) (fun (i:List Total×Total)=>match i with|(r,x)=>r.length) ?_ (fun hreach=>?_)
 ·
  intro⟨r,x⟩ hinv;dsimp only at hinv;refine qbZ ?_;refine A0 (zbe rfl rfl rfl zpi) ?_;refine zi (d:=13) (y:=((r.length+1:Nat):Int)) rfl yA ?_;refine qaQ ?_;refine qb0 ?_;refine G0 mV ?_;refine G0 zcy ?_;refine zaG (d:=15) (p:=r=[]) rfl (by rw[uo];show((r.length+1:Nat):Int)<2↔_;rw[←List.length_eq_zero_iff];omega) (fun g15=>?_) (fun g15=>?_)
  ·
   refine G0 mV ?_;refine qad ?_;refine qad ?_;refine G2 ?_;refine qby ?_;refine Ct ?_;refine qbZ ?_;refine qbJ ?_;exact zb rfl rfl (zh rfl rfl (by unfold zaE;rw[←hinv.2,g15];rfl))
  obtain⟨y,s,hr⟩:∃y s,r=y::s:=by cases r with|nil=>exact absurd rfl g15|cons y s=>exact⟨y,s,rfl⟩
  have hrl:r.length=s.length+1:=by rw[hr];rfl
  have hx1:(r.reverse++[x])[s.length]?=some y:=by rw[hr];simp
  have hx2:(r.reverse++[x])[s.length+1]?=some x:=by rw[List.getElem?_append_right (by simp[hrl])];simp[hrl]
  refine G0 mV ?_;refine G1 mO ?_;refine G1 mV ?_;refine G1 zbT ?_;refine G1 (zb8 (i:=s.length) rfl rfl rfl rfl yp zkC yg) ?_;refine G1 (znw rfl rfl zg6 rfl) ?_;refine G1 (zcO rfl rfl rfl rfl yj zfP ty_3) ?_;refine G1 mO ?_;refine G1 mV ?_;refine G1 zbT ?_;refine G1 (zb8 (i:=s.length+1) rfl rfl rfl rfl yp zkC yg) ?_;refine G1 (znw rfl rfl zg6 rfl) ?_;refine G1 (zcO rfl rfl rfl rfl yj zfP ty_3) ?_;refine G1 zcQ ?_;refine qby ?_;refine zn (p:=¬y.n=x.n) rfl yw (fun ht30=>?_) (fun ht30=>?_)
  ·
   refine qbZ ?_;refine qbJ ?_;exact zb rfl rfl (zh rfl rfl (by unfold zaE;rw[←hinv.2,hr,zhE,ur ht30];simp))
  refine qcH ?_;refine zA [some 1,some 1,some 1,some 1,some 1,some 1,some 1,some 1,some 1,some 1,some 1,some 1,some 1,some 1,some 1,some 1,none,some 1] mixed yc ?_;refine X0 mO ?_;refine X0 mV ?_;refine X0 zbT ?_;refine X0 (zpn (q:=s.length) rfl rfl rfl rfl zkC yp yg) ?_;refine X0 mO ?_;refine X0 mV ?_;refine X0 zbT ?_;refine X0 (zb8 (i:=s.length) rfl rfl rfl rfl yp zkC yg) ?_;refine X0 (zcO rfl rfl rfl rfl yj (Lens.self _) zd7) ?_;refine X0 mO ?_;refine X0 mV ?_;refine X0 zbT ?_;refine X0 (zb8 (i:=s.length+1) rfl rfl rfl rfl yp zkC yg) ?_;refine X0 (zcO rfl rfl rfl rfl yj (Lens.self _) zd7) ?_;refine X0 (oCl (join_ok _ _) rfl fn_181 ye) ?_;refine X0 (zL (T:=zbJ) (xs:=[_]) rfl zkC zmV yE rfl rfl) ?_;refine XK.e (fun fr' hfr kk H=>by exact zq9 rfl rfl rfl rfl ((hfr 35 yc).trans rfl) ((hfr 47 yc).trans rfl) rfl zmV yK (zt H)) ?_;refine X0 aS ?_;refine XK.nil' ?_;refine ztf (d:=5) rfl rfl rfl yK ?_;refine zaz 2 1 3 rfl rfl rfl rfl rfl rfl ?_;refine zj (n:=1) (y:=s.reverse++[zj1 y x]) rfl (by simp[hr,List.take_append];exact uc yA) ?_;exact aw_goto ((s,zj1 y x)) rfl (⟨by omega,by rw[←hinv.2,hr,zhE,ut (ua ht30)]⟩) (by show s.length<r.length;omega) rfl (by (repeat refine Fr.le_set ?_ yaP);exact Fr.le_none _) (by (repeat refine Hp.le_set ?_ rfl);exact Hp.le_none _) (by (repeat refine Fr.below_setB ?_ rfl);exact Fr.below_none _) (by (repeat refine Hp.below_set ?_ yr);exact Hp.below_none _)
 refine CQ ?_;refine zA [some 1,none,some 2,some 2,none,some 1] mixed yc ?_;refine X0 mV ?_;refine XK.e (fun fr' hfr kk H=>by exact zaQ (zpA p y6) rfl fn_182 ⟨(zc ((hfr 7 yc).trans rfl)),trivial⟩ rfl rfl rfl (zt H)) ?_;refine XK.gb (t:=3) rfl rfl (fun _ he=>zr rfl rfl he (Lens.self _) zd7) rfl yE rfl rfl rfl ?_;refine XK.g2 (zL (T:=zbJ) (xs:=[_]) rfl zkC zmV yE rfl rfl) (zL (T:=zbJ) (xs:=[_]) rfl zkC zmV yE rfl rfl) rfl rfl rfl ?_;refine XK.e (fun fr' hfr kk H=>by exact zC rfl rfl rfl rfl ((hfr 8 yc).trans rfl) rfl ((hfr 10 yc).trans rfl) zmV yK (zt H)) ?_;refine X0 aO ?_;refine XK.nil' ?_;refine CQR ?_;refine qaQ ?_;refine zaz 2 1 3 rfl rfl rfl rfl rfl rfl ?_;refine zj (n:=1) (y:=p.reverse.reverse++[leaf]) rfl yA ?_;exact zwj hreach ((p.reverse,leaf)) rfl (⟨by simp;omega,rfl⟩) rfl (by (repeat refine Fr.le_set ?_ yaP);exact Fr.le_none _) (by (repeat refine Hp.le_set ?_ rfl);exact Hp.le_none _) (by (repeat refine Fr.below_setB ?_ rfl);exact Fr.below_none _) (by (repeat refine Hp.below_set ?_ yr);exact Hp.below_none _)
theorem growNilId (n:Nat) (hn:n≤1000000):Tells P 327 [.lit (.slice none 0 0),.val i64T (n:Int)] (.fresh 49 idT []):=by
 refine zd Tryz.func327 rfl rfl rfl (fun ext w hext=>?_);refine ze (d:=1) rfl zu (fun hin1=>?_);refine qa9 ?_;refine qbx ?_;refine qbr ?_;refine zae rfl (uh (by show ¬((n:Int)<0);omega)) ?_;refine qc2 ?_;refine A0 mL ?_;refine A0 (zj9 rfl rfl zfA) ?_;refine A0 mL ?_;refine qcg ?_;refine A0 zbT ?_;refine A0 zbT ?_;refine qaL ?_;refine qcL ?_;refine zn (p:=0<n) rfl ybr (fun ht16=>?_) (fun ht16=>?_)
 ·
  refine CR ?_;refine A0 mL ?_;refine A0 mL ?_;refine A0 (zj9 rfl rfl zfA) ?_;refine A0 yag ?_;refine qa7 ?_;refine zpL (T:=idT) (n:=n) rfl rfl rfl rfl rfl rfl yam zfU ze_49 (ui_3) (⟨by assumption,by omega,by omega⟩) ?_;refine A0 mL ?_;refine qcg ?_;refine A0 (zpn (q:=0) rfl rfl rfl rfl zdD yp yg) ?_;refine A0 aS ?_;refine CNQR ?_;refine A0 mS ?_;refine A0 aS ?_;refine CN ?_;exact zb rfl rfl (zmX rfl rfl yK rfl)
 refine CSQR ?_;refine A0 mL ?_;refine A0 aL ?_;refine CN ?_;exact zb rfl rfl (zx rfl)
theorem concatId (ls:List (List Ab.Id)) (hl:ls.flatten.length≤1000000):Tells P 280 [.val (bsl (bsl idT)) ls] (.fresh 49 idT ls.flatten):=by
 refine zd Tryz.func280 rfl rfl rfl (fun ext w hext=>?_);refine ze (d:=0) rfl zm (fun hsl0=>?_);refine qcn ?_;refine qap ?_;refine A0 (zN rfl rfl isl_391) ?_;refine qaH ?_;refine Lp (ι:=Nat) 0 (fun (k:Nat)=>(((((Fr.none).set 0 (.val (bsl (bsl idT)) ls)).set 3 (.val i64T ((ls.take k).flatten.length:Int))).set 9 (.val (bsl (bsl idT)) ls)).set 10 (.val i64T (ls.length:Int))).set 11 (.val i64T (k:Int))) (fun (k:Nat)=>Hp.none) (fun (k:Nat)=>k≤ls.length) (fun (k:Nat)=>ls.length-k) (0) (uf _) ?_;intro k hinv;refine qar ?_;refine Cf (p:=k<ls.length) (fun ht12=>?_) (fun ht12=>?_)
 ·
  obtain⟨x,hx⟩:∃x,ls[k]?=some x:=⟨_,ub ht12⟩;have hle:=zf0 ls (k+1);rw[zbE hx,ue] at hle;refine CSQBQR ?_;refine A0 (zbu rfl rfl rfl sl_391 yj) ?_;refine A0 (zf rfl rfl zcc) ?_;refine A0 aX ?_;refine CNQR ?_;refine qa7 ?_;refine A0 mX ?_;refine qcg ?_;refine A0 zdl ?_;refine qaL ?_;refine qbr ?_;refine zae rfl (uh yy) ?_;refine qbq ?_;refine zi (d:=3) (y:=((ls.take (k+1)).flatten.length:Int)) rfl (by rw[zbE hx,ue];omega) ?_;exact Nx (k+1) ya ya
 refine zi (d:=3) (y:=((ls.flatten.length:Nat):Int)) rfl yT ?_;refine CE ?_;refine qaE ?_;refine zaQ (growNilId ls.flatten.length hl) rfl fn_327 ybQ rfl rfl rfl ?_;refine A0 aO ?_;refine qbx ?_;refine A0 (zN rfl rfl isl_391) ?_;refine qaH ?_;refine Lp (ι:=Nat) 1 (fun k=>(((Fr.none.set 6 (.own 0)).set 25 (.val (bsl (bsl idT)) ls)).set 26 (.val i64T (ls.length:Int))).set 27 (.val i64T (k:Int))) (fun k=>Hp.none.set 0 (.row 49 idT (ls.take k).flatten)) (fun k=>k≤ls.length) (fun k=>ls.length-k) (0) (uf _) ?_;intro k hinv;refine qar ?_;refine Cf (p:=k<ls.length) (fun ht28=>?_) (fun ht28=>?_)
 ·
  obtain⟨x,hx⟩:∃x,ls[k]?=some x:=⟨_,ub ht28⟩;have hle:=zf0 ls (k+1);rw[zbE hx,ue] at hle;refine CSQBQR ?_;refine A0 (zbu rfl rfl rfl sl_391 yj) ?_;refine A0 (zf rfl rfl zcc) ?_;refine A0 aX ?_;refine CNR ?_;refine A0 mO ?_;refine A0 mX ?_;refine zC rfl rfl rfl rfl rfl rfl rfl zfU ya ?_;refine A0 aO ?_;refine qbt ?_;refine xh ?_;refine zj (n:=0) rfl (zbE hx).symm ?_;exact Nx (k+1) ya ya
 refine qaS ?_;exact zb rfl rfl (zh rfl rfl yT)
def mulM (x y:UInt64):UInt64:=zaY x 32*(y&&&4294967295)+zaY ((x&&&4294967295)*(y&&&4294967295)) 32
def mulHi (x y:UInt64):UInt64:=zaY x 32*zaY y 32+zaY (mulM x y) 32+zaY ((mulM x y&&&4294967295)+(x&&&4294967295)*zaY y 32) 32
theorem mul64_ok (x y:UInt64):Tells P 361 [.val u64T x,.val u64T y] (.tup2 (.val u64T (mulHi x y)) (.val u64T (x*y))):=by
 refine zd Tryz.func361 rfl rfl rfl (fun ext w hext=>?_);refine CQR ?_;refine A0 aV ?_;refine qaL ?_;refine A0 (zqO rfl rfl rfl) ?_;refine qaL ?_;refine xf ?_;refine qaL ?_;refine A0 (zqO rfl rfl rfl) ?_;refine qaL ?_;refine xf ?_;refine qbv ?_;refine A0 (zkZ rfl rfl rfl) ?_;refine qbv ?_;refine A0 (zkZ rfl rfl rfl) ?_;refine qa7 ?_;refine xf ?_;refine A0 (znz rfl rfl rfl) ?_;refine qaL ?_;refine A0 (zqO rfl rfl rfl) ?_;refine qaL ?_;refine xf ?_;refine qbv ?_;refine qa7 ?_;refine A0 (zkZ rfl rfl rfl) ?_;refine A0 (znz rfl rfl rfl) ?_;refine qbv ?_;refine A0 (zkZ rfl rfl rfl) ?_;refine qa7 ?_;refine A0 (znz rfl rfl rfl) ?_;refine qa7 ?_;refine xf ?_;refine A0 (znz rfl rfl rfl) ?_;refine qbv ?_;refine A0 (zkZ rfl rfl rfl) ?_;refine qae ?_;exact zac rfl rfl (za rfl rfl) (za rfl rfl)
theorem mulU_ok (x y:UInt64):Tells P 328 [.val u64T x,.val u64T y] (.tup2 (.val u64T (mulHi x y)) (.val u64T (x*y))):=by
 refine zd Tryz.func328 rfl rfl rfl (fun ext w hext=>?_);refine CQR ?_;refine A0 aV ?_;refine qaQ ?_;refine Cg ?_;refine CSQR ?_;refine qav ?_;refine A0 (oCl (mul64_ok _ _) rfl fn_361 ye) ?_;refine qaN ?_;refine A0 aV ?_;refine qbv ?_;refine qck ?_;exact zac rfl rfl (za rfl rfl) (za rfl rfl)
theorem mulHi_one {n:Nat} (h:n≤1000000):mulHi 1 (z2 (IntL.toI i64T (n:Int)))=0:=by
  have e:(z2 (IntL.toI i64T (n:Int))).toNat=n:=by
    unfold z2;show(UInt64.ofNat ((n:Int)%18446744073709551616).toNat).toNat=n;rw[UInt64.toNat_ofNat_of_lt' yac];omega
  obtain⟨y,hy⟩:∃y,y=z2 (IntL.toI i64T (n:Int)):=⟨_,rfl⟩;rw[←hy] at e ⊢;have a1:zaY (1:UInt64) 32=0:=yr;have a2:zaY y 32=0:=by
    apply UInt64.toNat_inj.1;rw[zbh y yr,e];show n/4294967296=0;omega
  have a3:y&&&4294967295=y:=by
    apply UInt64.toNat_inj.1;rw[UInt64.toNat_and,e];show n&&&(2^32-1)=n;rw[Nat.and_two_pow_sub_one_eq_mod];omega
  have a4:(1:UInt64)&&&4294967295=1:=yr;unfold mulHi mulM;rw[a1,a2,a3,a4,UInt64.one_mul,a2];simp;rfl
theorem mulLo_one {n:Nat} (h:n≤1000000):IntKind.i64.wrap (IntL.toI u64T (1*z2 (IntL.toI i64T (n:Int))))=(n:Int):=by
  have e:(z2 (IntL.toI i64T (n:Int))).toNat=n:=by
    unfold z2;show(UInt64.ofNat ((n:Int)%18446744073709551616).toNat).toNat=n;rw[UInt64.toNat_ofNat_of_lt' yac];omega
  rw[UInt64.one_mul];show IntKind.i64.wrap (((z2 (IntL.toI i64T (n:Int))).toNat:Nat):Int)=n;rw[e,zas ya]
theorem u64_small {n:Nat} (h:n≤1000000):(z2 (IntL.toI i64T (n:Int))).toNat=n:=by
  unfold z2;show(UInt64.ofNat ((n:Int)%18446744073709551616).toNat).toNat=n;rw[UInt64.toNat_ofNat_of_lt' yac];omega
theorem rep_step {x:Ab.Id} {l:List Ab.Id} {i m N:Nat} (hl:l.length=N) (hi:i+m≤N) (hm:m≤i) (h:l.take i=List.replicate i x):(l.take i++(l.take i).take m++l.drop (i+m)).take (i+m)=List.replicate (i+m) x:=by
  rw[h,List.take_replicate,Nat.min_eq_left hm,←List.replicate_append_replicate,List.take_append_of_le_length yA,uc yA]
theorem repeatId (x:Ab.Id) (n:Nat) (hn:1≤n∧n≤1000):Tells P 281 [.val (bsl idT) [x],.val i64T (n:Int)] (.fresh 49 idT (List.replicate n x)):=by
 refine zd Tryz.func281 rfl rfl rfl (fun ext w hext=>?_);refine ze (d:=0) rfl zm (fun hsl0=>?_);refine ze (d:=1) rfl zu (fun hin1=>?_);refine qa9 ?_;refine qbx ?_;refine qbr ?_;refine zae rfl (uh yy) ?_;refine qc4 ?_;refine qcf ?_;refine xe ?_;refine qa7 ?_;refine xe ?_;refine A0 (oCl (mulU_ok 1 (z2 (IntL.toI i64T (n:Int)))) rfl fn_328 ye) ?_;refine qa4 ?_;refine zi (d:=19) (y:=(0:UInt64)) rfl (mulHi_one ya) ?_;refine qaD ?_;refine A0 aV ?_;refine qap ?_;refine A0 zbH ?_;refine zw (d:=22) rfl (rfl) ?_;refine qa7 ?_;refine qcV ?_;refine A1 zbH ?_;refine zw (d:=25) rfl (uh (by rw[UInt64.one_mul];show ¬((9223372036854775807:Int)<(((z2 (IntL.toI i64T (n:Int))).toNat:Nat):Int));rw[u64_small ya];omega)) ?_;refine qau ?_;refine Cg ?_;refine qc4 ?_;refine A0 (znx rfl (ui_3) (us_234) rfl (mulLo_one ya)) ?_;refine aw_mks (T:=idT) (n:=n) rfl rfl rfl rfl rfl rfl yp yp zfU ze_49 ⟨by omega,by omega,(show(n)*32≤16777216 by omega)⟩ ?_;refine A0 aO ?_;refine CNQR ?_;refine A0 mO ?_;refine qa7 ?_;refine aw_copy_o rfl rfl rfl rfl rfl rfl rfl zfU (m:=1) yK yK ?_;refine A0 aX ?_;refine CNQ ?_;refine CB ?_;refine Lp (ι:=Nat×List Ab.Id) 1 (fun (i:Nat×List Ab.Id)=>match i with|(i,l)=>((Fr.none).set 7 (.own 0)).set 8 (.val i64T (i:Int))) (fun (i:Nat×List Ab.Id)=>match i with|(i,l)=>(Hp.none).set 0 (.row 49 idT l)) (fun (i:Nat×List Ab.Id)=>match i with|(i,l)=>l.length=n∧1≤i∧i≤n∧l.take i=List.replicate i x) (fun (i:Nat×List Ab.Id)=>match i with|(i,l)=>n-i) ((1,[x]++(List.replicate n zId).drop 1)) (⟨by simp;omega,by omega,by omega,by simp⟩) ?_;intro⟨i,l⟩ hinv;dsimp only at hinv;refine qbQ ?_;refine A0 mO ?_;refine A0 (zbe rfl rfl rfl zfA) ?_;refine qbr ?_;refine zn (p:=i<n) rfl (by rw[uo];simp only[IntL.toI,id_eq,hinv.1];omega) (fun ht37=>?_) (fun ht37=>?_)
 ·
  refine CS ?_;refine CB ?_;refine zA [some 1000001,some 1,some 1,some 1,some 1,some 1,some 1,none,some 1,some 1] mixed yc ?_;refine XK.ga (fun _=>g_mv (.inl rfl) rfl) rfl rfl rfl ?_;refine X0 mO ?_;refine X0 mV ?_;refine X0 (g_os_l (p:=i) rfl rfl rfl rfl zdD yp yg) ?_;refine X0 mO ?_;refine X0 mV ?_;refine X0 (zpn (q:=i) rfl rfl rfl rfl zdD yp yg) ?_;refine XK.e (fun fr' hfr kk H=>by exact aw_copy_in rfl rfl rfl rfl ((hfr 41 yc).trans rfl) ((hfr 44 yc).trans rfl) rfl zfU (m:=min i (n-i)) ya ya (zt H)) ?_;refine X0 zdl ?_;refine X0 aV ?_;refine XK.nil' ?_;refine CI ?_;exact Nx ((i+min i (n-i),l.take i++(l.take i).take (min i (n-i))++l.drop (i+min i (n-i)))) (⟨by simp;omega,by omega,by omega,rep_step hinv.1 ya ya hinv.2.2.2⟩) (by show n-(i+min i (n-i))<n-i;omega)
 refine qaS ?_;exact zb rfl rfl (zh rfl rfl (by have h:=hinv.2.2.2;rw[uc ya] at h;rw[h];congr 1;omega))
def zdY (l:List Ab.Id) (id:Ab.Id) (level:Int):List Ab.Id:=if 32<l.length then [] else if l.length=0 then [id] else if level<1 then l else l.take 1++List.replicate (min level 31).toNat id++l.drop ((min level 31).toNat+1)
theorem ztW (l:List Ab.Id) (id:Ab.Id) (level:Int):Tells P 245 [.val (bsl idT) l,.val idT id,.val i64T level] (.fresh 49 idT (zdY l id level)):=by
 refine zd Tryz.func245 rfl rfl rfl (fun ext w hext=>?_);refine ze (d:=0) rfl zm (fun hsl0=>?_);refine ze (d:=2) rfl zu (fun hin2=>?_);refine qah ?_;refine A0 aL ?_;refine CNQ ?_;refine CB ?_;refine qaE ?_;refine qcf ?_;refine A0 zbH ?_;refine Sp (d:=12) (p:=32<l.length) (fun g12=>?_) (fun g12=>?_)
 ·
  refine qae ?_;refine Ct ?_;refine qa9 ?_;refine CN ?_;exact zb rfl rfl (by unfold zdY;rw[ut g12];exact zx rfl)
 refine qae ?_;refine Cg ?_;refine qaE ?_;refine qcf ?_;refine A0 zaH ?_;refine Sp (d:=16) (p:=l.length=0) (fun g16=>?_) (fun g16=>?_)
 ·
  refine qae ?_;refine Ct ?_;refine CQR ?_;refine qbG ?_;refine zb9 (T:=idT) (xs:=[_]) rfl rfl rfl rfl zdD zfU yE rfl rfl ?_;refine qbJ ?_;exact zb rfl rfl (zh rfl rfl (by unfold zdY;rw[ur g12,ut g16]))
 refine qae ?_;refine Cg ?_;refine qaE ?_;refine A0 zcy ?_;refine Sp (d:=21) (p:=level<1) (fun g21=>?_) (fun g21=>?_)
 ·
  refine qae ?_;refine Ct ?_;refine qaE ?_;refine zaQ (zh4 l y6) rfl zsN yd rfl rfl rfl ?_;refine qbJ ?_;exact zb rfl rfl (zh rfl rfl (by unfold zdY;rw[ur g12,ur g16,ut g21]))
 refine qae ?_;refine Cg ?_;refine CS ?_;refine CI ?_;refine qaE ?_;refine A0 (g_min rfl rfl rfl) ?_;refine A0 (zlZ rfl rfl rfl (show _=((((min level 31).toNat+1:Nat):Int):Int) from(zas ya).trans ya)) ?_;refine qaQ ?_;refine zA [some 1,some 1,some 1,some 1,some 1,some 1,some 1,some 1,none,some 1] mixed yc ?_;refine X0 mV ?_;refine X0 yag ?_;refine X0 (oLs rfl rfl rfl z6) ?_;refine X0 (zL (T:=idT) (xs:=[_]) rfl zdD zfU yE rfl rfl) ?_;refine X0 mV ?_;refine X0 (zkX rfl rfl rfl (show _=(((min level 31).toNat:Int):Int) from(zas ya).trans ya)) ?_;refine X0 (znv (T:=sl idT) (S:=bsl idT) (zd1 (zB (repeatId id (min level 31).toNat ya)) rfl fn_281 ye rfl)) ?_;refine X0 (zL (T:=(bsl idT)) (xs:=[_,_]) rfl sl_391 row_391 yao rfl rfl) ?_;refine XK.e (fun fr' hfr kk H=>by exact zaQ (concatId [l.take 1,List.replicate (min level 31).toNat id] yK) rfl fn_280 ⟨(zc ((hfr 34 yc).trans rfl)),trivial⟩ rfl rfl rfl (zt H)) ?_;refine X0 aO ?_;refine XK.nil' ?_;refine qbQ ?_;refine qcf ?_;refine qa7 ?_;refine qcL ?_;refine Cf (p:=(min level 31).toNat+1<l.length) (fun ht39=>?_) (fun ht39=>?_)
 ·
  refine qcP ?_;refine qav ?_;refine A0 (zhh rfl rfl rfl zdD yg) ?_;refine zC rfl rfl rfl rfl rfl rfl rfl zfU yK ?_;refine A0 aO ?_;refine CNQR ?_;refine A0 mO ?_;refine qbJ ?_;exact zb rfl rfl (zh rfl rfl (by unfold zdY;rw[ur g12,ur g16,ur g21];simp;omega))
 refine CSQR ?_;refine A0 mO ?_;refine qbJ ?_;exact zb rfl rfl (zh rfl rfl (by unfold zdY;rw[ur g12,ur g16,ur g21,List.drop_of_length_le ya];simp))
def zfX:Nat→Head→Option Head
  | 0,_=>none
  | n+1,h=>if zcl h=true then some h else zfX n { h with nonce:=h.nonce+1 }
def zhG (h:Head) (tries:Int):Option Head:=zfX (min tries 200).toNat h
theorem zjX {n:Nat} {h:Head} (hn:0<n) (hm:¬zcl h=true):zfX n h=zfX (n-1) { h with nonce:=h.nonce+1 }:=by
  obtain⟨m,rfl⟩:∃m,n=m+1:=⟨n-1,by omega⟩;rw[zfX,ur hm];rfl
theorem zhH {n:Nat} {h:Head} (hn:0<n) (hm:zcl h=true):zfX n h=some h:=by
  obtain⟨m,rfl⟩:∃m,n=m+1:=⟨n-1,by omega⟩;rw[zfX,ut hm]
theorem mine_ok (h:Head) (tries:Int):Tells P 231 [.val zbU h,.val i64T tries] (.tup2 (.val zbU ((zhG h tries).getD h)) (.val zl (zhG h tries).isSome)):=by
 refine zd Tryz.func231 rfl rfl rfl (fun ext w hext=>?_);refine ze (d:=1) rfl zu (fun hin1=>?_);refine qah ?_;refine qcY ?_;refine zq ze_4 rfl rfl rfl rfl ?_;refine CNQQR ?_;refine qc7 ?_;refine qa7 ?_;refine zR rfl rfl rfl rfl Tryz.func272 fn_272 rfl rfl (fun ia1 iok1=>?_);refine qaA ?_;refine A0 aL ?_;refine CNQR ?_;refine A0 (zj6 (caps:=[_,_]) rfl rfl) ?_;refine A0 aC ?_;refine CN ?_;refine zcw rfl ?_;refine CNB ?_;refine ziA rfl rfl rfl Tryz.func322 fn_322 rfl rfl yab (fun fid2 ca2 lN2 DN2 cok2 rc2 hrc2=>?_);refine CQR ?_;refine A0 (oLs rfl rfl rfl ty_3) ?_;refine A0 (g_min rfl rfl rfl) ?_;refine qaH ?_;refine Lp (ι:=Nat×Head) 7 (fun(k,g)=>((((Fr.none.set 0 (.lit (.func (.yield lN2) #[] #[]))).set 1 (.ptr 4 0)).set 2 (.ptr 3 0)).set 5 (.val i64T (min tries 200))).set 6 (.val i64T (k:Int))) (fun(k,g)=>((((((Hp.none.set 0 (.box 55 zbU h)).set 1 (.box 55 zbU zkv)).set 2 (.box 4 zl false)).set 3 (.box 55 zbU g)).set 4 (.box 3 i64T tries)).set 5 (.objAt DN2 (.deferred (some [])))).set 6 (.objAt lN2 (rc2 .ready none))) (fun(k,g)=>k≤(min tries 200).toNat∧zhG h tries=zfX ((min tries 200).toNat-k) g) (fun(k,g)=>(min tries 200).toNat-k) ((0,h)) (⟨uf _,rfl⟩) ?_;intro⟨k,g⟩ hinv;dsimp only at hinv;refine qar ?_;refine Cf (p:=(k:Int)<min tries 200) (fun ht7=>?_) (fun ht7=>?_)
 ·
  refine qcH ?_;refine CB ?_;refine CQQR ?_;refine A0 mL ?_;refine qc7 ?_;refine ziz (nL:=6) rfl rfl rfl rfl rfl hrc2 rfl rfl rfl (fun ya3 yok3=>?_);refine CR ?_;refine qcY ?_;refine qbu ?_;refine CN ?_;refine ziC (nL:=6) hrc2 rfl ?_;refine CB ?_;refine CQR ?_;refine qc7 ?_;refine A0 (oCl (zkT _) rfl fn_120 yd) ?_;refine CN ?_;refine zn (p:=zcl g=true) rfl yA (fun ht12=>?_) (fun ht12=>?_)
  ·
   refine CQR ?_;refine qc7 ?_;refine qbu ?_;refine zg rfl rfl rfl rfl rfl (Lens.self _) ty_4 rfl ?_;refine CN ?_;refine zlE (nL:=6) hrc2 rfl ?_;refine qb3 ?_;refine Ct ?_;refine zha (nL:=6) rfl hrc2 rfl yr ?_;refine zay (zcn (nD:=5) rfl rfl rfl ?_);exact zko rfl rfl (zs rfl rfl zaX (by rw[hinv.2,zhH ya ht12];rfl)) (zs rfl rfl ty_4 (by rw[hinv.2,zhH ya ht12];rfl))
  refine CS ?_;refine CI ?_;refine zdS (nL:=6) hrc2 rfl ?_;refine qb3 ?_;refine Cg ?_;refine CS ?_;refine CR ?_;refine A0 (oFp zge) ?_;refine A0 (oLb zc5 zct) ?_;refine A0 (znz rfl rfl rfl) ?_;refine A0 (oFp zge) ?_;refine zg rfl rfl rfl rfl rfl zc5 zct rfl ?_;refine qbt ?_;exact Nx ((k+1,{ g with nonce:=g.nonce+1 })) (⟨by omega,by rw[hinv.2,zjX ya ht12];rfl⟩) (by show(min tries 200).toNat-(k+1)<(min tries 200).toNat-k;omega)
 refine CE ?_;refine zeQ (nL:=6) rfl hrc2 rfl yr ?_;refine CI ?_;refine CQR ?_;refine qc7 ?_;refine qbu ?_;refine zg rfl rfl rfl rfl rfl (Lens.self _) ty_4 rfl ?_;refine CN ?_;refine zay (zcn (nD:=5) rfl rfl rfl ?_);exact zko rfl rfl (zs rfl rfl zaX (by rw[hinv.2,show(min tries 200).toNat-k=0 by omega];rfl)) (zs rfl rfl ty_4 (by rw[hinv.2,show(min tries 200).toNat-k=0 by omega];rfl))
def zfe (h:Head):Total:=leafT (za5 h) (zff h)
def zhf (t:Tip):List Ab.Id:=zdY t.b.l (za5 t.b.h) (zat t.b.h)
def zcW (t:Tip) (l:List Tx) (nonce:UInt64):Head:=⟨IntKind.i64.wrap (t.b.h.height+1),za5 t.b.h,zcM (zhf t),zrA l,(zbi t.p).h,(zbi t.p).w,t.b.h.bits,nonce⟩
def ziV (bits:UInt32):Head:=⟨0,zId,zcM [],zrA [],(zbi []).h,zc6,bits,0⟩
def zan (bits:UInt32):Tip:=if zbG bits=true then ⟨⟨ziV bits,[],[]⟩,zaE [] (zfe (ziV bits)),[]⟩ else zTip
def ze2 (h:Head):Head:={ zkv with height:=h.height,prev:=h.prev,bits:=h.bits }
theorem zsd {l:List Ab.Id} {id:Ab.Id} {level:Int}:(zdY l id level).length≤64:=by
  unfold zdY
  split
  · simp
  split
  · simp
  split
  · omega
  simp;omega
def zkB (t:Tx):Prop:=t.ins.length*40≤140737488351232∧t.outs.length*16≤140737488351232
def zrL (l:List Tx):Prop:=l.length*48≤140737488351232∧∀t∈l,zkB t
def zjD (b:Block):Prop:=b.l.length*32≤140737488351232∧zrL b.t
def zfT (t:Tip):Prop:=zjD t.b∧t.p.length≤1000∧t.c.length≤1000
theorem set_same {α:Type} {l:List α} {k:Nat} {x:α} (h:l[k]?=some x):l.set k x=l:=by
  obtain⟨hk,rfl⟩:=ul.1 h;exact List.set_getElem_self hk
theorem zvu (h:Head):Tells P 118 [.val zbU h] (.val zbJ (zfe h)):=by
 refine zd Tryz.func118 rfl rfl rfl (fun ext w hext=>?_);refine qah ?_;refine zq ziL rfl rfl rfl rfl ?_;refine CNQ ?_;refine zA [some 1,some 1,some 1,some 1,some 1,none] mixed yc ?_;refine X0 (oLs rfl rfl rfl zaX) ?_;refine X0 (oCl (zgw _) rfl fn_23 yd) ?_;refine X0 (oLs rfl rfl rfl zaX) ?_;refine X0 (oCl (zt5 _) rfl fn_184 yd) ?_;refine X0 (oCl (mleaf_ok _ _) rfl fn_183 ye) ?_;refine XK.e (x:=.idk) (fun fr' hfr kk H=>by exact zg rfl rfl rfl ((hfr 2 yc).trans rfl) rfl (Lens.self _) zd7 ((hfr 7 yc).trans rfl) (zt H)) ?_;refine XK.nil' ?_;exact z7 rfl rfl rfl rfl zd7 (rfl)
theorem znf (t:Tip):Tells P 190 [.val tipT t] (.fresh 49 idT (zhf t)):=by
 refine zd Tryz.func190 rfl rfl rfl (fun ext w hext=>?_);refine qah ?_;refine A0 aL ?_;refine CNQ ?_;refine zA [some 1,some 1,some 1,some 1,some 1,some 1,some 1,some 1,some 1,some 1,some 1,none,some 1] mixed yc ?_;refine X0 (oFp zel) ?_;refine X0 (oFp zgd) ?_;refine X0 (oLb (zev.comp zdu) zcc) ?_;refine X0 (oFp zel) ?_;refine X0 (oFp zce) ?_;refine X0 (oLb (zev.comp zaN) zaX) ?_;refine X0 (oCl (zgw _) rfl fn_23 yd) ?_;refine X0 (oFp zel) ?_;refine X0 (oFp zce) ?_;refine X0 (oLb (zev.comp zaN) zaX) ?_;refine X0 (oCl (zfY _) rfl zvS yd) ?_;refine XK.e (fun fr' hfr kk H=>by exact zaQ (ztW t.b.l (za5 t.b.h) (zat t.b.h)) rfl fn_245 ⟨(zc ((hfr 5 yc).trans rfl)),(zc ((hfr 9 yc).trans rfl)),(zc ((hfr 13 yc).trans rfl)),trivial⟩ rfl rfl rfl (zt H)) ?_;refine X0 aO ?_;refine XK.nil' ?_;exact zb rfl rfl (zh rfl rfl rfl)
theorem zvi (t:Tip) (l:List Tx) (nonce:UInt64) (hl:l.length≤4000000000000) (hp:t.p.length≤1000000):Tells P 127 [.val tipT t,.val (bsl txT) l,.val u64T nonce] (.val zbU (zcW t l nonce)):=by
 have hlk:(zhf t).length≤64:=zsd;refine zd Tryz.func127 rfl rfl rfl (fun ext w hext=>?_);refine ze (d:=1) rfl zm (fun hsl1=>?_);refine qah ?_;refine qcY ?_;refine CNQR ?_;refine A0 (oFp zk4) ?_;refine A0 (oLb zlb zru) ?_;refine A0 (oCl (zpd t.p hp) rfl fn_116 yd) ?_;refine zq ziL rfl rfl rfl rfl ?_;refine qce ?_;refine CNQ ?_;refine zA [some 1,some 1,some 1,some 1,some 1,some 1,some 1,some 1,some 1,some 1,some 1,some 1,some 1,some 1,some 1,some 1,some 1,some 1,some 1,some 1,some 1,some 1,some 1,some 1,none] mixed yc ?_;refine X0 (oFp zel) ?_;refine X0 (oFp zce) ?_;refine X0 (oFp zcf) ?_;refine X0 (oLb ((zev.comp zaN).comp zaa) ty_3) ?_;refine X0 zdl ?_;refine X0 (oFp zel) ?_;refine X0 (oFp zce) ?_;refine X0 (oLb (zev.comp zaN) zaX) ?_;refine X0 (oCl (zgw _) rfl fn_23 yd) ?_;refine X0 (oLs rfl rfl rfl zec) ?_;refine X0 (oCl (zB (znf t)) rfl fn_190 yd) ?_;refine X0 (oCl (zjb (zhf t) ya) rfl fn_114 yd) ?_;refine X0 mV ?_;refine X0 (oCl (zrz l hl) rfl fn_115 yd) ?_;refine X0 (oFp ziq) ?_;refine X0 (oLb zgJ z6) ?_;refine X0 (oFp zio) ?_;refine X0 (oLb zgI zaO) ?_;refine X0 (oFp zel) ?_;refine X0 (oFp zce) ?_;refine X0 (oFp zcX) ?_;refine X0 (oLb ((zev.comp zaN).comp za2) zcd) ?_;refine X0 mV ?_;refine X0 (zy rfl zon bd_55 (.cons zcf zaa ty_3 rfl (.cons zfF zc4 z6 rfl (.cons zfE zcs z6 rfl (.cons zgf zew z6 rfl (.cons zhZ zfR z6 rfl (.cons zji zhc zaO rfl (.cons zcX za2 zcd rfl (.cons zge zc5 zct rfl .nil)))))))) rfl) ?_;refine XK.e (x:=.idk) (fun fr' hfr kk H=>by exact zg rfl rfl rfl ((hfr 6 yc).trans rfl) rfl (Lens.self _) zaX ((hfr 34 yc).trans rfl) (zt H)) ?_;refine XK.nil' ?_;exact z7 rfl rfl rfl rfl zaX (rfl)
theorem zjg (bits:UInt32):Tells P 52 [.val u32T bits] (.tup2 (.val tipT (zan bits)) (.val zl (zbG bits))):=by
 refine zd Tryz.func52 rfl rfl rfl (fun ext w hext=>?_);refine CQR ?_;refine zq zlJ rfl rfl rfl rfl ?_;refine qap ?_;refine A0 (oCl (zmE _) rfl fn_113 yd) ?_;refine qaN ?_;refine qbd ?_;refine qaz ?_;refine qaL ?_;refine qb3 ?_;refine zn (p:=¬zbG bits=true) rfl (by cases zbG bits<;>rfl) (fun ht13=>?_) (fun ht13=>?_)
 ·
  refine CQR ?_;refine A0 (zy rfl zlJ zus .nil rfl) ?_;refine qbc ?_;refine qae ?_;exact zp rfl rfl (zs rfl rfl zec (by unfold zan;rw[ur ht13])) (zQ (za rfl (by simpa using ht13)))
 refine CSQR ?_;refine A0 (oCl (zjb [] yr) rfl fn_114 ybM) ?_;refine A0 (oCl (zrz [] yr) rfl fn_115 ybM) ?_;refine A0 (oCl (zpd [] yr) rfl fn_116 ybM) ?_;refine A0 (g_field rfl rfl ziq zgJ z6) ?_;refine qa7 ?_;refine A0 (zy rfl zon bd_55 (.cons zfE zcs z6 rfl (.cons zgf zew z6 rfl (.cons zhZ zfR z6 rfl (.cons zcX za2 zcd rfl .nil)))) rfl) ?_;refine qcY ?_;refine qbu ?_;refine CNQ ?_;refine xg ?_;refine X0 (oLs rfl rfl rfl zaX) ?_;refine X0 (zy rfl zlK bd_59 (.cons zce zaN zaX rfl .nil) rfl) ?_;refine X0 (oLs rfl rfl rfl zaX) ?_;refine X0 (oCl (zvu (ziV bits)) rfl fn_118 yd) ?_;refine X0 (oCl (zB (zlq [] (zfe (ziV bits)) yr)) rfl fn_117 ybQ) ?_;refine X0 (zy rfl zlJ zus (.cons zel zev zed rfl (.cons zk4 zlb zru rfl .nil)) rfl) ?_;refine XK.e (x:=.idk) (fun fr' hfr kk H=>by exact zg rfl rfl rfl ((hfr 2 yc).trans rfl) rfl (Lens.self _) zec ((hfr 26 yc).trans rfl) (zt H)) ?_;refine X0 aV ?_;refine XK.nil' ?_;exact zp rfl rfl (zs rfl rfl zec (by unfold zan;rw[ut (ua ht13)];rfl)) (zQ (za rfl ((ua ht13).symm)))
theorem zpG (h:Head):Tells P 191 [.val zbU h] (.val zbU (ze2 h)):=by
 refine zd Tryz.func191 rfl rfl rfl (fun ext w hext=>?_);refine qah ?_;refine qcY ?_;refine CNQR ?_;refine qc6 ?_;refine A0 (oFp zfF) ?_;refine A0 (oLb zc4 z6) ?_;refine A0 (oFp zcX) ?_;refine A0 (oLb za2 zcd) ?_;refine A0 (zy rfl zon bd_55 (.cons zcf zaa ty_3 rfl (.cons zfF zc4 z6 rfl (.cons zcX za2 zcd rfl .nil))) rfl) ?_;refine qbu ?_;refine CN ?_;exact z7 rfl rfl rfl rfl zaX (rfl)
theorem txs_ok (l:List Tx) (hl:zrL l):Tells P 194 [.val (bsl txT) l] (.fresh 101 txT l):=by
 obtain⟨hl1,hl2⟩:=hl;refine zd Tryz.func194 rfl rfl rfl (fun ext w hext=>?_);refine ze (d:=0) rfl zm (fun hsl0=>?_);refine qcn ?_;refine qa7 ?_;refine zaQ (cloneTx l y6) rfl fn_251 yd rfl rfl rfl ?_;refine A0 aO ?_;refine CNQQR ?_;refine A0 mO ?_;refine A0 (zbe rfl rfl rfl zhN) ?_;refine qaH ?_;refine Lp (ι:=Nat) 1 (fun (k:Nat)=>((((Fr.none).set 3 (.own 0)).set 8 (.own 0)).set 9 (.val i64T (l.length:Int))).set 10 (.val i64T (k:Int))) (fun (k:Nat)=>(Hp.none).set 0 (.row 101 txT l)) (fun (k:Nat)=>k≤l.length) (fun (k:Nat)=>l.length-k) (0) (uf _) ?_;intro k hinv;refine qar ?_;refine Cf (p:=k<l.length) (fun ht11=>?_) (fun ht11=>?_)
 ·
  obtain⟨x,hx⟩:∃x,l[k]?=some x:=⟨_,ub ht11⟩;have hxm:=ud hx;refine qaR ?_;refine A0 (zb8 (i:=k) rfl rfl rfl rfl yp zpW yg) ?_;refine A0 (zcO rfl rfl rfl rfl yj (Lens.self _) zhx) ?_;refine zq zrm rfl rfl rfl rfl ?_;refine A0 aV ?_;refine qc0 ?_;refine CN ?_;refine zA [some 1,some 1,some 1,some 1,some 1,some 1,some 1,some 1,some 1,some 1,none] mixed yc ?_;refine X0 mO ?_;refine X0 mV ?_;refine X0 (oFp zeB) ?_;refine X0 (oLb zeE zoo) ?_;refine X0 (oCl (zB (cloneIn x.ins (by have:=hl2 x hxm;unfold zkB at this;constructor<;>omega))) rfl fn_229 yd) ?_;refine X0 (oFp zdb) ?_;refine X0 (oLb zco zkx) ?_;refine X0 (oCl (zB (zwa x.outs (by have:=hl2 x hxm;unfold zkB at this;constructor<;>omega))) rfl fn_230 yd) ?_;refine X0 (zy rfl zrm bd_101 (.cons zeB zeE zoo rfl (.cons zdb zco zkx rfl .nil)) rfl) ?_;refine X0 (zb8 (i:=k) rfl rfl rfl rfl yp zpW yg) ?_;refine XK.e (x:=.idk) (fun fr' hfr kk H=>by exact zdc rfl rfl rfl ((hfr 24 yc).trans rfl) rfl rfl yj (Lens.self _) zhx ((hfr 23 yc).trans rfl) (zt H)) ?_;refine qbj ?_;refine zj (n:=0) (y:=l) rfl (by rw[show(⟨x.ins,x.outs⟩:Tx)=x from rfl];exact set_same hx) ?_;exact Nx (k+1) ya ya
 refine qaS ?_;exact zb rfl rfl (zh rfl rfl rfl)
theorem zsZ (b:Block) (hb:zjD b):Tells P 136 [.val zav b] (.val zav b):=by
 obtain⟨hb1,hb2⟩:=hb;refine zd Tryz.func136 rfl rfl rfl (fun ext w hext=>?_);refine qah ?_;refine zq zlK rfl rfl rfl rfl ?_;refine CNQR ?_;refine A0 (oFp zgd) ?_;refine A0 (oLb zdu zcc) ?_;refine A0 (oCl (zB (zh4 b.l y6)) rfl zsN yd) ?_;refine A0 (oFp zgd) ?_;refine zg rfl rfl rfl rfl rfl zdu zcc rfl ?_;refine CNQR ?_;refine A0 (oFp zgc) ?_;refine A0 (oLb zdt zop) ?_;refine A0 (oCl (zB (txs_ok b.t hb2)) rfl fn_194 yd) ?_;refine A0 (oFp zgc) ?_;refine zg rfl rfl rfl rfl rfl zdt zop rfl ?_;refine CNQR ?_;refine A0 (oLs rfl rfl rfl zed) ?_;refine qbR ?_;refine CN ?_;exact z7 rfl rfl rfl rfl zed (rfl)
theorem own_ok (t:Tip) (ht:zfT t):Tells P 135 [.val tipT t] (.val tipT t):=by
 obtain⟨ht1,ht2,ht3⟩:=ht;refine zd Tryz.func135 rfl rfl rfl (fun ext w hext=>?_);refine qah ?_;refine zq zlJ rfl rfl rfl rfl ?_;refine CNQ ?_;refine zA [some 1,some 1,some 1,some 1,some 1,some 1,some 1,some 1,some 1,some 1,none,some 1,none,some 1,none] mixed yc ?_;refine X0 (oFp zel) ?_;refine X0 (oLb zev zed) ?_;refine X0 (oCl (zsZ t.b ht1) rfl fn_136 yd) ?_;refine X0 (oFp zk4) ?_;refine X0 (oLb zlb zru) ?_;refine X0 (oCl (zB (zpA t.p y6)) rfl fn_182 yd) ?_;refine X0 (oFp zqP) ?_;refine X0 (oLb zrg zlM) ?_;refine X0 (oCl (zB (zh5 t.c y6)) rfl zsP yd) ?_;refine X0 (oFp zel) ?_;refine XK.e (x:=.idk) (fun fr' hfr kk H=>by exact zg rfl rfl rfl ((hfr 12 yc).trans rfl) rfl zev zed ((hfr 5 yc).trans rfl) (zt H)) ?_;refine X0 (oFp zk4) ?_;refine XK.e (x:=.idk) (fun fr' hfr kk H=>by exact zg rfl rfl rfl ((hfr 13 yc).trans rfl) rfl zlb zru ((hfr 8 yc).trans rfl) (zt H)) ?_;refine X0 (oFp zqP) ?_;refine XK.e (x:=.idk) (fun fr' hfr kk H=>by exact zg rfl rfl rfl ((hfr 14 yc).trans rfl) rfl zrg zlM ((hfr 11 yc).trans rfl) (zt H)) ?_;refine XK.nil' ?_;refine CQR ?_;refine xw ?_;refine qbc ?_;refine CN ?_;exact z7 rfl rfl rfl rfl zec (rfl)
theorem sameB_ok (a b:Block):Tells P 67 [.val zav a,.val zav b] (.val zl (decide (a=b))):=by
 refine zd Tryz.func67 rfl rfl rfl (fun ext w hext=>?_);refine qaA ?_;refine qaj ?_;refine A0 (oFp zce) ?_;refine A0 (oLb zaN zaX) ?_;refine A0 (oFp zce) ?_;refine A0 (oLb zaN zaX) ?_;refine A0 (ziU rfl rfl rfl (zlz)) ?_;refine Sp (d:=9) (p:=a.h=b.h) (fun g9=>?_) (fun g9=>?_)
 ·
  refine qa7 ?_;refine A1 (oFp zgd) ?_;refine A1 (oLb zdu zcc) ?_;refine A1 (oFp zgd) ?_;refine A1 (oLb zdu zcc) ?_;refine A1 (oCl (zuc _ _) rfl fn_57 ye) ?_;refine Sp (d:=15) (p:=a.l=b.l) (fun g15=>?_) (fun g15=>?_)
  ·
   refine qaf ?_;refine A1 (oFp zgc) ?_;refine A1 (oLb zdt zop) ?_;refine A1 (oFp zgc) ?_;refine A1 (oLb zdt zop) ?_;refine A1 (oCl (equalFTx _ _) rfl fn_125 ⟨yn,yn,(by first|exact zdI (Cs:=[]) rfl fn_126 yF trivial rfl (fun x=>znT x y)|exact zdH (Cs:=[]) rfl fn_126 yF trivial rfl (fun x y=>znT x y)|exact zdJ rfl),trivial⟩) ?_;refine qa6 ?_;exact zb rfl rfl (za rfl yal)
  refine qaf ?_;refine qaa ?_;refine qda ?_;exact zb rfl rfl (za rfl (by symm;apply uh;intro h;exact g15 (by rw[h])))
 refine qa7 ?_;refine qaa ?_;refine qc1 ?_;refine qda ?_;exact zb rfl rfl (za rfl (by symm;apply uh;intro h;exact g9 (by rw[h])))
def nW (a:Wide):Nat:=(a.getD 0 0).toNat+18446744073709551616*(a.getD 1 0).toNat+340282366920938463463374607431768211456*(a.getD 2 0).toNat+6277101735386680763835789423207666416102355444464034512896*(a.getD 3 0).toNat
abbrev W256:Nat:=115792089237316195423570985008687907853269984665640564039457584007913129639936
theorem zwt (a b c:UInt64):(addS a b c).toNat=(a.toNat+b.toNat+c.toNat)%18446744073709551616:=by unfold addS;rw[UInt64.toNat_ofNat']
theorem zwu (a b:UInt64) {c:UInt64} (h:c.toNat≤1):(addC a b c).toNat=(a.toNat+b.toNat+c.toNat)/18446744073709551616:=by
  have ha:a.toNat<18446744073709551616:=a.toNat_lt;have hb:b.toNat<18446744073709551616:=b.toNat_lt;unfold addC;rw[UInt64.toNat_ofNat_of_lt' yac]
theorem zs8 (a0 a1 a2 a3 b0 b1 b2 b3:UInt64):zcr addS addC [a0,a1,a2,a3] [b0,b1,b2,b3] 4=([addS a0 b0 0,addS a1 b1 (addC a0 b0 0),addS a2 b2 (addC a1 b1 (addC a0 b0 0)),addS a3 b3 (addC a2 b2 (addC a1 b1 (addC a0 b0 0)))],addC a3 b3 (addC a2 b2 (addC a1 b1 (addC a0 b0 0)))):=rfl
theorem nW_lt {a:Wide} (_h:a.length=4):nW a<W256:=by
  have h0:(a.getD 0 0).toNat<18446744073709551616:=UInt64.toNat_lt _;have h1:(a.getD 1 0).toNat<18446744073709551616:=UInt64.toNat_lt _;have h2:(a.getD 2 0).toNat<18446744073709551616:=UInt64.toNat_lt _;have h3:(a.getD 3 0).toNat<18446744073709551616:=UInt64.toNat_lt _;unfold nW W256;omega
theorem nW_inj {a b:Wide} (ha:a.length=4) (hb:b.length=4) (h:nW a=nW b):a=b:=by
  match a,ha with
  | [a0,a1,a2,a3],_=>match b,hb with
    | [b0,b1,b2,b3],_ =>
      have h0:a0.toNat<18446744073709551616:=a0.toNat_lt;have h1:a1.toNat<18446744073709551616:=a1.toNat_lt;have h2:a2.toNat<18446744073709551616:=a2.toNat_lt;have h3:a3.toNat<18446744073709551616:=a3.toNat_lt;have k0:b0.toNat<18446744073709551616:=b0.toNat_lt;have k1:b1.toNat<18446744073709551616:=b1.toNat_lt;have k2:b2.toNat<18446744073709551616:=b2.toNat_lt;have k3:b3.toNat<18446744073709551616:=b3.toNat_lt;have h:a0.toNat+18446744073709551616*a1.toNat+340282366920938463463374607431768211456*a2.toNat+6277101735386680763835789423207666416102355444464034512896*a3.toNat=b0.toNat+18446744073709551616*b1.toNat+340282366920938463463374607431768211456*b2.toNat+6277101735386680763835789423207666416102355444464034512896*b3.toNat:=h;rw[UInt64.toNat_inj.1 (show a0.toNat=b0.toNat by omega),UInt64.toNat_inj.1 (show a1.toNat=b1.toNat by omega),UInt64.toNat_inj.1 (show a2.toNat=b2.toNat by omega),UInt64.toNat_inj.1 (show a3.toNat=b3.toNat by omega)]
theorem zrd {a b:Wide} (ha:a.length=4) (hb:b.length=4):(addW a b).length=4:=by
  match a,ha with
  | [a0,a1,a2,a3],_=>match b,hb with
    | [b0,b1,b2,b3],_=>unfold addW;rw[zs8];rfl
theorem nW_add2 {a b:Wide} (ha:a.length=4) (hb:b.length=4):nW (addW a b)=(nW a+nW b)%W256∧(addOk a b=true↔nW a+nW b<W256):=by
  match a,ha with
  | [a0,a1,a2,a3],_=>match b,hb with
    | [b0,b1,b2,b3],_ =>
      have h0:a0.toNat<18446744073709551616:=a0.toNat_lt;have h1:a1.toNat<18446744073709551616:=a1.toNat_lt;have h2:a2.toNat<18446744073709551616:=a2.toNat_lt;have h3:a3.toNat<18446744073709551616:=a3.toNat_lt;have k0:b0.toNat<18446744073709551616:=b0.toNat_lt;have k1:b1.toNat<18446744073709551616:=b1.toNat_lt;have k2:b2.toNat<18446744073709551616:=b2.toNat_lt;have k3:b3.toNat<18446744073709551616:=b3.toNat_lt;have z:(0:UInt64).toNat≤1:=yr;have z0:(0:UInt64).toNat=0:=rfl;have c1:=zwu a0 b0 z;have l1:=zre a0 b0 z;have c2:=zwu a1 b1 l1;have l2:=zre a1 b1 l1;have c3:=zwu a2 b2 l2;have l3:=zre a2 b2 l2;have c4:=zwu a3 b3 l3;have s0:=zwt a0 b0 0;have s1:=zwt a1 b1 (addC a0 b0 0);have s2:=zwt a2 b2 (addC a1 b1 (addC a0 b0 0));have s3:=zwt a3 b3 (addC a2 b2 (addC a1 b1 (addC a0 b0 0)));unfold addW addOk;rw[zs8];unfold nW W256;simp only[List.getD_cons_zero,List.getD_cons_succ,uj];rw[z0] at c1 s0;generalize addC a3 b3 (addC a2 b2 (addC a1 b1 (addC a0 b0 0)))=x4 at *;generalize addS a3 b3 (addC a2 b2 (addC a1 b1 (addC a0 b0 0)))=y3 at *;generalize addS a2 b2 (addC a1 b1 (addC a0 b0 0))=y2 at *;generalize addC a2 b2 (addC a1 b1 (addC a0 b0 0))=x3 at *;generalize addS a1 b1 (addC a0 b0 0)=y1 at *;generalize addC a1 b1 (addC a0 b0 0)=x2 at *;generalize addS a0 b0 0=y0 at *;generalize addC a0 b0 0=x1 at *
      constructor
      · omega
      constructor<;>intro h<;>omega
theorem nW_add {a b:Wide} (ha:a.length=4) (hb:b.length=4):nW (addW a b)=(nW a+nW b)%W256:=(nW_add2 ha hb).1
theorem of32_len {b:Ab.Id}:(zlU b).length=4:=by
  have h:∀k,(of32N b k).length=4:=fun k=>by
    induction k with
    | zero=>rfl
    | succ k ih=>unfold of32N;rw[zeM];unfold of32S;rw[List.length_set];exact ih
  exact h 32
def zfn (x:Trial):Prop:=zfT x.t∧x.b.t.length≤4000000000000
def zlQ (x:Trial):Int:=if 48≤x.b.h.height then 3 else 0
def zqc (x:Trial):Int:=if ¬ze2 x.b.h=ze2 x.want then 5 else 0
def zoC (x:Trial):Int:=if ¬x.b.h.links=x.want.links∨¬x.b.l=zhf x.t then 6 else 0
def zp9 (x:Trial):Int:=if ¬x.b.h=x.want then 7 else 0
def zpR (x:Trial):Int:=if ¬zcl x.b.h=true then 4 else 0
def zgC (x:Trial):Int:=(zX x.t.c x.b.t).2
def zs1 (x:Trial):Trial:={ x with c:=(zX x.t.c x.b.t).1 }
def zhr (f:Option Nat) (x:Trial):Int:=if f=some 128 then zlQ x else if f=some 129 then zqc x else if f=some 130 then zoC x else if f=some 131 then zp9 x else if f=some 132 then zpR x else zgC x
def askX (f:Option Nat) (x:Trial):Trial:=if f=some 133 then zs1 x else x
def zhk:List (Option Nat)→Trial→Int
  | [],_=>0
  | f::l,x=>if zhr f x=0 then zhk l (askX f x) else zhr f x
def zhX:List (Option Nat)→Trial→Trial
  | [],x=>x
  | f::l,x=>if zhr f x=0 then zhX l (askX f x) else askX f x
def Asks (f:Option Nat):Prop:=f=some 128∨f=some 129∨f=some 130∨f=some 131∨f=some 132∨f=some 133
theorem zb1 {l:List (Option Nat)} {k:Nat} {f:Option Nat} {x:Trial} (h:l[k]?=some f) (h0:zhr f x=0):zhk (l.drop k) x=zhk (l.drop (k+1)) (askX f x)∧zhX (l.drop k) x=zhX (l.drop (k+1)) (askX f x):=by
  obtain⟨hk,rfl⟩:=ul.1 h;rw[List.drop_eq_getElem_cons hk,zhk,zhX,ut h0,ut h0];exact⟨rfl,rfl⟩
theorem zaK {l:List (Option Nat)} {k:Nat} {f:Option Nat} {x:Trial} (h:l[k]?=some f) (h0:¬zhr f x=0):zhk (l.drop k) x=zhr f x∧zhX (l.drop k) x=askX f x:=by
  obtain⟨hk,rfl⟩:=ul.1 h;rw[List.drop_eq_getElem_cons hk,zhk,zhX,ur h0,ur h0];exact⟨rfl,rfl⟩
theorem znH {l:List (Option Nat)} {k:Nat} {x:Trial} (h:l.length≤k):zhk (l.drop k) x=0∧zhX (l.drop k) x=x:=by
  rw[List.drop_of_length_le h];exact⟨rfl,rfl⟩
theorem zcC {f:Option Nat} {x:Trial} (h:zfn x):zfn (askX f x):=by unfold askX;split<;>exact h
theorem ask_size (x:Trial):Tells P 128 [.rptr zeF x] (.val i64T (zlQ x)):=by
 refine zd Tryz.func128 rfl rfl rfl (fun ext w hext=>?_);refine CQR ?_;refine qbO ?_;refine A0 mR ?_;refine A0 (zdR rfl rfl) ?_;refine A0 (oFr zg5 zfO) ?_;refine A0 (oFr zce zaN) ?_;refine A0 (oFr zcf zaa) ?_;refine A0 (zf rfl rfl ty_3) ?_;refine qcs ?_;refine Cf (p:=48≤x.b.h.height) (fun ht9=>?_) (fun ht9=>?_)
 ·
  refine qa3 ?_;exact zb rfl rfl (za rfl (by unfold zlQ;rw[ut (ht9)]))
 refine CSQR ?_;refine qae ?_;exact zb rfl rfl (za rfl (by unfold zlQ;rw[ur (ht9)]))
theorem ask_prev (x:Trial):Tells P 129 [.rptr zeF x] (.val i64T (zqc x)):=by
 refine zd Tryz.func129 rfl rfl rfl (fun ext w hext=>?_);refine qcN ?_;refine G0 (zf rfl rfl zaX) ?_;refine G0 (oCl (zpG _) rfl fn_191 ybM) ?_;refine qca ?_;refine G0 (oFr zke zeU) ?_;refine G0 (zf rfl rfl zaX) ?_;refine G0 (oCl (zpG _) rfl fn_191 ybM) ?_;refine G0 (zgy rfl rfl rfl (zlz)) ?_;refine GK.nil ?_;refine zn (p:=¬ze2 x.b.h=ze2 x.want) rfl yA (fun ht14=>?_) (fun ht14=>?_)
 ·
  refine qa3 ?_;exact zb rfl rfl (za rfl (by unfold zqc;rw[ut (ht14)]))
 refine CSQR ?_;refine qae ?_;exact zb rfl rfl (za rfl (by unfold zqc;rw[ur (ht14)]))
theorem ask_link (x:Trial) (hx:zfn x):Tells P 130 [.rptr zeF x] (.val i64T (zoC x)):=by
 refine zd Tryz.func130 rfl rfl rfl (fun ext w hext=>?_);refine qcN ?_;refine G0 (oFr zfE zcs) ?_;refine G0 (zf rfl rfl z6) ?_;refine qca ?_;refine G0 (oFr zke zeU) ?_;refine G0 (oFr zfE zcs) ?_;refine G0 (zf rfl rfl z6) ?_;refine G0 (zgy rfl rfl rfl (zh1)) ?_;refine zaG (d:=14) (p:=¬x.b.h.links=x.want.links) rfl yA (fun g14=>?_) (fun g14=>?_)
 ·
  refine G0 mV ?_;refine qad ?_;refine qad ?_;refine qby ?_;refine Ct ?_;refine qa3 ?_;exact zb rfl rfl (za rfl (by unfold zoC;rw[ut (.inl g14)]))
 refine G0 mV ?_;refine G1 mR ?_;refine G1 (zdR rfl rfl) ?_;refine G1 (oFr zg5 zfO) ?_;refine G1 (oFr zgd zdu) ?_;refine G1 (zf rfl rfl zcc) ?_;refine G1 mR ?_;refine G1 (zdR rfl rfl) ?_;refine G1 (oFr zmi zkq) ?_;refine G1 (zf rfl rfl zec) ?_;refine G1 (oCl (zB (znf x.t)) rfl fn_190 ybM) ?_;refine G1 (oCl (zuc _ _) rfl fn_57 ybQ) ?_;refine G1 oN ?_;refine qby ?_;refine zn (p:=¬x.b.l=zhf x.t) rfl yA (fun ht28=>?_) (fun ht28=>?_)
 ·
  refine qa3 ?_;exact zb rfl rfl (za rfl (by unfold zoC;rw[ut (.inr ht28)]))
 refine CSQR ?_;refine qae ?_;exact zb rfl rfl (za rfl (by unfold zoC;rw[ur (fun h=>h.elim g14 ht28)]))
theorem ask_root (x:Trial):Tells P 131 [.rptr zeF x] (.val i64T (zp9 x)):=by
 refine zd Tryz.func131 rfl rfl rfl (fun ext w hext=>?_);refine qcN ?_;refine G0 (zf rfl rfl zaX) ?_;refine qca ?_;refine G0 (oFr zke zeU) ?_;refine G0 (zf rfl rfl zaX) ?_;refine G0 (zgy rfl rfl rfl (zlz)) ?_;refine GK.nil ?_;refine zn (p:=¬x.b.h=x.want) rfl yA (fun ht12=>?_) (fun ht12=>?_)
 ·
  refine qa3 ?_;exact zb rfl rfl (za rfl (by unfold zp9;rw[ut (ht12)]))
 refine CSQR ?_;refine qae ?_;exact zb rfl rfl (za rfl (by unfold zp9;rw[ur (ht12)]))
theorem ask_work (x:Trial):Tells P 132 [.rptr zeF x] (.val i64T (zpR x)):=by
 refine zd Tryz.func132 rfl rfl rfl (fun ext w hext=>?_);refine CQR ?_;refine qbO ?_;refine A0 mR ?_;refine A0 (zdR rfl rfl) ?_;refine A0 (oFr zg5 zfO) ?_;refine A0 (oFr zce zaN) ?_;refine A0 (zf rfl rfl zaX) ?_;refine A0 (oCl (zkT _) rfl fn_120 ybM) ?_;refine qb3 ?_;refine zn (p:=¬zcl x.b.h=true) rfl yA (fun ht9=>?_) (fun ht9=>?_)
 ·
  refine qa3 ?_;exact zb rfl rfl (za rfl (by unfold zpR;rw[ut (ht9)]))
 refine CSQR ?_;refine qae ?_;exact zb rfl rfl (za rfl (by unfold zpR;rw[ur (ht9)]))
theorem ask_coins (x:Trial) (hx:zfn x):ze7 P 133 (.box 217 zeF x) [.ptr 0 0] (.val i64T (zgC x)) (.box 217 zeF (zs1 x)):=by
 refine zgz trivial Tryz.func133 rfl rfl ⟨Nat.one_pos,trivial⟩ (fun ext pg w hext hgr=>?_);refine CQR ?_;refine qcv ?_;refine G0 mP ?_;refine G0 (g_nc rfl rfl) ?_;refine G0 (oFp zmi) ?_;refine G0 (oFp zqP) ?_;refine G0 (oLb (zkq.comp zrg) zlM) ?_;refine G0 mP ?_;refine G0 (g_nc rfl rfl) ?_;refine G0 (oFp zg5) ?_;refine G0 (oFp zgc) ?_;refine G0 (oLb (zfO.comp zdt) zop) ?_;refine G0 (oCl (zee (apply_ok x.t.c x.b.t (by have:=hx.1.2.2;omega))) rfl fn_192 ye) ?_;refine G0 mX ?_;refine G0 yS ?_;refine G0 ybq ?_;refine G0 aV ?_;refine qbs ?_;refine CQR ?_;refine A0 mP ?_;refine qa7 ?_;refine qco ?_;refine A0 (oFp zvZ) ?_;refine zg rfl rfl rfl rfl rfl ztp zlM rfl ?_;refine CNQR ?_;refine qa7 ?_;refine qae ?_;exact zfj rfl rfl rfl rfl rfl (zb6 rfl rfl) (zf7 (zb6 (x:=zs1 x) rfl rfl) rfl rfl)
theorem zvY (x0:Trial) (l:List (Option Nat)) (hx0:zfn x0) (hl:∀f∈l,Asks f):ze7 P 134 (.box 217 zeF x0) [.ptr 0 0,.val (bsl fnoT) l] (.val i64T (zhk l x0)) (.box 217 zeF (zhX l x0)):=by
 refine zgz trivial Tryz.func134 rfl rfl ⟨Nat.one_pos,⟨trivial,trivial⟩⟩ (fun ext pg w hext hgr=>?_);refine ze (d:=1) rfl zm (fun hsl1=>?_);refine qcQ ?_;refine A0 (zN rfl rfl isl_221) ?_;refine qaH ?_;refine Lp (ι:=Nat×Trial) 1 (fun (i:Nat×Trial)=>match i with|(k,x)=>((((Fr.none).set 0 (.ptr 0 0)).set 8 (.val (bsl fnoT) l)).set 9 (.val i64T (l.length:Int))).set 10 (.val i64T (k:Int))) (fun (i:Nat×Trial)=>match i with|(k,x)=>(Hp.none).set 0 (.box 217 zeF x)) (fun (i:Nat×Trial)=>match i with|(k,x)=>k≤l.length∧zfn x∧zhk l x0=zhk (l.drop k) x∧zhX l x0=zhX (l.drop k) x) (fun (i:Nat×Trial)=>match i with|(k,x)=>l.length-k) ((0,x0)) (⟨uf _,hx0,rfl,rfl⟩) ?_;intro⟨k,x⟩ hinv;dsimp only at hinv;refine qar ?_;refine Cf (p:=k<l.length) (fun ht11=>?_) (fun ht11=>?_)
 ·
  obtain⟨f,hf⟩:∃f,l[k]?=some f:=⟨_,ub ht11⟩;have hask:=hl f (ud hf);rcases hask with he|he|he|he|he|he
  ·
   refine qaO ?_;refine zi (d:=14) rfl he ?_;refine zdA (d:=14) (f:=128) rfl ?_;refine A0 mP ?_;refine A0 (ze0 (As:=[_]) (Cs:=[]) (ask_size x) rfl rfl fn_128 ybO yF trivial rfl) ?_;refine qay ?_;refine zn (p:=¬zhr f x=0) rfl yaW (fun ht18=>?_) (fun ht18=>?_)
   ·
    refine qbX ?_;refine xx ?_;exact zfj rfl rfl rfl rfl rfl (zb6 rfl (hinv.2.2.2.trans (zaK hf ht18).2).symm) (zf7 (zb6 rfl (hinv.2.2.2.trans (zaK hf ht18).2).symm) rfl yar)
   refine qbq ?_;refine xx ?_;exact Nx ((k+1,askX f x)) (⟨by omega,zcC hinv.2.1,hinv.2.2.1.trans (zb1 hf (ua ht18)).1,hinv.2.2.2.trans (zb1 hf (ua ht18)).2⟩) yau
  ·
   refine qaO ?_;refine zi (d:=14) rfl he ?_;refine zdA (d:=14) (f:=129) rfl ?_;refine A0 mP ?_;refine A0 (ze0 (As:=[_]) (Cs:=[]) (ask_prev x) rfl rfl fn_129 ybO yF trivial rfl) ?_;refine qay ?_;refine zn (p:=¬zhr f x=0) rfl yaW (fun ht18=>?_) (fun ht18=>?_)
   ·
    refine qbX ?_;refine xx ?_;exact zfj rfl rfl rfl rfl rfl (zb6 rfl (hinv.2.2.2.trans (zaK hf ht18).2).symm) (zf7 (zb6 rfl (hinv.2.2.2.trans (zaK hf ht18).2).symm) rfl yar)
   refine qbq ?_;refine xx ?_;exact Nx ((k+1,askX f x)) (⟨by omega,zcC hinv.2.1,hinv.2.2.1.trans (zb1 hf (ua ht18)).1,hinv.2.2.2.trans (zb1 hf (ua ht18)).2⟩) yau
  ·
   refine qaO ?_;refine zi (d:=14) rfl he ?_;refine zdA (d:=14) (f:=130) rfl ?_;refine A0 mP ?_;refine A0 (ze0 (As:=[_]) (Cs:=[]) (ask_link x hinv.2.1) rfl rfl fn_130 ybO yF trivial rfl) ?_;refine qay ?_;refine zn (p:=¬zhr f x=0) rfl yaW (fun ht18=>?_) (fun ht18=>?_)
   ·
    refine qbX ?_;refine xx ?_;exact zfj rfl rfl rfl rfl rfl (zb6 rfl (hinv.2.2.2.trans (zaK hf ht18).2).symm) (zf7 (zb6 rfl (hinv.2.2.2.trans (zaK hf ht18).2).symm) rfl yar)
   refine qbq ?_;refine xx ?_;exact Nx ((k+1,askX f x)) (⟨by omega,zcC hinv.2.1,hinv.2.2.1.trans (zb1 hf (ua ht18)).1,hinv.2.2.2.trans (zb1 hf (ua ht18)).2⟩) yau
  ·
   refine qaO ?_;refine zi (d:=14) rfl he ?_;refine zdA (d:=14) (f:=131) rfl ?_;refine A0 mP ?_;refine A0 (ze0 (As:=[_]) (Cs:=[]) (ask_root x) rfl rfl fn_131 ybO yF trivial rfl) ?_;refine qay ?_;refine zn (p:=¬zhr f x=0) rfl yaW (fun ht18=>?_) (fun ht18=>?_)
   ·
    refine qbX ?_;refine xx ?_;exact zfj rfl rfl rfl rfl rfl (zb6 rfl (hinv.2.2.2.trans (zaK hf ht18).2).symm) (zf7 (zb6 rfl (hinv.2.2.2.trans (zaK hf ht18).2).symm) rfl yar)
   refine qbq ?_;refine xx ?_;exact Nx ((k+1,askX f x)) (⟨by omega,zcC hinv.2.1,hinv.2.2.1.trans (zb1 hf (ua ht18)).1,hinv.2.2.2.trans (zb1 hf (ua ht18)).2⟩) yau
  ·
   refine qaO ?_;refine zi (d:=14) rfl he ?_;refine zdA (d:=14) (f:=132) rfl ?_;refine A0 mP ?_;refine A0 (ze0 (As:=[_]) (Cs:=[]) (ask_work x) rfl rfl fn_132 ybO yF trivial rfl) ?_;refine qay ?_;refine zn (p:=¬zhr f x=0) rfl yaW (fun ht18=>?_) (fun ht18=>?_)
   ·
    refine qbX ?_;refine xx ?_;exact zfj rfl rfl rfl rfl rfl (zb6 rfl (hinv.2.2.2.trans (zaK hf ht18).2).symm) (zf7 (zb6 rfl (hinv.2.2.2.trans (zaK hf ht18).2).symm) rfl yar)
   refine qbq ?_;refine xx ?_;exact Nx ((k+1,askX f x)) (⟨by omega,zcC hinv.2.1,hinv.2.2.1.trans (zb1 hf (ua ht18)).1,hinv.2.2.2.trans (zb1 hf (ua ht18)).2⟩) yau
  refine qaO ?_;refine zi (d:=14) rfl he ?_;refine zdA (d:=14) (f:=133) rfl ?_;refine A0 mP ?_;refine aw_calluv (ask_coins x hinv.2.1) rfl rfl fn_133 rfl trivial trivial rfl ⟨yl,trivial⟩ rfl rfl rfl ?_;refine qay ?_;refine zn (p:=¬zhr f x=0) rfl yaW (fun ht18=>?_) (fun ht18=>?_)
  ·
   refine qbX ?_;refine xx ?_;exact zfj rfl rfl rfl rfl rfl (zb6 rfl (hinv.2.2.2.trans (zaK hf ht18).2).symm) (zf7 (zb6 rfl (hinv.2.2.2.trans (zaK hf ht18).2).symm) rfl yar)
  refine qbq ?_;refine xx ?_;exact Nx ((k+1,askX f x)) (⟨by omega,zcC hinv.2.1,hinv.2.2.1.trans (zb1 hf (ua ht18)).1,hinv.2.2.2.trans (zb1 hf (ua ht18)).2⟩) yau
 refine qcM ?_;exact zfj rfl rfl rfl rfl rfl (zb6 rfl (hinv.2.2.2.trans (znH ya).2).symm) (zf7 (zb6 rfl (hinv.2.2.2.trans (znH ya).2).symm) rfl (hinv.2.2.1.trans (znH ya).1).symm)
def zdF (t:Tip) (b:Block):Int :=
  if 48≤b.h.height then 3 else if ¬ze2 b.h=ze2 (zcW t b.t b.h.nonce) then 5 else
  if ¬b.h.links=(zcW t b.t b.h.nonce).links∨¬b.l=zhf t then 6 else if ¬b.h=zcW t b.t b.h.nonce then 7 else
  if ¬zcl b.h=true then 4 else (zX t.c b.t).2
def zjK (t:Tip) (b:Block):Tip:=if zdF t b=0 then ⟨b,zaE t.p (zfe b.h),(zX t.c b.t).1⟩ else t
def ze6 (t:Tip) (l:List Tx) (nonce:UInt64) (tries:Int):Int :=
  if 48≤(zcW t l nonce).height then 3 else if ¬(zX t.c l).2=0 then (zX t.c l).2 else if (zhG (zcW t l nonce) tries).isSome=true then 0 else 4
def zsc (t:Tip) (l:List Tx) (nonce:UInt64) (tries:Int):Block :=
  if ze6 t l nonce tries=0 then ⟨(zhG (zcW t l nonce) tries).getD (zcW t l nonce),zhf t,l⟩ else zro
theorem ask_two {x:Trial}:zhk [some 128,some 133] x=if 48≤x.b.h.height then 3 else (zX x.t.c x.b.t).2:=by
  show(if zlQ x=0 then (if zgC x=0 then 0 else zgC x) else zlQ x)=_;unfold zlQ zgC;by_cases h:48≤x.b.h.height
  · rw[ut h,ut h,ur yr]
  rw[ur h,ur h,ut rfl];split<;>simp_all
theorem zj3 {p:Prop} [Decidable p] {e r:Int} (he:e≠0):(if (if p then e else 0)=0 then r else (if p then e else 0))=if p then e else r:=by
  by_cases h:p
  · rw[ut h,ut h,ur he]
  rw[ur h,ur h,ut rfl]
theorem ask_all {t:Tip} {b:Block} {c:List Coin}:zhk [some 128,some 129,some 130,some 131,some 132,some 133] ⟨t,b,zcW t b.t b.h.nonce,c⟩=zdF t b:=by
  obtain⟨x,hx⟩:∃x:Trial,x=⟨t,b,zcW t b.t b.h.nonce,c⟩:=⟨_,rfl⟩;have e:zdF t b=zdF x.t x.b:=by rw[hx]
  have hw:x.want=zcW x.t x.b.t x.b.h.nonce:=by rw[hx]
  rw[e,←hx];show(if zlQ x=0 then (if zqc x=0 then (if zoC x=0 then (if zp9 x=0 then (if zpR x=0 then (if zgC x=0 then 0 else zgC x) else zpR x) else zp9 x) else zoC x) else zqc x) else zlQ x)=_;have hc:(if zgC x=0 then 0 else zgC x)=zgC x:=by split<;>simp_all
  rw[hc];unfold zlQ zqc zoC zp9 zpR zgC zdF;rw[zj3 yr,zj3 yr,zj3 yr,zj3 yr,zj3 yr,hw]
theorem ask_allX {t:Tip} {b:Block} {c:List Coin} (h:zdF t b=0):(zhX [some 128,some 129,some 130,some 131,some 132,some 133] ⟨t,b,zcW t b.t b.h.nonce,c⟩).c=(zX t.c b.t).1:=by
  obtain⟨x,hx⟩:∃x:Trial,x=⟨t,b,zcW t b.t b.h.nonce,c⟩:=⟨_,rfl⟩;have hw:x.want=zcW x.t x.b.t x.b.h.nonce:=by rw[hx]
  have h:zdF x.t x.b=0:=by rw[hx];exact h
  have e:(zX t.c b.t).1=(zX x.t.c x.b.t).1:=by rw[hx]
  rw[e,←hx];show(if zlQ x=0 then (if zqc x=0 then (if zoC x=0 then (if zp9 x=0 then (if zpR x=0 then (if zgC x=0 then zs1 x else zs1 x) else x) else x) else x) else x) else x).c=_;unfold zdF at h;rw[←hw] at h;by_cases h1:48≤x.b.h.height
  · rw[ut h1] at h;exact absurd h yr
  rw[ur h1] at h;by_cases h2:¬ze2 x.b.h=ze2 x.want
  · rw[ut h2] at h;exact absurd h yr
  rw[ur h2] at h;by_cases h3:¬x.b.h.links=x.want.links∨¬x.b.l=zhf x.t
  · rw[ut h3] at h;exact absurd h yr
  rw[ur h3] at h;by_cases h4:¬x.b.h=x.want
  · rw[ut h4] at h;exact absurd h yr
  rw[ur h4] at h;by_cases h5:¬zcl x.b.h=true
  · rw[ut h5] at h;exact absurd h yr
  rw[ur h5] at h;unfold zlQ zqc zoC zp9 zpR zgC;rw[ur h1,ur h2,ur h3,ur h4,ur h5,ut rfl,ut rfl,ut rfl,ut rfl,ut rfl,ut h];rfl
theorem asks_all:∀f∈([some 128,some 129,some 130,some 131,some 132,some 133]:List (Option Nat)),Asks f:=by intro f hf;simp at hf;unfold Asks;exact hf
theorem asks_two:∀f∈([some 128,some 133]:List (Option Nat)),Asks f:=by intro f hf;simp at hf;unfold Asks;rcases hf with h|h<;>simp[h]
theorem mineBE_err {t:Tip} {l:List Tx} {nonce:UInt64} {tries:Int} (h:¬(if 48≤(zcW t l nonce).height then 3 else (zX t.c l).2)=0):ze6 t l nonce tries=(if 48≤(zcW t l nonce).height then 3 else (zX t.c l).2):=by
  unfold ze6
  split
  · rfl
  rename_i h1;rw[ur h1] at h;rw[ut h]
theorem ztU {t:Tip} {l:List Tx} {nonce:UInt64} {tries:Int} (h:(if 48≤(zcW t l nonce).height then 3 else (zX t.c l).2)=0) (h2:¬(zhG (zcW t l nonce) tries).isSome=true):ze6 t l nonce tries=4:=by
  unfold ze6
  split
  · rename_i h1;rw[ut h1] at h;exact absurd h yr
  rename_i h1;rw[ur h1] at h;simp only[h,h2,not_true_eq_false,if_false]
theorem mineBE_ok {t:Tip} {l:List Tx} {nonce:UInt64} {tries:Int} (h:(if 48≤(zcW t l nonce).height then 3 else (zX t.c l).2)=0) (h2:(zhG (zcW t l nonce) tries).isSome=true):ze6 t l nonce tries=0:=by
  unfold ze6
  split
  · rename_i h1;rw[ut h1] at h;exact absurd h yr
  rename_i h1;rw[ur h1] at h;simp only[h,h2,not_true_eq_false,if_false]
theorem push_ok (t:Tip) (b:Block) (ht:zfT t) (hb:zjD b):Tells P 68 [.val tipT t,.val zav b] (.tup2 (.val tipT (zjK t b)) (.val i64T (zdF t b))):=by
 have hbt:=hb.2.1;have htp:=ht.2.1;refine zd Tryz.func68 rfl rfl rfl (fun ext w hext=>?_);refine qaA ?_;refine zq zlJ rfl rfl rfl rfl ?_;refine qaQ ?_;refine zA [some 1,some 1,some 1,some 1,some 1,some 1,some 1,some 1,some 1,some 1,none,some 1] mixed yc ?_;refine X0 (oLs rfl rfl rfl zec) ?_;refine X0 (oLs rfl rfl rfl zed) ?_;refine X0 (oLs rfl rfl rfl zec) ?_;refine X0 (oFp zgc) ?_;refine X0 (oLb zdt zop) ?_;refine X0 (oFp zce) ?_;refine X0 (oFp zge) ?_;refine X0 (oLb (zaN.comp zc5) zct) ?_;refine X0 (oCl (zvi t b.t b.h.nonce ya ya) rfl fn_127 yaf) ?_;refine X0 (zy rfl ze_217 bd_217 (.cons zmi zkq zec rfl (.cons zg5 zfO zed rfl (.cons zke zeU zaX rfl .nil))) rfl) ?_;refine XK.e (fun fr' hfr kk H=>by exact zi0 rfl rfl rfl rfl ((hfr 18 yc).trans rfl) (zt H)) ?_;refine X0 aP ?_;refine XK.nil' ?_;refine CQR ?_;refine A0 (zqN (xs:=[_,_,_,_,_,_]) rfl ar_219 ze_219 ⟨rfl,⟨_,rfl,rfl⟩,rfl,⟨_,rfl,rfl⟩,rfl,⟨_,rfl,rfl⟩,rfl,⟨_,rfl,rfl⟩,rfl,⟨_,rfl,rfl⟩,rfl,⟨_,rfl,rfl⟩,trivial⟩ rfl) ?_;refine zq ze_219 rfl rfl rfl rfl ?_;refine zg rfl rfl rfl rfl rfl (Lens.self _) ty_219 rfl ?_;refine CNQ ?_;refine CQ ?_;refine zeR (d:=7) rfl rfl (Lens.self _) ?_;refine CR ?_;refine A0 mP ?_;refine A0 (zj5 rfl rfl ar_219 rfl rfl) ?_;refine ziB (zvY ⟨t,b,zcW t b.t b.h.nonce,[]⟩ [some 128,some 129,some 130,some 131,some 132,some 133] ⟨ht,by show b.t.length≤4000000000000;omega⟩ asks_all) rfl fn_134 rfl trivial trivial rfl ybP rfl rfl rfl ?_;refine zi (d:=23) rfl ask_all ?_;refine qaL ?_;refine qbk ?_;refine zn (p:=¬zdF t b=0) rfl yw (fun ht25=>?_) (fun ht25=>?_)
 ·
  refine CQR ?_;refine xw ?_;refine A0 (oCl (own_ok t ht) rfl fn_135 yd) ?_;refine qa7 ?_;refine qbc ?_;refine qae ?_;exact zp rfl rfl (zs rfl rfl zec (by unfold zjK;rw[ur ht25])) (zQ (za rfl (rfl)))
 refine qcH ?_;refine zA [some 1,some 1,some 1,some 1,some 1,some 1,some 1,some 1,some 1,some 1,some 1,some 1,some 1,none,some 1] mixed yc ?_;refine X0 (oLs rfl rfl rfl zed) ?_;refine X0 (oCl (zsZ b hb) rfl fn_136 yd) ?_;refine X0 (oFp zk4) ?_;refine X0 (oLb zlb zru) ?_;refine X0 (oFp zce) ?_;refine X0 (oLb zaN zaX) ?_;refine X0 (oCl (zvu _) rfl fn_118 yd) ?_;refine X0 (oCl (zB (zlq t.p (zfe b.h) ya)) rfl fn_117 ye) ?_;refine X0 mP ?_;refine xk ?_;refine X0 (oFp zvZ) ?_;refine X0 (oLb ztp zlM) ?_;refine X0 (zy rfl zlJ zus (.cons zel zev zed rfl (.cons zk4 zlb zru rfl (.cons zqP zrg zlM rfl .nil))) rfl) ?_;refine XK.e (x:=.idk) (fun fr' hfr kk H=>by exact zg rfl rfl rfl ((hfr 4 yc).trans rfl) rfl (Lens.self _) zec ((hfr 41 yc).trans rfl) (zt H)) ?_;refine X0 aV ?_;refine XK.nil' ?_;exact zp rfl rfl (zs rfl rfl zec (by unfold zjK;rw[ut (ua ht25),ask_allX (ua ht25)])) (zQ (za rfl ((ua ht25).symm)))
theorem mineB_ok (t:Tip) (l:List Tx) (nonce:UInt64) (tries:Int) (ht:zfT t) (hl:zrL l):Tells P 171 [.val tipT t,.val (sl txT) l,.val u64T nonce,.val i64T tries] (.tup2 (.val zav (zsc t l nonce tries)) (.val i64T (ze6 t l nonce tries))):=by
 have hbt:=hl.1;have htp:=ht.2.1;refine zd Tryz.func171 rfl rfl rfl (fun ext w hext=>?_);refine ze (d:=1) rfl zm (fun hsl1=>?_);refine ze (d:=3) rfl zu (fun hin3=>?_);refine qah ?_;refine zq zlK rfl rfl rfl rfl ?_;refine qaj ?_;refine xw ?_;refine qav ?_;refine A0 (oCl (zvi t l nonce ya ya) rfl fn_127 yaf) ?_;refine qcY ?_;refine qbu ?_;refine CNQR ?_;refine xw ?_;refine qc7 ?_;refine qa7 ?_;refine A0 (zy rfl zlK bd_59 (.cons zce zaN zaX rfl (.cons zgc zdt zop rfl .nil)) rfl) ?_;refine qc7 ?_;refine A0 (zy rfl ze_217 bd_217 (.cons zmi zkq zec rfl (.cons zg5 zfO zed rfl (.cons zke zeU zaX rfl .nil))) rfl) ?_;refine xb ?_;refine A0 aP ?_;refine CNQQR ?_;refine A0 mP ?_;refine A0 (g_bslF (xs:=[_,_]) rfl sl_221 row_221 ⟨rfl,⟨_,rfl,rfl⟩,rfl,⟨_,rfl,rfl⟩,trivial⟩ rfl rfl) ?_;refine ziB (zvY ⟨t,⟨zcW t l nonce,[],l⟩,zcW t l nonce,[]⟩ [some 128,some 133] ⟨ht,by show l.length≤4000000000000;omega⟩ asks_two) rfl fn_134 rfl trivial trivial rfl ybP rfl rfl rfl ?_;refine zi (d:=27) rfl ask_two ?_;refine qaL ?_;refine qbk ?_;refine zn (p:=¬(if 48≤(zcW t l nonce).height then 3 else (zX t.c l).2)=0) rfl yw (fun ht29=>?_) (fun ht29=>?_)
 ·
  have hE:ze6 t l nonce tries=(if 48≤(zcW t l nonce).height then 3 else (zX t.c l).2):=mineBE_err ht29;refine CQR ?_;refine A0 (zy rfl zlK bd_59 .nil rfl) ?_;refine qa7 ?_;refine qbR ?_;refine qae ?_;exact zp rfl rfl (zs rfl rfl zed (by unfold zsc;rw[hE,ur ht29])) (zQ (za rfl (hE.symm)))
 refine CSQR ?_;refine qc7 ?_;refine qa7 ?_;refine A0 (oCl (mine_ok (zcW t l nonce) tries) rfl fn_231 ye) ?_;refine qaN ?_;refine qbu ?_;refine qap ?_;refine qb3 ?_;refine zn (p:=¬(zhG (zcW t l nonce) tries).isSome=true) rfl (by cases (zhG (zcW t l nonce) tries).isSome<;>rfl) (fun ht39=>?_) (fun ht39=>?_)
 ·
  have hE:ze6 t l nonce tries=4:=ztU (ua ht29) ht39;refine CQR ?_;refine A0 (zy rfl zlK bd_59 .nil rfl) ?_;refine qbR ?_;refine qae ?_;exact zp rfl rfl (zs rfl rfl zed (by unfold zsc;rw[hE];rfl)) (zQ (za rfl (hE.symm)))
 have hE:ze6 t l nonce tries=0:=mineBE_ok (ua ht29) (ua ht39);refine qcH ?_;refine xg ?_;refine X0 (oLs rfl rfl rfl zaX) ?_;refine X0 (oLs rfl rfl rfl zec) ?_;refine X0 (oCl (zB (znf t)) rfl fn_190 yd) ?_;refine X0 mV ?_;refine X0 (oCl (zB (txs_ok l hl)) rfl fn_194 yd) ?_;refine X0 (zy rfl zlK bd_59 (.cons zce zaN zaX rfl (.cons zgd zdu zcc rfl (.cons zgc zdt zop rfl .nil))) rfl) ?_;refine XK.e (x:=.idk) (fun fr' hfr kk H=>by exact zg rfl rfl rfl ((hfr 8 yc).trans rfl) rfl (Lens.self _) zed ((hfr 46 yc).trans rfl) (zt H)) ?_;refine X0 aV ?_;refine XK.nil' ?_;exact zp rfl rfl (zs rfl rfl zed (by unfold zsc;rw[hE,ut rfl])) (zQ (za rfl (hE.symm)))
def s2:Ab.Id:=[219,193,180,201,0,255,228,141,87,91,93,165,198,56,4,1,37,246,93,176,254,62,36,73,75,118,234,152,100,87,217,134]
def s4:Ab.Id:=[229,45,156,80,140,80,35,71,52,77,140,7,173,145,203,214,6,138,252,117,255,98,146,240,98,160,156,163,129,200,158,113]
def id0:Ab.Id:=[204,117,100,156,217,35,11,173,35,93,199,149,159,68,227,45,148,39,20,174,85,27,122,223,187,132,2,33,173,199,16,195]
def lk0:Ab.Id:=[191,122,202,251,39,175,213,3,220,82,240,192,217,1,99,0,242,60,209,156,152,127,176,94,46,148,67,11,109,16,112,47]
def zh3:Head:=⟨0,zId,s2,s2,s4,zc6,545259519,0⟩
def zuh (n:UInt64):Head:=⟨1,id0,lk0,s2,id0,[2,0,0,0],545259519,n⟩
theorem sum_s2:zgo [2]=s2:=yo
theorem sum_s4:zgo [4]=s4:=yo
theorem zp7:zhe []=s2:=by rw[zhe,ut (show([]:List Ab.Id).length=0 from rfl),sum_s2]
theorem zu2 (x:Ab.Id):zhe [x]=x:=by rw[zhe,ur (show ¬[x].length=0 by simp),dif_pos (show [x].length≤1 by simp)];rfl
theorem easy_first:ziV 545259519=zh3:=by
  have e1:zcM []=s2:=zp7;have e2:zrA []=s2:=zp7;have e3:(zbi []).h=s4:=sum_s4;unfold ziV;rw[e1,e2,e3];rfl
theorem zqT:za5 zh3=id0:=yo
theorem easy_work:zff zh3=[2,0,0,0]:=yo
theorem easy_level:zat zh3=31:=yo
theorem zqS:zbG 545259519=true:=yo
theorem easy_lk:zvt id0=lk0:=yo
theorem easy_may0:zcl (zuh 0)=false:=yo
theorem znM:zcl (zuh 1)=true:=yo
def leaf0:Total:=leafT id0 [2,0,0,0]
def ze1:Tip:=⟨⟨zh3,[],[]⟩,[leaf0],[]⟩
def zbm:Block:=⟨zuh 1,[id0],[]⟩
def leaf1:Total:=zfe (zuh 1)
def zv6:Tip:=⟨zbm,zaE [leaf0] leaf1,[]⟩
theorem easy_leaf:zfe zh3=leaf0:=by unfold zfe leaf0;rw[zqT,easy_work]
theorem zqR:zan 545259519=ze1:=by unfold zan;rw[ut zqS,easy_first,easy_leaf];rfl
theorem zk5:zhf ze1=[id0]:=by
  show zdY [] (za5 zh3) (zat zh3)=_;rw[zqT];unfold zdY;rw[ur (show ¬32<([]:List Ab.Id).length by decide),ut (show([]:List Ab.Id).length=0 from rfl)]
theorem znL (n:UInt64):zcW ze1 [] n=zuh n:=by
  have e1:zcM [id0]=lk0:=(zu2 _).trans easy_lk;have e2:zrA []=s2:=zp7;unfold zcW;rw[zk5,e1,e2];show(⟨_,za5 zh3,_,_,_,_,_,_⟩:Head)=_;rw[zqT];rfl
theorem zsV:zhG (zuh 0) 200=some (zuh 1):=by
  unfold zhG;rw[zjX yr (by rw[easy_may0];decide)];exact zhH yr znM
theorem zod:zX [] []=([],0):=yo
theorem zpw:ze6 ze1 [] 0 200=0:=by
  unfold ze6;rw[znL,ur yr,show(zX ze1.c []).2=0 from congrArg (·.2) zod,ur yr,zsV];rfl
theorem easy_mineB:zsc ze1 [] 0 200=zbm:=by
  unfold zsc;rw[zpw,ut rfl,znL,zsV,zk5];rfl
theorem zpv:zdF ze1 zbm=0:=by
  unfold zdF;have e:zcW ze1 zbm.t zbm.h.nonce=zbm.h:=znL 1;rw[e,ur yr,ur yA,ur (by rw[zk5];simp[zbm]),ur yA,ur (by rw[show zcl zbm.h=true from znM];simp)];exact congrArg (·.2) zod
theorem easy_pushT:zjK ze1 zbm=zv6:=by
  unfold zjK;rw[zpv,ut rfl,show(zX ze1.c zbm.t).1=[] from congrArg (·.1) zod];rfl
theorem ztG:zjD zbm:=by refine⟨by decide,by decide,fun t ht=>by cases ht⟩
theorem eq_u32 {x y:UInt32}:decide (IntL.toI u32T x=IntL.toI u32T y)=decide (x=y):=by rw[uo];show((x.toNat:Nat):Int)=((y.toNat:Nat):Int)↔_;rw[Int.ofNat_inj,UInt32.toNat_inj]
theorem zr0:∀(r:List Total) (x:Total),(zhE r x).length≤r.length+1
  | [],_=>ug _
  | y::r,x=>by
    rw[zhE]
    split
    · have:=zr0 r (zj1 y x);rw[List.length_cons];omega
    rw[List.length_cons];omega
theorem zqt {p:List Total} {x:Total}:(zaE p x).length≤p.length+1:=by
  unfold zaE
  have:=zr0 p.reverse x
  rw[List.length_reverse] at this ⊢;exact this
theorem apply_may {p:List Coin} {l:List Tx} (h:(zX p l).2=0):zaP p=true:=by
  refine Classical.byContradiction fun hn=>?_
  unfold zX at h;rw[ut hn] at h;exact absurd h (show ¬(1:Int)=0 by decide)
theorem zqa {t:Tip} {b:Block}:zdF t b=0↔b.h.height<48∧b.h=zcW t b.t b.h.nonce∧b.l=zhf t∧zcl b.h=true∧(zX t.c b.t).2=0:=by
  constructor
  · intro h
    unfold zdF at h;by_cases h1:48≤b.h.height
    · rw[ut h1] at h;exact absurd h yr
    rw[ur h1] at h;by_cases h2:¬ze2 b.h=ze2 (zcW t b.t b.h.nonce)
    · rw[ut h2] at h;exact absurd h yr
    rw[ur h2] at h;by_cases h3:¬b.h.links=(zcW t b.t b.h.nonce).links∨¬b.l=zhf t
    · rw[ut h3] at h;exact absurd h yr
    rw[ur h3] at h;by_cases h4:¬b.h=zcW t b.t b.h.nonce
    · rw[ut h4] at h;exact absurd h yr
    rw[ur h4] at h;by_cases h5:¬zcl b.h=true
    · rw[ut h5] at h;exact absurd h yr
    rw[ur h5] at h;exact⟨by omega,ua h4,ua fun hc=>h3 (.inr hc),ua h5,h⟩
  rintro ⟨h1,h2,h3,h4,h5⟩
  unfold zdF;rw[ur ya,ur (Classical.not_not.2 (congrArg ze2 h2)),ur (fun h=>h.elim (fun h=>h (congrArg (·.links) h2)) fun h=>h h3),ur (Classical.not_not.2 h2),ur (Classical.not_not.2 h4)];exact h5
theorem zg2 {a:UInt32} (h:zbG a=true):zan a=⟨⟨ziV a,[],[]⟩,[zfe (ziV a)],[]⟩:=by unfold zan;rw[ut h];rfl
theorem zqb {t:Tip} {b:Block} (h:zdF t b=0):zjK t b=⟨b,zaE t.p (zfe b.h),(zX t.c b.t).1⟩:=by unfold zjK;rw[ut h]
def zgM (x:Total):Prop:=x.w.length=4∧-9223372036854775808≤x.n∧x.n≤9223372036854775807
theorem wrap_q (n:Int):∃q,IntKind.i64.wrap n=n+18446744073709551616*q∧-9223372036854775808≤IntKind.i64.wrap n∧IntKind.i64.wrap n≤9223372036854775807:=by
  have h:=zdf.1 (zi3 n);refine⟨(IntKind.i64.wrap n-n)/18446744073709551616,?_,h⟩;simp only[IntKind.wrap,IntKind.signed,IntKind.bits];simp
  split<;>omega
def nS (l:List Total):Nat:=(l.map fun x=>nW x.w).sum
def iS (l:List Total):Int:=(l.map (·.n)).sum
theorem zsi {y x:Total} (hy:zgM y) (hx:zgM x):zgM (zj1 y x):=⟨zrd hy.1 hx.1,(wrap_q _).choose_spec.2⟩
theorem zvw {y x:Total} (hy:zgM y) (hx:zgM x):nW (zj1 y x).w=(nW y.w+nW x.w)%W256∧∃q,(zj1 y x).n=y.n+x.n+18446744073709551616*q:=⟨nW_add hy.1 hx.1,let ⟨q,h,_⟩:=wrap_q (y.n+x.n);⟨q,h⟩⟩
theorem zll:∀{r:List Total} {x:Total},(∀y∈r,zgM y)→zgM x→zgM (zcK r x)∧nW (zcK r x).w=(nS r+nW x.w)%W256∧∃q,(zcK r x).n=iS r+x.n+18446744073709551616*q
  | [],x,_,hx=>⟨hx,by have:=nW_lt hx.1;show nW x.w=(0+nW x.w)%W256;unfold W256 at *;omega,0,by show x.n=0+x.n+_;omega⟩
  | y::r,x,hr,hx=>by
    have hy:=hr y yA;obtain⟨h1,h2,q,h3⟩:=zll (r:=r) (fun z hz=>hr z (by simp[hz])) (zsi hy hx);obtain⟨h4,q',h5⟩:=zvw hy hx;refine⟨h1,?_,q+q',?_⟩
    · show nW (zcK r (zj1 y x)).w=(nS (y::r)+nW x.w)%W256
      have e:nS (y::r)=nW y.w+nS r:=by unfold nS;simp
      rw[h2,h4,e];unfold W256;omega
    show(zcK r (zj1 y x)).n=iS (y::r)+x.n+_;have e:iS (y::r)=y.n+iS r:=by unfold iS;simp
    rw[h3,h5,e];omega
theorem zm2:∀{r:List Total} {x:Total},(∀y∈r,zgM y)→zgM x→(∀y∈zhE r x,zgM y)∧nS (zhE r x)%W256=(nS r+nW x.w)%W256∧∃q,iS (zhE r x)=iS r+x.n+18446744073709551616*q
  | [],x,_,hx=>⟨fun y hy=>by simp[zhE] at hy;rw[hy];exact hx,by simp[zhE,nS],0,by simp[zhE,iS]⟩
  | y::r,x,hr,hx=>by
    have hy:=hr y yA;have e:nS (y::r)=nW y.w+nS r:=by unfold nS;simp
    have e':iS (y::r)=y.n+iS r:=by unfold iS;simp
    rw[zhE]
    split
    · obtain⟨h1,h2,q,h3⟩:=zm2 (r:=r) (fun z hz=>hr z (by simp[hz])) (zsi hy hx)
      obtain⟨h4,q',h5⟩:=zvw hy hx;refine⟨h1,?_,q+q',?_⟩
      · rw[h2,h4,e];unfold W256;omega
      rw[h3,h5,e'];omega
    refine⟨fun z hz=>?_,?_,0,?_⟩
    · rcases List.mem_cons.1 hz with h|h
      · rw[h];exact hx
      exact hr z h
    · have:nS (x::y::r)=nW x.w+(nW y.w+nS r):=by unfold nS;simp
      rw[this,e];congr 1;omega
    have:iS (x::y::r)=x.n+(y.n+iS r):=by unfold iS;simp
    rw[this,e'];omega
theorem zrV {r:List Total} (hr:∀y∈r,zgM y):zgM (zbi r.reverse)∧nW (zbi r.reverse).w=nS r%W256∧∃q,(zbi r.reverse).n=iS r+18446744073709551616*q:=by
  unfold zbi;rw[List.reverse_reverse];cases r with
  | nil=>exact⟨⟨rfl,by decide,by decide⟩,rfl,0,rfl⟩
  | cons x r =>
    obtain⟨h1,h2,q,h3⟩:=zll (r:=r) (fun z hz=>hr z (by simp[hz])) (hr x yA);refine⟨h1,?_,q,?_⟩
    · show nW (zcK r x).w=_
      rw[h2];unfold nS;simp;congr 1;omega
    show(zcK r x).n=_;rw[h3];unfold iS;simp;omega
theorem zeK (h:Head):(zff h).length=4:=by
  unfold zff
  split
  · unfold workW
    split
    · refine zrd ?_ rfl
      unfold divW divP
      split
      · rfl
      simp only[]
      have:∀(b:Wide) (n:Nat) (x:Wide×Wide),x.2.length=4→(divN b n x).2.length=4:=fun b n=>by
        induction n with
        | zero=>intro x hx;exact hx
        | succ n ih =>
          intro x hx;rw[divN];refine ih _ ?_;unfold zjk
          split
          · simp only[ztN,List.length_set];exact hx
          exact hx
      exact this _ _ _ rfl
    rfl
  rfl
theorem append_sum {p:List Total} {h:Head} (hp:∀x∈p,zgM x):(zbi (zaE p (zfe h))).w=addW (zbi p).w (zff h)∧(zbi (zaE p (zfe h))).n=IntKind.i64.wrap ((zbi p).n+1):=by
  have hr:∀x∈p.reverse,zgM x:=fun x hx=>hp x (by simpa using hx)
  have hx:zgM (zfe h):=⟨zeK h,by show(-9223372036854775808:Int)≤1;decide,by show(1:Int)≤9223372036854775807;decide⟩;obtain⟨a1,a2,q1,a3⟩:=zm2 hr hx;obtain⟨b1,b2,q2,b3⟩:=zrV a1;obtain⟨c1,c2,q3,c3⟩:=zrV hr;rw[List.reverse_reverse] at c1 c2 c3
  constructor
  · refine nW_inj b1.1 (zrd c1.1 (zeK h)) ?_
    rw[nW_add c1.1 (zeK h),c2];show nW (zbi (zhE p.reverse (zfe h)).reverse).w=_;rw[b2,a2];show(nS p.reverse+nW (zff h))%W256=_;unfold W256;omega
  show(zbi (zhE p.reverse (zfe h)).reverse).n=_;obtain⟨q4,d1,d2⟩:=wrap_q ((zbi p).n+1);have e:(zfe h).n=1:=rfl
  have:=b1.2
  omega
def zau:Tip→List Block→Tip×Int
  | t,[]=>(t,0)
  | t,b::l=>if zdF t b=0 then zau (zjK t b) l else (zTip,zdF t b)
def zab (l:List Block):Tip×Int :=
  match l with
  | []=>(zTip,9)
  | g::r=>if zbG g.h.bits=true∧(zan g.h.bits).b=g then zau (zan g.h.bits) r else (zTip,12)
def zoL (l:List Block) (t:List Tx) (nonce:UInt64):Int:=if (zab l).2=0 then ze6 (zab l).1 t nonce 200 else (zab l).2
def zj4 (l:List Block) (t:List Tx) (nonce:UInt64):List Block:=if zoL l t nonce=0 then l++[zsc (zab l).1 t nonce 200] else l
def zbp (l:List Block):List Int:=l.map fun b=>zat b.h
def zfd (l:List Block):List Total:=l.map fun b=>zfe b.h
def zli (l:List Block):Prop:=l.length*232≤140737488351232∧∀b∈l,zjD b
def Chain (l:List Block) (t:Tip):Prop:=zab l=(t,0)
theorem zkk:∀{l m:List Block} {t:Tip},zau t (l++m)=if (zau t l).2=0 then zau (zau t l).1 m else zau t l
  | [],m,t=>by simp[zau]
  | b::l,m,t=>by
    rw[List.cons_append,zau,zau];by_cases h:zdF t b=0
    · rw[ut h,ut h];exact zkk
    rw[ur h,ur h,ur h]
theorem zjn {l m:List Block} (h:¬l=[]):zab (l++m)=if (zab l).2=0 then zau (zab l).1 m else zab l:=by
  cases l with
  | nil=>exact absurd rfl h
  | cons g r =>
    rw[List.cons_append];unfold zab;simp only[];by_cases h:zbG g.h.bits=true∧(zan g.h.bits).b=g
    · rw[ut h,ut h];exact zkk
    rw[ur h,ur h];rfl
theorem zq1 {l:List Block} (h:(zab l).2=0):¬l=[]:=fun e=>by rw[e] at h;exact absurd h yr
theorem zs4 {l:List Block} {b:Block} (h:(zab l).2=0):zab (l++[b])=if zdF (zab l).1 b=0 then (zjK (zab l).1 b,0) else (zTip,zdF (zab l).1 b):=by
  rw[zjn (zq1 h),ut h];rfl
theorem zq0 {l:List Block} (h:(zab l).2=0):Chain l (zab l).1:=by unfold Chain;rw[←h]
theorem zs6 {b:Block} {t:Tip} (h:Chain [b] t):zbG b.h.bits=true∧b=⟨ziV b.h.bits,[],[]⟩∧t=zan b.h.bits:=by
  unfold Chain zab at h;simp only[] at h;by_cases c:zbG b.h.bits=true∧(zan b.h.bits).b=b
  · rw[ut c] at h
    refine⟨c.1,?_,(congrArg (·.1) h).symm⟩
    have:=c.2
    rw[zg2 c.1] at this;exact this.symm
  rw[ur c] at h;exact absurd (congrArg (·.2) h) (by show ¬(12:Int)=0;decide)
theorem chain_snoc {l:List Block} {b:Block} {t:Tip} (hl:¬l=[]) (h:Chain (l++[b]) t):∃t',Chain l t'∧zdF t' b=0∧t=zjK t' b:=by
  unfold Chain at h;rw[zjn hl] at h;by_cases c:(zab l).2=0
  · rw[ut c] at h
    rw[zau] at h;by_cases d:zdF (zab l).1 b=0
    · rw[ut d,zau] at h
      exact⟨_,zq0 c,d,(congrArg (·.1) h).symm⟩
    rw[ur d] at h;exact absurd (congrArg (·.2) h) d
  rw[ur c] at h;exact absurd (congrArg (·.2) h) c
theorem zn1 {P:List Block→Tip→Prop} (h1:∀bits,zbG bits=true→P [⟨ziV bits,[],[]⟩] (zan bits)) (h2:∀l t b,Chain l t→P l t→zdF t b=0→P (l++[b]) (zjK t b)):∀(n:Nat) (l:List Block) (t:Tip),l.length=n→Chain l t→P l t
  | 0,l,t,hn,h=>absurd (List.eq_nil_of_length_eq_zero hn) (zq1 (congrArg (·.2) h))
  | n+1,l,t,hn,h=>by
    have hl:¬l=[]:=fun e=>by rw[e] at hn;cases hn
    obtain⟨r,b,rfl⟩:∃r b,l=r++[b]:=⟨l.dropLast,l.getLast hl,(List.dropLast_concat_getLast hl).symm⟩;by_cases hr:r=[]
    · subst hr
      obtain⟨e1,e2,e3⟩:=zs6 h;rw[e3,List.nil_append]
      have:=h1 b.h.bits e1
      rw[←e2] at this;exact this
    obtain⟨t',e1,e2,e3⟩:=chain_snoc hr h;rw[e3];exact h2 _ _ _ e1 (zn1 h1 h2 n r t' (by simp at hn;omega) e1) e2
theorem zn0 {l:List Block} {t:Tip} (h:Chain l t):l.getLast?=some t.b∧t.b.h.height=(l.length:Int)-1∧l.length≤48∧t.p=(zfd l).foldl zaE []∧(∃g,l[0]?=some g∧t.b.h.bits=g.h.bits):=by
  refine zn1 (P:=fun l t=>l.getLast?=some t.b∧t.b.h.height=(l.length:Int)-1∧l.length≤48∧t.p=(zfd l).foldl zaE []∧(∃g,l[0]?=some g∧t.b.h.bits=g.h.bits)) (fun bits hb=>?_) (fun l t b hc hi hp=>?_) l.length l t rfl h
  · rw[zg2 hb]
    exact⟨rfl,rfl,Nat.le_of_ble_eq_true rfl,rfl,_,rfl,rfl⟩
  obtain⟨i1,i2,i3,i4,g,i5,i6⟩:=hi;obtain⟨p1,p2,_⟩:=zqa.1 hp;have hne:0<l.length:=List.length_pos_iff.2 (zq1 (congrArg (·.2) hc));have e:b.h.height=IntKind.i64.wrap (t.b.h.height+1):=congrArg (·.height) p2;rw[i2,zas ya] at e;rw[zqb hp];refine⟨by simp,?_,?_,?_,g,?_,?_⟩
  · show b.h.height=_
    rw[e,ue,List.length_singleton];omega
  · rw[ue,List.length_singleton];omega
  · show zaE t.p (zfe b.h)=_
    rw[i4];unfold zfd;rw[List.map_append,List.foldl_append];rfl
  · rw[List.getElem?_append_left hne];exact i5
  show b.h.bits=_;rw[show b.h.bits=t.b.h.bits from congrArg (·.bits) p2,i6]
theorem zpF {l:List Block} {t:Tip} {i:Nat} (h:Chain l t) (hi:1≤i) (hl:i≤l.length):∃t',Chain (l.take i) t'∧zau t' (l.drop i)=(t,0):=by
  have hne:¬l.take i=[]:=fun e=>by have:=congrArg List.length e;rw[um] at this;change min i l.length=0 at this;omega
  have h0:zab (l.take i++l.drop i)=(t,0):=by rw[List.take_append_drop];exact h
  rw[zjn hne] at h0;by_cases c:(zab (l.take i)).2=0
  · rw[ut c] at h0;exact⟨_,zq0 c,h0⟩
  rw[ur c] at h0;exact absurd (congrArg (·.2) h0) c
theorem chain_at {l:List Block} {t:Tip} {i:Nat} {b:Block} (h:Chain l t) (hi:1≤i) (hb:l[i]?=some b):∃t',Chain (l.take i) t'∧zdF t' b=0∧l[i-1]?=some t'.b:=by
  obtain⟨hl,e⟩:=ul.1 hb;obtain⟨t',h1,h2⟩:=zpF h hi (Nat.le_of_lt hl);rw[List.drop_eq_getElem_cons hl,e,zau] at h2;refine⟨t',h1,?_,?_⟩
  · by_cases c:zdF t' b=0
    · exact c
    rw[ur c] at h2;exact absurd (congrArg (·.2) h2) c
  have:=(zn0 h1).1
  have h5:(l.take i)[i-1]?=l[i-1]?:=by rw[List.getElem?_take];split<;>first|rfl|omega
  rw[List.getLast?_eq_getElem?,um,Nat.min_eq_left (Nat.le_of_lt hl),h5] at this;exact this
theorem zhz {t:Tip} (h1:t.b.l=[]) (h2:t.b.t=[]) (h3:Nat.ble t.p.length 1=true) (h4:t.c=[]):zfT t:=by
  have:=Nat.le_of_ble_eq_true h3
  refine⟨⟨by rw[h1];decide,by rw[h2];decide,fun x hx=>by rw[h2] at hx;cases hx⟩,by omega,by rw[h4];decide⟩
def zrK (t:Tip) (n:Nat):Prop:=zfT t∧t.p.length≤n+1∧t.b.h.height=n
theorem zm1 {t:Tip} {b:Block} {n:Nat} (ht:zrK t n) (hn:n≤1000000000000) (hb:zjD b) (h:zdF t b=0):zrK (zjK t b) (n+1):=by
  obtain⟨h6,h7,_,_,h5⟩:=zqa.1 h;rw[zqb h];have h1:=zqt (p:=t.p) (x:=zfe b.h);have h2:=zeJ (zux (l:=b.t) (apply_may h5)).1;obtain⟨_,h3,h4⟩:=ht;have e:b.h.height=IntKind.i64.wrap (t.b.h.height+1):=congrArg (·.height) h7;rw[h4,zas ya] at e;refine⟨⟨hb,?_,?_⟩,?_,?_⟩
  · show(zaE t.p (zfe b.h)).length≤1000
    omega
  · show(zX t.c b.t).1.length≤1000
    omega
  · show(zaE t.p (zfe b.h)).length≤n+1+1
    omega
  show b.h.height=_;rw[e];omega
theorem znG {bits:UInt32}:zrK (zan bits) 0:=by
  by_cases h:zbG bits=true
  · rw[zg2 h];exact⟨zhz rfl rfl rfl rfl,Nat.le_of_ble_eq_true rfl,rfl⟩
  have:zan bits=zTip:=by unfold zan;rw[ur h]
  rw[this];exact⟨zhz rfl rfl rfl rfl,Nat.le_of_ble_eq_true rfl,rfl⟩
theorem zh7:∀{l:List Block} {t:Tip} {n:Nat},zrK t n→n+l.length≤1000000000000→(∀b∈l,zjD b)→zfT (zau t l).1
  | [],t,n,ht,_,_=>ht.1
  | b::l,t,n,ht,hn,hl=>by
    rw[zau];rw[List.length_cons] at hn
    split
    · rename_i h
      exact zh7 (zm1 ht ya (hl b yA) h) ya fun x hx=>hl x (by simp[hx])
    exact zhz rfl rfl rfl rfl
theorem zuk {l:List Block} (h:zli l):zfT (zab l).1:=by
  cases l with
  | nil=>exact zhz rfl rfl rfl rfl
  | cons g r =>
    unfold zab;simp only[]
    split
    · refine zh7 znG ?_ fun x hx=>h.2 x (by simp[hx])
      have:=h.1
      rw[List.length_cons] at this;omega
    exact zhz rfl rfl rfl rfl
theorem zul {l:List Block} {t:Tip} (h:Chain l t):(∀x∈t.p,zgM x)∧(zbi t.p).n=l.length:=by
  refine zn1 (P:=fun l t=>(∀x∈t.p,zgM x)∧(zbi t.p).n=l.length) (fun bits hb=>?_) (fun l t b hc hi hp=>?_) l.length l t rfl h
  · rw[zg2 hb]
    refine⟨fun x hx=>?_,rfl⟩;rw[List.mem_singleton.1 hx];exact⟨zeK _,by show(-9223372036854775808:Int)≤1;decide,by show(1:Int)≤9223372036854775807;decide⟩
  have hlen:=(zn0 hc).2.2.1;rw[zqb hp];obtain⟨i1,i2⟩:=hi;refine⟨fun x hx=>?_,?_⟩
  · have hr:∀y∈t.p.reverse,zgM y:=fun y hy=>i1 y (by simpa using hy)
    have hg:zgM (zfe b.h):=⟨zeK _,by show(-9223372036854775808:Int)≤1;decide,by show(1:Int)≤9223372036854775807;decide⟩;refine(zm2 hr hg).1 x ?_;have hx:x∈zaE t.p (zfe b.h):=hx;unfold zaE at hx;simpa using hx
  show(zbi (zaE t.p (zfe b.h))).n=_;rw[(append_sum i1).2,i2,zas ya,ue,List.length_singleton];omega
theorem ztY {l:List Block} {i:Nat}:zfd (l.take i)=(zfd l).take i:=by unfold zfd;rw[List.map_take]
theorem zs5 {l:List Block} {t:Tip} {i:Nat} {b a g:Block} (h:Chain l t) (hi:1≤i) (hb:l[i]?=some b) (ha:l[i-1]?=some a) (hg:l[0]?=some g):b.h.height=i∧b.h.prev=za5 a.h∧b.h.past=(zbi (((zfd l).take i).foldl zaE [])).h∧b.h.work=(zbi (((zfd l).take i).foldl zaE [])).w∧(zbi (((zfd l).take i).foldl zaE [])).n=i∧b.h.bits=g.h.bits∧b.h.links=zcM b.l∧zcl b.h=true:=by
  obtain⟨t',h1,h2,h3⟩:=chain_at h hi hb;obtain⟨hl,_⟩:=ul.1 hb;obtain⟨c1,c2,c3,c4,g',c5,c6⟩:=zn0 h1;obtain⟨_,p2,p3,p4,_⟩:=zqa.1 h2;have hlt:(l.take i).length=i:=by rw[um];omega
  rw[ztY] at c4;rw[ha] at h3;injection h3 with h3;rw[List.getElem?_take,ut ya,hg] at c5;injection c5 with c5;rw[←c4];refine⟨?_,?_,congrArg (·.past) p2,congrArg (·.work) p2,?_,?_,?_,p4⟩
  · rw[show b.h.height=IntKind.i64.wrap (t'.b.h.height+1) from congrArg (·.height) p2,c2,hlt,zas ya];omega
  · rw[h3];exact congrArg (·.prev) p2
  · rw[(zul h1).2,hlt]
  · rw[c5,←c6];exact congrArg (·.bits) p2
  rw[p3];exact congrArg (·.links) p2
def zcZ:Block:=⟨zh3,[],[]⟩
theorem zg8:zab [zcZ]=(ze1,0):=by
  unfold zab;simp only[];have e:zan zcZ.h.bits=ze1:=zqR;rw[e,ut ⟨zqS,rfl⟩];rfl
theorem easy_growE:zoL [zcZ] [] 0=0:=by
  unfold zoL;rw[zg8,ut rfl];exact zpw
theorem easy_grown:zj4 [zcZ] [] 0=[zcZ,zbm]:=by
  unfold zj4;rw[easy_growE,ut rfl,zg8,easy_mineB];rfl
theorem zug:zab [zcZ,zbm]=(zv6,0):=by
  rw[show [zcZ,zbm]=[zcZ]++[zbm] from rfl,zs4 (by rw[zg8]),zg8,zpv,ut rfl,easy_pushT]
theorem zuf:decide (0≤zat zbm.h)=true:=yo
theorem easy_nz:decide (za5 zbm.h=zId)=false:=yo
theorem zlh:zjD zcZ:=by refine⟨by decide,by decide,fun t ht=>by cases ht⟩
theorem zrJ:zli [zcZ]:=⟨by decide,fun b hb=>by rw[List.mem_singleton.1 hb];exact zlh⟩
theorem zmJ:zli [zcZ,zbm]:=⟨by decide,fun b hb=>by
  rcases List.mem_cons.1 hb with h|h
  · rw[h];exact zlh
  rw[List.mem_singleton.1 h];exact ztG⟩
theorem zqZ {l:List Block} {g:Block} (h:l[0]?=some g) (h1:zbG g.h.bits=true) (h2:(zan g.h.bits).b=g):zab l=zau (zan g.h.bits) (l.drop 1):=by
  cases l with
  | nil=>cases h
  | cons x r =>
    injection h with h;subst h;unfold zab;simp only[];rw[ut ⟨h1,h2⟩];rfl
theorem zfi {l:List Block} {g:Block} (h:l[0]?=some g) (h1:¬(zbG g.h.bits=true∧(zan g.h.bits).b=g)):zab l=(zTip,12):=by
  cases l with
  | nil=>cases h
  | cons x r =>
    injection h with h;subst h;unfold zab;simp only[];rw[ur h1]
theorem check_step {r:List Block} {k:Nat} {b:Block} {t:Tip} (hb:r[k]?=some b) (h:zdF t b=0):zau t (r.drop k)=zau (zjK t b) (r.drop (k+1)):=by
  obtain⟨hk,rfl⟩:=ul.1 hb;rw[List.drop_eq_getElem_cons hk,zau,ut h]
theorem zpC {r:List Block} {k:Nat} {b:Block} {t:Tip} (hb:r[k]?=some b) (h:¬zdF t b=0):zau t (r.drop k)=(zTip,zdF t b):=by
  obtain⟨hk,rfl⟩:=ul.1 hb;rw[List.drop_eq_getElem_cons hk,zau,ur h]
theorem zs3 {r:List Block} {k:Nat} {t:Tip} (h:r.length≤k):zau t (r.drop k)=(t,0):=by
  rw[List.drop_of_length_le h];rfl
theorem znZ {l:List Block} (h:l.length=0):zab l=(zTip,9):=by rw[List.eq_nil_of_length_eq_zero h];rfl
def newOf (bits:UInt32):List Block:=if zbG bits=true then [(zan bits).b] else []
theorem zqk (t:Tx) (ht:zkB t):Tells P 228 [.val txT t] (.val txT t):=by
 refine zd Tryz.func228 rfl rfl rfl (fun ext w hext=>?_);refine qah ?_;refine zq zrm rfl rfl rfl rfl ?_;refine CNQ ?_;refine zA [some 1,some 1,some 1,some 1,some 1,some 1,some 1,none] mixed yc ?_;refine X0 (oFp zeB) ?_;refine X0 (oLb zeE zoo) ?_;refine X0 (oCl (zB (cloneIn t.ins (by unfold zkB at ht;constructor<;>omega))) rfl fn_229 yd) ?_;refine X0 (oFp zdb) ?_;refine X0 (oLb zco zkx) ?_;refine X0 (oCl (zB (zwa t.outs (by unfold zkB at ht;constructor<;>omega))) rfl fn_230 yd) ?_;refine X0 (zy rfl zrm bd_101 (.cons zeB zeE zoo rfl (.cons zdb zco zkx rfl .nil)) rfl) ?_;refine XK.e (x:=.idk) (fun fr' hfr kk H=>by exact zg rfl rfl rfl ((hfr 2 yc).trans rfl) rfl (Lens.self _) zhx ((hfr 9 yc).trans rfl) (zt H)) ?_;refine XK.nil' ?_;exact z7 rfl rfl rfl rfl zhx (rfl)
theorem toldTx_ok (l:List Tx) (hl:zrL l):Tells P 227 [.val (bsl txT) l,.clo 228 []] (.fresh 101 txT l):=by
 have hll:=hl.1;refine zd Tryz.func227 rfl rfl rfl (fun ext w hext=>?_);refine ze (d:=0) rfl zm (fun hsl0=>?_);refine qcn ?_;refine A0 aL ?_;refine qbx ?_;refine xo ?_;refine qaH ?_;refine zbk (T:=txT) (d:=5) 101 rfl ?_;refine Lp (ι:=Nat) 1 (fun (k:Nat)=>((((((Fr.none).set 0 (.val (bsl txT) l)).set 1 (.clo 228 [])).set 5 (.own 0)).set 8 (.val (bsl txT) l)).set 9 (.val i64T (l.length:Int))).set 10 (.val i64T (k:Int))) (fun (k:Nat)=>(Hp.none).set 0 (.row 101 txT (l.take k))) (fun (k:Nat)=>k≤l.length) (fun (k:Nat)=>l.length-k) (0) (uf _) ?_;intro k hinv;refine qar ?_;refine Cf (p:=k<l.length) (fun ht11=>?_) (fun ht11=>?_)
 ·
  obtain⟨x,hx⟩:∃x,l[k]?=some x:=⟨_,ub ht11⟩;have hxm:=ud hx;refine CSQBQR ?_;refine qbz ?_;refine qc0 ?_;refine CNR ?_;refine A0 mO ?_;refine A0 mC ?_;refine qcG ?_;refine A0 (ze0 (As:=[_]) (Cs:=[]) (zqk x (hl.2 x hxm)) rfl rfl fn_228 yd yF trivial rfl) ?_;refine A0 (zL (T:=txT) (xs:=[_]) rfl zpW zu0 yE rfl rfl) ?_;refine zC rfl rfl rfl rfl rfl rfl rfl zu0 yK ?_;refine A0 aO ?_;refine qbt ?_;refine zaz 2 0 3 rfl rfl rfl rfl rfl rfl ?_;refine zj (n:=0) (y:=l.take (k+1)) rfl (by rw[un,hx];rfl) ?_;exact Nx (k+1) ya ya
 refine qaS ?_;exact zb rfl rfl (zh rfl rfl yT)
theorem ztM (b:Block) (hb:zjD b):Tells P 226 [.val zav b] (.val zav b):=by
 have hb1:=hb.1;refine zd Tryz.func226 rfl rfl rfl (fun ext w hext=>?_);refine qah ?_;refine zq zlK rfl rfl rfl rfl ?_;refine CNQR ?_;refine A0 (oFp zgd) ?_;refine A0 (oLb zdu zcc) ?_;refine A0 (oCl (zB (zh4 b.l y6)) rfl zsN yd) ?_;refine A0 (oFp zgd) ?_;refine zg rfl rfl rfl rfl rfl zdu zcc rfl ?_;refine CNQR ?_;refine A0 (oFp zgc) ?_;refine A0 (oLb zdt zop) ?_;refine A0 (oCl (zB (toldTx_ok b.t hb.2)) rfl fn_227 ⟨yn,(by first|exact zdI (Cs:=[]) rfl fn_228 yF trivial rfl (fun x=>zqk _ yj)|exact zdH (Cs:=[]) rfl fn_228 yF trivial rfl (fun x y=>zqk _ yj)|exact zdJ rfl),trivial⟩) ?_;refine A0 (oFp zgc) ?_;refine zg rfl rfl rfl rfl rfl zdt zop rfl ?_;refine CNQR ?_;refine A0 (oLs rfl rfl rfl zed) ?_;refine qbR ?_;refine CN ?_;exact z7 rfl rfl rfl rfl zed (rfl)
theorem zrC (l:List Block) (hl:zli l):Tells P 225 [.val (bsl zav) l,.clo 226 []] (.fresh 59 zav l):=by
 have hll:=hl.1;refine zd Tryz.func225 rfl rfl rfl (fun ext w hext=>?_);refine ze (d:=0) rfl zm (fun hsl0=>?_);refine qcn ?_;refine A0 aL ?_;refine qbx ?_;refine A0 (zN rfl rfl zno) ?_;refine qaH ?_;refine zbk (T:=zav) (d:=5) 59 rfl ?_;refine Lp (ι:=Nat) 1 (fun (k:Nat)=>((((((Fr.none).set 0 (.val (bsl zav) l)).set 1 (.clo 226 [])).set 5 (.own 0)).set 8 (.val (bsl zav) l)).set 9 (.val i64T (l.length:Int))).set 10 (.val i64T (k:Int))) (fun (k:Nat)=>(Hp.none).set 0 (.row 59 zav (l.take k))) (fun (k:Nat)=>k≤l.length) (fun (k:Nat)=>l.length-k) (0) (uf _) ?_;intro k hinv;refine qar ?_;refine Cf (p:=k<l.length) (fun ht11=>?_) (fun ht11=>?_)
 ·
  obtain⟨x,hx⟩:∃x,l[k]?=some x:=⟨_,ub ht11⟩;have hxm:=ud hx;refine CSQBQR ?_;refine A0 (zbu rfl rfl rfl zkD yj) ?_;refine A0 (zf rfl rfl zed) ?_;refine zq zlK rfl rfl rfl rfl ?_;refine qbR ?_;refine CNR ?_;refine A0 mO ?_;refine A0 mC ?_;refine A0 (oLs rfl rfl rfl zed) ?_;refine A0 (ze0 (As:=[_]) (Cs:=[]) (ztM x (hl.2 x hxm)) rfl rfl fn_226 yd yF trivial rfl) ?_;refine A0 (zL (T:=zav) (xs:=[_]) rfl zkD zrT yE rfl rfl) ?_;refine zC rfl rfl rfl rfl rfl rfl rfl zrT yK ?_;refine A0 aO ?_;refine qbt ?_;refine zaz 2 0 3 rfl rfl rfl rfl rfl rfl ?_;refine zj (n:=0) (y:=l.take (k+1)) rfl (by rw[un,hx];rfl) ?_;exact Nx (k+1) ya ya
 refine qaS ?_;exact zb rfl rfl (zh rfl rfl yT)
theorem ownC_ok (l:List Block) (hl:zli l):Tells P 170 [.val (bsl zav) l] (.fresh 59 zav l):=by
 refine zd Tryz.func170 rfl rfl rfl (fun ext w hext=>?_);refine ze (d:=0) rfl zm (fun hsl0=>?_);refine qcn ?_;refine qa7 ?_;refine zaQ (zrC l hl) rfl fn_225 ⟨yn,(by first|exact zdI (Cs:=[]) rfl fn_226 yF trivial rfl (fun x=>ztM _ yj)|exact zdH (Cs:=[]) rfl fn_226 yF trivial rfl (fun x y=>ztM _ yj)|exact zdJ rfl),trivial⟩ rfl rfl rfl ?_;refine qbJ ?_;exact zb rfl rfl (zh rfl rfl rfl)
theorem zsf (b:Block):Tells P 206 [.val zav b] (.val i64T (zat b.h)):=by
 refine zd Tryz.func206 rfl rfl rfl (fun ext w hext=>?_);refine qah ?_;refine qaj ?_;refine A0 (oFp zce) ?_;refine A0 (oLb zaN zaX) ?_;refine A0 (oCl (zfY _) rfl zvS yd) ?_;refine qae ?_;exact zb rfl rfl yJ
theorem toldInt_ok (l:List Block) (f:Block→Int) (hl:l.length≤1000000000000):Tells P 205 [.val (bsl zav) l,.fn1 P zav i64T f] (.fresh 3 i64T (l.map f)):=by
 refine zd Tryz.func205 rfl rfl rfl (fun ext w hext=>?_);refine ze (d:=0) rfl zm (fun hsl0=>?_);refine qcn ?_;refine A0 aL ?_;refine qbx ?_;refine A0 (zN rfl rfl zno) ?_;refine qaH ?_;refine zbk (T:=i64T) (d:=5) 3 rfl ?_;refine Lp (ι:=Nat) 1 (fun (k:Nat)=>((((((Fr.none).set 0 (.val (bsl zav) l)).set 1 (.fn1 P zav i64T f)).set 5 (.own 0)).set 8 (.val (bsl zav) l)).set 9 (.val i64T (l.length:Int))).set 10 (.val i64T (k:Int))) (fun (k:Nat)=>(Hp.none).set 0 (.row 3 i64T ((l.take k).map f))) (fun (k:Nat)=>k≤l.length) (fun (k:Nat)=>l.length-k) (0) (uf _) ?_;intro k hinv;refine qar ?_;refine Cf (p:=k<l.length) (fun ht11=>?_) (fun ht11=>?_)
 ·
  obtain⟨x,hx⟩:∃x,l[k]?=some x:=⟨_,ub ht11⟩;have hxm:=ud hx;refine CSQBQR ?_;refine A0 (zbu rfl rfl rfl zkD yj) ?_;refine A0 (zf rfl rfl zed) ?_;refine zq zlK rfl rfl rfl rfl ?_;refine qbR ?_;refine CNR ?_;refine A0 mO ?_;refine A0 mF ?_;refine A0 (oLs rfl rfl rfl zed) ?_;refine A0 (zka rfl rfl yn) ?_;refine qbB ?_;refine A0 aO ?_;refine qbt ?_;refine zaz 2 0 3 rfl rfl rfl rfl rfl rfl ?_;refine zj (n:=0) (y:=(l.take (k+1)).map f) rfl (by rw[un,hx];simp) ?_;exact Nx (k+1) ya ya
 refine qaS ?_;exact zb rfl rfl (zh rfl rfl yT)
theorem levels_ok (l:List Block) (hl:l.length≤1000000000000):Tells P 160 [.val (bsl zav) l] (.fresh 3 i64T (zbp l)):=by
 refine zd Tryz.func160 rfl rfl rfl (fun ext w hext=>?_);refine ze (d:=0) rfl zm (fun hsl0=>?_);refine qcn ?_;refine qa7 ?_;refine zaQ (toldInt_ok l (fun b=>zat b.h) hl) rfl fn_205 ⟨yn,(by first|exact zdI (Cs:=[]) rfl fn_206 yF trivial rfl (fun x=>zsf x)|exact zdH (Cs:=[]) rfl fn_206 yF trivial rfl (fun x y=>zsf x)|exact zdJ rfl),trivial⟩ rfl rfl rfl ?_;refine qbJ ?_;exact zb rfl rfl (zh rfl rfl rfl)
theorem zwc (l:List Block) (hl:zli l):Tells P 21 [.val (bsl zav) l] (.tup2 (.val tipT (zab l).1) (.val i64T (zab l).2)):=by
 have hll:=hl.1;refine zd Tryz.func21 rfl rfl rfl (fun ext w hext=>?_);refine ze (d:=0) rfl zm (fun hsl0=>?_);refine CQR ?_;refine zq zlJ rfl rfl rfl rfl ?_;refine qae ?_;refine zwg (ι:=Block) 2 0 rfl rfl rfl (fun (g:Block)=>((((Fr.none).set 0 (.val (bsl zav) l)).set 2 (.ptr 0 0)).set 4 (.ptr 1 0)).set 6 (.val i64T 0)) (fun (g:Block)=>((Hp.none).set 0 (.box 63 tipT zTip)).set 1 (.box 63 tipT (zan g.h.bits))) (fun (g:Block)=>l[0]?=some g∧zbG g.h.bits=true∧(zan g.h.bits).b=g) (fun (g:Block)=>0) ?_ (fun hreach=>?_)
 ·
  intro g hinv;have hl1:=(ul.1 hinv.1).1;refine qbQ ?_;refine A0 (zhh rfl rfl rfl zkD yg) ?_;refine A0 (zN rfl rfl zno) ?_;refine qaH ?_;refine Lp (ι:=Nat×Tip) 2 (fun(k,t)=>((((((Fr.none.set 0 (.val (bsl zav) l)).set 2 (.ptr 0 0)).set 4 (.ptr 1 0)).set 6 (.val i64T 0)).set 35 (.val (bsl zav) (l.drop 1))).set 36 (.val i64T ((l.drop 1).length:Int))).set 37 (.val i64T (k:Int))) (fun(k,t)=>(Hp.none.set 0 (.box 63 tipT zTip)).set 1 (.box 63 tipT t)) (fun(k,t)=>k≤(l.drop 1).length∧zrK t k∧zab l=zau t ((l.drop 1).drop k)) (fun(k,t)=>(l.drop 1).length-k) ((0,zan g.h.bits)) (⟨uf _,znG,zqZ hinv.1 hinv.2.1 hinv.2.2⟩) ?_;intro⟨k,t⟩ hin;dsimp only at hin;refine qar ?_;refine Cf (p:=k<(l.drop 1).length) (fun ht38=>?_) (fun ht38=>?_)
  ·
   have hk38:k<l.length:=by rw[List.length_drop] at ht38;omega
   obtain⟨b,hb⟩:∃b,(l.drop 1)[k]?=some b:=⟨_,ub ht38⟩;have hbm:=hl.2 b (List.mem_of_mem_drop (ud hb));refine CSQBQR ?_;refine A0 (zV (i:=k) rfl rfl rfl ya zkD yj) ?_;refine A0 (zf rfl rfl zed) ?_;refine zq zlK rfl rfl rfl rfl ?_;refine qbR ?_;refine CNQR ?_;refine xw ?_;refine A0 (oLs rfl rfl rfl zed) ?_;refine A0 (oCl (push_ok t b hin.2.1.1 hbm) rfl fn_68 ye) ?_;refine qaN ?_;refine qbc ?_;refine qaL ?_;refine qbk ?_;refine zn (p:=¬zdF t b=0) rfl yw (fun ht48=>?_) (fun ht48=>?_)
   ·
    refine CE ?_;refine qbQ ?_;refine qbk ?_;refine zes rfl (by simpa [IntL.toI] using ht48) ?_;refine CQR ?_;refine A0 (zy rfl zlJ zus .nil rfl) ?_;refine qa7 ?_;refine qbc ?_;refine qae ?_;exact zp rfl rfl (zs rfl rfl zec (by rw[hin.2.2,zpC hb ht48])) (zQ (za rfl (by rw[hin.2.2,zpC hb ht48])))
   refine qbq ?_;refine zi (d:=6) (y:=(0:Int)) rfl (ua ht48) ?_;exact Nx ((k+1,zjK t b)) (⟨by omega,zm1 hin.2.1 (by rw[List.length_drop] at ht38;omega) hbm (ua ht48),hin.2.2.trans (check_step hb (ua ht48))⟩) (by show(l.drop 1).length-(k+1)<(l.drop 1).length-k;omega)
  refine CE ?_;refine qbQ ?_;refine qbk ?_;refine Cg ?_;refine CSQR ?_;refine xw ?_;refine qbc ?_;refine qae ?_;exact zp rfl rfl (zs rfl rfl zec (by rw[hin.2.2,zs3 ya])) (zQ (za rfl (by rw[hin.2.2,zs3 ya])))
 refine qbQ ?_;refine A0 (zN rfl rfl zno) ?_;refine A0 zaH ?_;refine CN ?_;refine Cf (p:=l.length=0) (fun ht11=>?_) (fun ht11=>?_)
 ·
  refine CQR ?_;refine A0 (zy rfl zlJ zus .nil rfl) ?_;refine qbc ?_;refine qae ?_;exact zp rfl rfl (zs rfl rfl zec (by rw[znZ ht11])) (zQ (za rfl (by rw[znZ ht11])))
 obtain⟨g,hg⟩:∃g,l[0]?=some g:=yB;refine qc4 ?_;refine A0 (zV (i:=0) rfl rfl rfl ya zkD yj) ?_;refine A0 (oFr zce zaN) ?_;refine A0 (oFr zcX za2) ?_;refine A0 (zf rfl rfl zcd) ?_;refine A0 (oCl (zjg g.h.bits) rfl fn_52 ybM) ?_;refine qcX ?_;refine qaQ ?_;refine qb0 ?_;refine G0 mV ?_;refine G0 oN ?_;refine G0 mV ?_;refine zaG (d:=24) (p:=¬zbG g.h.bits=true) rfl (by cases zbG g.h.bits<;>rfl) (fun g24=>?_) (fun g24=>?_)
 ·
  refine qad ?_;refine G2 ?_;refine qby ?_;refine Ct ?_;refine CQR ?_;refine A0 (zy rfl zlJ zus .nil rfl) ?_;refine qbc ?_;refine qae ?_;exact zp rfl rfl (zs rfl rfl zec (by rw[zfi hg fun h=>g24 h.1])) (zQ (za rfl (by rw[zfi hg fun h=>g24 h.1])))
 refine G1 (oFp zel) ?_;refine G1 (oLb zev zed) ?_;refine G1 mV ?_;refine G1 (zV (i:=0) rfl rfl rfl ya zkD yj) ?_;refine G1 (zf rfl rfl zed) ?_;refine G1 (oCl (sameB_ok _ _) rfl fn_67 ⟨yn,yb,trivial⟩) ?_;refine G1 oN ?_;refine qby ?_;refine zn (p:=¬(zan g.h.bits).b=g) rfl yA (fun ht32=>?_) (fun ht32=>?_)
 ·
  refine CQR ?_;refine A0 (zy rfl zlJ zus .nil rfl) ?_;refine qbc ?_;refine qae ?_;exact zp rfl rfl (zs rfl rfl zec (by rw[zfi hg fun h=>ht32 h.2])) (zQ (za rfl (by rw[zfi hg fun h=>ht32 h.2])))
 refine CSQR ?_;refine qaQ ?_;exact zwj hreach (g) rfl (⟨hg,ua g24,ua ht32⟩) rfl (by (repeat refine Fr.le_set ?_ yaP);exact Fr.le_none _) (by (repeat refine Hp.le_set ?_ rfl);exact Hp.le_none _) (by (repeat refine Fr.below_setB ?_ rfl);exact Fr.below_none _) (by (repeat refine Hp.below_set ?_ yr);exact Hp.below_none _)
theorem newC_ok (bits:UInt32):Tells P 104 [.val u32T bits] (.tup2 (.val (sl zav) (newOf bits)) (.val zl (zbG bits))):=by
 refine zd Tryz.func104 rfl rfl rfl (fun ext w hext=>?_);refine qa9 ?_;refine qaL ?_;refine A0 (oCl (zjg bits) rfl fn_52 yd) ?_;refine qcX ?_;refine qap ?_;refine qb3 ?_;refine zn (p:=¬zbG bits=true) rfl (by cases zbG bits<;>rfl) (fun ht12=>?_) (fun ht12=>?_)
 ·
  refine qc9 ?_;exact zac rfl rfl (by unfold newOf;rw[ur ht12];exact zgT rfl) (za rfl (by simpa using ht12))
 refine CSQR ?_;refine A0 (oFp zel) ?_;refine A0 (oLb zev zed) ?_;refine A0 (zL (T:=zav) (xs:=[_]) rfl zkD zrT yE rfl rfl) ?_;refine qck ?_;exact zac rfl rfl (za rfl (by unfold newOf;rw[ut (ua ht12)])) (za rfl (ua ht12).symm)
theorem growC_ok (l:List Block) (t:List Tx) (nonce:UInt64) (hl:zli l) (ht:zrL t):Tells P 105 [.val (bsl zav) l,.val (sl txT) t,.val u64T nonce] (.tup2 (.fresh 59 zav (zj4 l t nonce)) (.val i64T (zoL l t nonce))):=by
 have hll:=hl.1;refine zd Tryz.func105 rfl rfl rfl (fun ext w hext=>?_);refine ze (d:=0) rfl zm (fun hsl0=>?_);refine ze (d:=1) rfl zm (fun hsl1=>?_);refine qa9 ?_;refine qaL ?_;refine zaQ (ownC_ok l hl) rfl fn_170 yd rfl rfl rfl ?_;refine A0 aO ?_;refine CNQR ?_;refine qa7 ?_;refine A0 (oCl (zwc l hl) rfl fn_21 yd) ?_;refine qcX ?_;refine qap ?_;refine qbk ?_;refine zn (p:=¬(zab l).2=0) rfl yw (fun ht20=>?_) (fun ht20=>?_)
 ·
  have hE:zoL l t nonce=(zab l).2:=by unfold zoL;rw[ur ht20]
  have hG:zj4 l t nonce=l:=by unfold zj4;rw[hE,ur ht20]
  refine qbZ ?_;refine qa7 ?_;refine qcR ?_;exact zac rfl rfl (zh rfl rfl (by rw[hG])) (za rfl hE.symm)
 refine CSQR ?_;refine xw ?_;refine qav ?_;refine A0 (oCl (mineB_ok (zab l).1 t nonce 200 (zuk hl) ht) rfl fn_171 ⟨yn,yn,yn,yn,trivial⟩) ?_;refine qaN ?_;refine zq zlK rfl rfl rfl rfl ?_;refine qbR ?_;refine qap ?_;refine qbk ?_;refine zn (p:=¬ze6 (zab l).1 t nonce 200=0) rfl yw (fun ht31=>?_) (fun ht31=>?_)
 ·
  have hE:zoL l t nonce=ze6 (zab l).1 t nonce 200:=by unfold zoL;rw[ut (ua ht20)]
  have hG:zj4 l t nonce=l:=by unfold zj4;rw[hE,ur ht31]
  refine qbZ ?_;refine qa7 ?_;refine qcR ?_;exact zac rfl rfl (zh rfl rfl (by rw[hG])) (za rfl hE.symm)
 have hE:zoL l t nonce=0:=by unfold zoL;rw[ut (ua ht20)];exact ua ht31
 have hG:zj4 l t nonce=l++[zsc (zab l).1 t nonce 200]:=by unfold zj4;rw[ut hE]
 refine CSQR ?_;refine A0 mO ?_;refine A0 (oLs rfl rfl rfl zed) ?_;refine A0 (zL (T:=zav) (xs:=[_]) rfl zkD zrT yE rfl rfl) ?_;refine zC rfl rfl rfl rfl rfl rfl rfl zrT yK ?_;refine qcR ?_;exact zac rfl rfl (zh rfl rfl (by rw[hG])) (za rfl hE.symm)
theorem zo7 (l m:List Int):Tells P 32 [.val (bsl i64T) l,.val (bsl i64T) m] (.val zl (decide (l=m))):=by
 refine zd Tryz.func32 rfl rfl rfl (fun ext w hext=>?_);refine ze (d:=0) rfl zm (fun hsl0=>?_);refine ze (d:=1) rfl zm (fun hsl1=>?_);refine qcQ ?_;refine qb5 ?_;refine qa7 ?_;refine qb5 ?_;refine qbk ?_;refine zn (p:=¬l.length=m.length) rfl ya0 (fun ht10=>?_) (fun ht10=>?_)
 ·
  refine qa3 ?_;exact zb rfl rfl (za rfl (uh (fun e=>ht10 (by rw[e]))).symm)
 refine CSQQR ?_;refine qcq ?_;refine Lp (ι:=Nat) 0 (fun (k:Nat)=>(((Fr.none).set 0 (.val (bsl i64T) l)).set 1 (.val (bsl i64T) m)).set 5 (.val i64T (k:Int))) (fun (k:Nat)=>Hp.none) (fun (k:Nat)=>k≤l.length∧l.take k=m.take k) (fun (k:Nat)=>l.length-k) (0) (⟨uf _,rfl⟩) ?_;intro k hinv;refine CQQR ?_;refine qav ?_;refine qb5 ?_;refine qbr ?_;refine Cf (p:=k<l.length) (fun ht14=>?_) (fun ht14=>?_)
 ·
  obtain⟨x,hx⟩:∃x,l[k]?=some x:=⟨_,ub ht14⟩;obtain⟨y,hy⟩:∃y,m[k]?=some y:=yB;refine qcH ?_;refine CB ?_;refine qb0 ?_;refine qcr ?_;refine G0 (zV (i:=k) rfl rfl rfl ya zcj yj) ?_;refine qc8 ?_;refine qcr ?_;refine G0 (zV (i:=k) rfl rfl rfl ya zcj yj) ?_;refine qc8 ?_;refine G0 zcQ ?_;refine GK.nil ?_;refine zn (p:=¬x=y) rfl yw (fun ht25=>?_) (fun ht25=>?_)
  ·
   refine qa3 ?_;exact zb rfl rfl (za rfl (uh (zgW hx hy ht25)).symm)
  refine qa2 ?_;exact Nx (k+1) (⟨by omega,zc2 hx hy hinv.2 (ua ht25)⟩) ya
 refine qcM ?_;exact zb rfl rfl (za rfl (ui yU).symm)
end Go.Proofs.YtikaeepohlkjdaaGreat
