/- Parts of the proof: the layer that reads Go values as data, and what the functions of the program tell. -/
import Derived.Test.YtjldddonpfopaaaGreatK5
set_option linter.unusedVariables false
set_option linter.unusedSimpArgs false
set_option maxRecDepth 20000
namespace Go.Proofs.YtjldddonpfopaaaGreat
open Go.Ab Go.RowKit
def rcmp (a b:Wide):Nat→Int
  | 0=>0
  | k+1=>if cmpU (a.getD k default) (b.getD k default)=0 then rcmp a b k else cmpU (a.getD k default) (b.getD k default)
theorem rcmp_all (a b:Wide):cmpW a b=rcmp a b 4:=rfl
theorem rcmp_lt {a b:Wide} {k:Nat} (hk:0<k) (h:a.getD (k-1) default<b.getD (k-1) default):rcmp a b k = -1:=by
  obtain ⟨j,rfl⟩:∃j,k=j+1:=⟨k-1,by omega⟩
  rw [Nat.add_sub_cancel] at h
  rw [rcmp]
  have e:cmpU (a.getD j default) (b.getD j default) = -1:=by unfold cmpU;rw [if_pos h]
  rw [e];rfl
theorem rcmp_gt {a b:Wide} {k:Nat} (hk:0<k) (h1:¬a.getD (k-1) default<b.getD (k-1) default) (h:b.getD (k-1) default<a.getD (k-1) default):rcmp a b k=1:=by
  obtain ⟨j,rfl⟩:∃j,k=j+1:=⟨k-1,by omega⟩
  rw [Nat.add_sub_cancel] at h h1
  rw [rcmp]
  have e:cmpU (a.getD j default) (b.getD j default)=1:=by unfold cmpU;rw [if_neg h1,if_pos h]
  rw [e];rfl
theorem rcmp_eq {a b:Wide} {k:Nat} (hk:0<k) (h1:¬a.getD (k-1) default<b.getD (k-1) default) (h:¬b.getD (k-1) default<a.getD (k-1) default):rcmp a b k=rcmp a b (k-1):=by
  obtain ⟨j,rfl⟩:∃j,k=j+1:=⟨k-1,by omega⟩
  rw [Nat.add_sub_cancel] at h h1 ⊢
  rw [rcmp]
  have e:cmpU (a.getD j default) (b.getD j default)=0:=by unfold cmpU;rw [if_neg h1,if_neg h]
  rw [e,if_pos rfl]
def radF (a b:Wide) (i:Nat):UInt64:=addS (a.getD i default) (b.getD i default) (carryN addS addC a b i).2
theorem radF_all {a b:Wide} (ha:a.length=4) (hb:b.length=4):(List.range 4).map (radF a b)=addW a b:=by
  obtain ⟨a0,a1,a2,a3,rfl⟩:=wide4 ha
  obtain ⟨b0,b1,b2,b3,rfl⟩:=wide4 hb
  rfl
theorem zfp {a b:Wide} {k:Nat} (ha:a.length=4) (hb:b.length=4) (hk:k<4):(carryN addS addC a b (k+1)).2=addC (a.getD k default) (b.getD k default) (carryN addS addC a b k).2:=by
  obtain ⟨a0,a1,a2,a3,rfl⟩:=wide4 ha
  obtain ⟨b0,b1,b2,b3,rfl⟩:=wide4 hb
  match k,hk with
  | 0,_=>rfl
  | 1,_=>rfl
  | 2,_=>rfl
  | 3,_=>rfl
theorem addS_eq (x y c:UInt64):addS x y c=x+y+c:=by
  apply UInt64.toNat_inj.1
  rw [addS_n,UInt64.toNat_add,UInt64.toNat_add];omega
theorem add_over {x y c:UInt64} (hc:c.toNat≤1):addC x y c=if x+y<x∨x+y+c<x+y then 1 else 0:=by
  have hx:x.toNat<18446744073709551616:=x.toNat_lt
  have hy:y.toNat<18446744073709551616:=y.toNat_lt
  apply UInt64.toNat_inj.1
  rw [addC_n _ _ hc]
  simp only [UInt64.lt_iff_toNat_lt,UInt64.toNat_add]
  split
  · show _=1;omega
  · show _=0;omega
theorem rofW_ok (n:UInt64):Tells P 147 [.val u64T n] (.val wideT (ofW n)):=by
 refine zc Tryz.func147 rfl rfl rfl (fun ext w hext=>?_)
 refine CQR ?_;refine qas ?_;refine qbx ?_;refine A0 (zfg (T:=u64T) (xs:=[_,_,_,_]) rfl zag zcO ⟨rfl,rfl,rfl,rfl,rfl,rfl,rfl,rfl,trivial⟩ rfl) ?_;refine qae ?_;refine CN ?_
 exact zu rfl rfl rfl rfl zZ (rfl)
theorem rcmpW_ok (a b:Wide):Tells P 148 [.val wideT a,.val wideT b] (.val i64T (cmpW a b)):=by
 refine zc Tryz.func148 rfl rfl rfl (fun ext w hext=>?_)
 refine ze (d:=0) rfl zaw (fun ha=>?_)
 refine ze (d:=1) rfl zaw (fun hb=>?_)
 refine qav ?_;refine qbr ?_;refine Lp (ι:=Nat) 2 (fun (k:Nat)=>(((Fr.none).set 2 (.ptr 0 0)).set 3 (.ptr 1 0)).set 5 (.val i64T ((k:Int)-1))) (fun (k:Nat)=>((Hp.none).set 0 (.box 35 wideT a)).set 1 (.box 35 wideT b)) (fun (k:Nat)=>k≤4∧cmpW a b=rcmp a b k) (fun (k:Nat)=>k) (4) (⟨Nat.le_refl _,rcmp_all a b⟩) ?_
 intro k hinv
 refine qa9 ?_;refine qbk ?_;refine Cf (p:=0<k) (fun ht7=>?_) (fun ht7=>?_)
 ·
  refine qa4 ?_;refine CQ ?_;refine qcd ?_;refine G0 (zt (i:=k-1) rfl rfl rfl (by first|omega|rfl) zag (by omega)) ?_;refine G0 (zl rfl rfl rfl (Lens.elem (i:=k-1) (by omega) u64T) zav) ?_;refine G0 mV ?_;refine G0 (zt (i:=k-1) rfl rfl rfl (by first|omega|rfl) zag (by omega)) ?_;refine G0 (zl rfl rfl rfl (Lens.elem (i:=k-1) (by omega) u64T) zav) ?_;refine G0 zbh ?_;refine GK.nil ?_;refine zj (p:=a.getD (k-1) default<b.getD (k-1) default) rfl (by simp [IntL.toI,UInt64.lt_iff_toNat_lt]) (fun ht16=>?_) (fun ht16=>?_)
  ·
   refine qam ?_
   exact zb rfl rfl (za rfl (by rw [hinv.2,rcmp_lt ht7 ht16]))
  ·
   refine CS ?_;refine qcd ?_;refine G0 (zt (i:=k-1) rfl rfl rfl (by first|omega|rfl) zag (by omega)) ?_;refine G0 (zl rfl rfl rfl (Lens.elem (i:=k-1) (by omega) u64T) zav) ?_;refine G0 mV ?_;refine G0 (zt (i:=k-1) rfl rfl rfl (by first|omega|rfl) zag (by omega)) ?_;refine G0 (zl rfl rfl rfl (Lens.elem (i:=k-1) (by omega) u64T) zav) ?_;refine G0 zbb ?_;refine GK.nil ?_;refine zj (p:=b.getD (k-1) default<a.getD (k-1) default) rfl (by simp [IntL.toI,UInt64.lt_iff_toNat_lt]) (fun ht23=>?_) (fun ht23=>?_)
   ·
    refine qam ?_
    exact zb rfl rfl (za rfl (by rw [hinv.2,rcmp_gt ht7 ht16 ht23]))
   ·
    refine CSIR ?_;refine qby ?_;refine qab ?_;refine zp (d:=5) (y:=((k-1:Nat):Int)-1) rfl (by omega) ?_
    exact Nx (k-1) (⟨by omega,by rw [hinv.2,rcmp_eq ht7 ht16 ht23]⟩) (by omega)
 ·
  obtain rfl:k=0:=(by omega)
  refine qbE ?_
  exact zb rfl rfl (za rfl (by rw [hinv.2];rfl))
theorem zcA (a b:Wide):Tells P 197 [.val wideT a,.val wideT b] (.tup2 (.val wideT (addW a b)) (.val boolT (addOk a b))):=by
 refine zc Tryz.func197 rfl rfl rfl (fun ext w hext=>?_)
 refine ze (d:=0) rfl zaw (fun ha=>?_)
 refine ze (d:=1) rfl zaw (fun hb=>?_)
 refine qav ?_;refine qas ?_;refine qai ?_;refine qas ?_;refine CNQR ?_;refine qbr ?_;refine Lp (ι:=Nat) 4 (fun (k:Nat)=>((((((Fr.none).set 2 (.ptr 0 0)).set 3 (.ptr 1 0)).set 4 (.ptr 2 0)).set 6 (.ptr 3 0)).set 7 (.val u64T (carryN addS addC a b k).2)).set 8 (.val i64T (k:Int))) (fun (k:Nat)=>((((Hp.none).set 0 (.box 35 wideT a)).set 1 (.box 35 wideT b)).set 2 (.box 35 wideT zWide)).set 3 (.box 35 wideT (setN (radF a b) zWide k))) (fun (k:Nat)=>k≤4∧(carryN addS addC a b k).2.toNat≤1) (fun (k:Nat)=>4-k) (0) (⟨Nat.zero_le _,Nat.zero_le 1⟩) ?_
 intro k hinv
 refine qa9 ?_;refine qaz ?_;refine Cf (p:=k<4) (fun ht12=>?_) (fun ht12=>?_)
 ·
  have hc2:=(zfp ha hb ht12).trans (add_over hinv.2)
  refine qa4 ?_;refine qcd ?_;refine G0 (zt (i:=k) rfl rfl rfl (by first|omega|rfl) zag (by omega)) ?_;refine G0 (zl rfl rfl rfl (Lens.elem (i:=k) (by omega) u64T) zav) ?_;refine G0 mV ?_;refine G0 (zt (i:=k) rfl rfl rfl (by first|omega|rfl) zag (by omega)) ?_;refine G0 (zl rfl rfl rfl (Lens.elem (i:=k) (by omega) u64T) zav) ?_;refine G0 (zcV rfl rfl rfl) ?_;refine qa3 ?_;refine CQR ?_;refine qag ?_;refine A0 (zcV rfl rfl rfl) ?_;refine qai ?_;refine qbB ?_;refine qag ?_;refine A0 (zt (i:=k) rfl rfl rfl (by first|omega|rfl) zag (by omega)) ?_
  refine A0 (zl rfl rfl rfl (Lens.elem (i:=k) (by omega) u64T) zav) ?_;refine A0 zbh ?_;refine qar ?_;refine zaa (d:=30) (p:=a.getD k default+b.getD k default<a.getD k default) rfl (decide_eq_decide.2 (by rw [UInt64.lt_iff_toNat_lt];exact Int.ofNat_lt)) (fun g30=>?_) (fun g30=>?_)
  ·
   refine qbA ?_;refine Ct ?_;refine CR ?_;refine qb2 ?_;refine qag ?_;refine A0 (zt (i:=k) rfl rfl rfl (by first|omega|rfl) zag (by omega)) ?_;refine zh rfl rfl rfl rfl rfl (Lens.elem (i:=k) (by omega) u64T) zav rfl ?_;refine qaR ?_;refine zD (n:=3) (y:=setN (radF a b) zWide (k+1)) rfl (by rw [←zdX];unfold radF;rw [addS_eq]) ?_;refine zp (d:=7) (y:=(carryN addS addC a b (k+1)).2) rfl (by rw [hc2,if_pos (.inl g30)];rfl) ?_
   exact Nx (k+1) (⟨by omega,by rw [zfp ha hb ht12];exact addC_le _ _ hinv.2⟩) (by omega)
  ·
   refine A1 mV ?_;refine A1 mV ?_;refine A1 zbh ?_;refine qaq ?_;refine zj (p:=a.getD k default+b.getD k default+(carryN addS addC a b k).2<a.getD k default+b.getD k default) rfl (decide_eq_decide.2 (by rw [UInt64.lt_iff_toNat_lt];exact Int.ofNat_lt)) (fun ht34=>?_) (fun ht34=>?_)
   ·
    refine CR ?_;refine qb2 ?_;refine qag ?_;refine A0 (zt (i:=k) rfl rfl rfl (by first|omega|rfl) zag (by omega)) ?_;refine zh rfl rfl rfl rfl rfl (Lens.elem (i:=k) (by omega) u64T) zav rfl ?_;refine qaR ?_;refine zD (n:=3) (y:=setN (radF a b) zWide (k+1)) rfl (by rw [←zdX];unfold radF;rw [addS_eq]) ?_;refine zp (d:=7) (y:=(carryN addS addC a b (k+1)).2) rfl (by rw [hc2,if_pos (.inr ht34)];rfl) ?_
    exact Nx (k+1) (⟨by omega,by rw [zfp ha hb ht12];exact addC_le _ _ hinv.2⟩) (by omega)
   ·
    refine CS ?_;refine CR ?_;refine qag ?_;refine A0 (zt (i:=k) rfl rfl rfl (by first|omega|rfl) zag (by omega)) ?_;refine zh rfl rfl rfl rfl rfl (Lens.elem (i:=k) (by omega) u64T) zav rfl ?_;refine qaR ?_;refine zD (n:=3) (y:=setN (radF a b) zWide (k+1)) rfl (by rw [←zdX];unfold radF;rw [addS_eq]) ?_;refine zp (d:=7) (y:=(carryN addS addC a b (k+1)).2) rfl (by rw [hc2,if_neg (fun h=>h.elim g30 ht34)];rfl) ?_
    exact Nx (k+1) (⟨by omega,by rw [zfp ha hb ht12];exact addC_le _ _ hinv.2⟩) (by omega)
 ·
  obtain rfl:k=4:=(by omega)
  refine qbM ?_;refine qau ?_;refine qar ?_;refine A0 zbU ?_;refine qcf ?_
  exact zF rfl rfl (zw rfl rfl zZ ((setN_all (k:=4) rfl).trans (radF_all ha hb))) (zac (za rfl (by unfold addOk;rw [decide_eq_decide];simp [IntL.toI])))
def maxU:UInt64:=UInt64.ofNat (Int.toNat 18446744073709551615)
def highU:UInt64:=UInt64.ofNat (Int.toNat 9223372036854775808)
theorem maxU_n:maxU.toNat=18446744073709551615:=by unfold maxU;rw [show Int.toNat 18446744073709551615=18446744073709551615 from rfl];exact UInt64.toNat_ofNat_of_lt' (by decide)
theorem highU_n:highU.toNat=9223372036854775808:=by unfold highU;rw [show Int.toNat 9223372036854775808=9223372036854775808 from rfl];exact UInt64.toNat_ofNat_of_lt' (by decide)
def compF (b:Wide) (i:Nat):UInt64:=maxU-b.getD i default
def compW (b:Wide):Wide:=(List.range 4).map (compF b)
theorem compW_n {b:Wide} (hb:b.length=4):(compW b).length=4∧nW (compW b)=W256-1-nW b:=by
  obtain ⟨b0,b1,b2,b3,rfl⟩:=wide4 hb
  have e:∀x:UInt64,(maxU-x).toNat=18446744073709551615-x.toNat:=fun x=>by
    have hx:x.toNat<18446744073709551616:=x.toNat_lt
    rw [UInt64.toNat_sub_of_le _ _ (by rw [UInt64.le_iff_toNat_le,maxU_n];omega),maxU_n]
  refine ⟨rfl,?_⟩
  show nW [maxU-b0,maxU-b1,maxU-b2,maxU-b3]=_
  have k0:b0.toNat<18446744073709551616:=b0.toNat_lt
  have k1:b1.toNat<18446744073709551616:=b1.toNat_lt
  have k2:b2.toNat<18446744073709551616:=b2.toNat_lt
  have k3:b3.toNat<18446744073709551616:=b3.toNat_lt
  unfold nW W256
  simp only [List.getD_cons_zero,List.getD_cons_succ,e]
  omega
theorem rsub_eq {a b:Wide} (ha:a.length=4) (hb:b.length=4):addW (addW a (compW b)) (ofW 1)=subW a b:=by
  obtain ⟨c1,c2⟩:=compW_n hb
  refine nW_inj (zaL (zaL ha c1) rfl) (subW_len ha hb) ?_
  rw [nW_add (zaL ha c1) rfl,nW_add ha c1,c2,(nW_sub ha hb).1]
  have h1:=nW_lt ha
  have h2:=nW_lt hb
  have h3:nW (ofW 1)=1:=rfl
  rw [h3];unfold W256 at *;omega
theorem rsub_ok {a b:Wide} (ha:a.length=4) (hb:b.length=4):decide (0≤cmpW a b)=subOk a b:=by
  rw [Bool.eq_iff_iff,decide_eq_true_iff,(nW_sub ha hb).2,cmpW_n ha hb]
  split
  · omega
  · split<;>omega
def hafF (a:Wide) (i:Nat):UInt64:=a.getD i default/2+(if i=3 then 0 else a.getD (i+1) default%2*highU)
def hafN (a:Wide) (j:Nat):Wide:=(List.range j).foldl (fun l i=>l.set (3-i) (hafF a (3-i))) zWide
theorem hafN_succ {a:Wide} {j:Nat}:(hafN a j).set (3-j) (hafF a (3-j))=hafN a (j+1):=(zbZ (f:=fun (l:List UInt64) i=>l.set (3-i) (hafF a (3-i)))).symm
theorem haf_all {a:Wide} (ha:a.length=4):hafN a 4=downW a 1:=by
  obtain ⟨a0,a1,a2,a3,rfl⟩:=wide4 ha
  refine nW_inj rfl (zcZ rfl) ?_
  have h:=nW_down (a:=[a0,a1,a2,a3]) (n:=1) rfl (by decide)
  rw [show ((1:Nat):Int)=1 from rfl] at h
  rw [h]
  show nW [a0/2+a1%2*highU,a1/2+a2%2*highU,a2/2+a3%2*highU,a3/2+0]=_
  have h0:a0.toNat<18446744073709551616:=a0.toNat_lt
  have h1:a1.toNat<18446744073709551616:=a1.toNat_lt
  have h2:a2.toNat<18446744073709551616:=a2.toNat_lt
  have h3:a3.toNat<18446744073709551616:=a3.toNat_lt
  have t2:(2:UInt64).toNat=2:=rfl
  have t9:=highU_n
  have t0:(0:UInt64).toNat=0:=rfl
  unfold nW
  simp only [List.getD_cons_zero,List.getD_cons_succ,UInt64.toNat_add,UInt64.toNat_mul,UInt64.toNat_div,UInt64.toNat_mod,t2,t9,t0]
  omega
theorem down_step {a:Wide} {k:Nat} (ha:a.length=4) (hk:k+1<256):downW (downW a k) 1=downW a ((k:Int)+1):=by
  refine nW_inj (zcZ (zcZ ha)) (zcZ ha) ?_
  have h1:=nW_down (n:=k) ha (by omega)
  have h2:=nW_down (n:=k+1) ha hk
  have h3:=nW_down (n:=1) (zcZ (n:=(k:Int)) ha) (by decide)
  rw [show ((1:Nat):Int)=1 from rfl,h1,Nat.div_div_eq_div_mul,←Nat.pow_succ] at h3
  rw [show ((k+1:Nat):Int)=(k:Int)+1 by omega] at h2
  rw [h3,h2]
theorem down_zero {a:Wide} (ha:a.length=4):downW a 0=a:=by
  refine nW_inj (zcZ ha) ha ?_
  have:=nW_down (n:=0) ha (by decide)
  rw [show ((0:Nat):Int)=0 from rfl] at this
  rw [this,Nat.pow_zero,Nat.div_one]
theorem up_zero {a:Wide} (ha:a.length=4):upW a 0=a:=by
  refine nW_inj (upW_len ha) ha ?_
  have:=nW_up (n:=0) ha (by decide)
  rw [show ((0:Nat):Int)=0 from rfl] at this
  rw [this,Nat.pow_zero,Nat.mul_one,Nat.mod_eq_of_lt (nW_lt ha)]
theorem down_end {a:Wide} {n:Int} {k:Nat} (ha:a.length=4) (h:k=0∨(k:Int)≤n) (h2:¬(k:Int)<n):downW a k=downW a n:=by
  by_cases c:n<0
  · have hk:k=0:=by omega
    subst hk
    rw [show ((0:Nat):Int)=0 from rfl,down_zero ha]
    unfold downW;rw [if_pos c]
  · rw [show (k:Int)=n by omega]
theorem up_end {a:Wide} {n:Int} {k:Nat} (ha:a.length=4) (h:k=0∨(k:Int)≤n) (h2:¬(k:Int)<n):upW a k=upW a n:=by
  by_cases c:n<0
  · have hk:k=0:=by omega
    subst hk
    rw [show ((0:Nat):Int)=0 from rfl,up_zero ha]
    unfold upW;rw [if_pos c]
  · rw [show (k:Int)=n by omega]
theorem up_step {a:Wide} {k:Nat} (ha:a.length=4) (hk:k+1<256):addW (upW a k) (upW a k)=upW a ((k:Int)+1):=by
  refine nW_inj (zaL (upW_len ha) (upW_len ha)) (upW_len ha) ?_
  have h1:=nW_up (n:=k) ha (by omega)
  have h2:=nW_up (n:=k+1) ha hk
  rw [show ((k+1:Nat):Int)=(k:Int)+1 by omega] at h2
  rw [nW_add (upW_len ha) (upW_len ha),h1,h2,Nat.pow_succ,←Nat.mul_assoc]
  unfold W256;omega
theorem rhalf_ok (a:Wide):Tells P 198 [.val wideT a] (.val wideT (downW a 1)):=by
 refine zc Tryz.func198 rfl rfl rfl (fun ext w hext=>?_)
 refine ze (d:=0) rfl zaw (fun ha=>?_)
 refine qad ?_;refine qas ?_;refine CNQR ?_;refine qas ?_;refine CNQR ?_;refine qbr ?_;refine Lp (ι:=Nat) 3 (fun (k:Nat)=>(((((Fr.none).set 1 (.ptr 0 0)).set 2 (.ptr 1 0)).set 3 (.ptr 2 0)).set 4 (.val u64T (if k=4 then 0 else a.getD k default%2*highU))).set 5 (.val i64T ((k:Int)-1))) (fun (k:Nat)=>(((Hp.none).set 0 (.box 35 wideT a)).set 1 (.box 35 wideT zWide)).set 2 (.box 35 wideT (hafN a (4-k)))) (fun (k:Nat)=>k≤4) (fun (k:Nat)=>k) (4) (Nat.le_refl _) ?_
 intro k hinv
 refine qa9 ?_;refine qbk ?_;refine Cf (p:=0<k) (fun ht7=>?_) (fun ht7=>?_)
 ·
  refine CSQBQR ?_;refine qag ?_;refine A0 (zt (i:=k-1) rfl rfl rfl (by first|omega|rfl) zag (by omega)) ?_;refine A0 (zl rfl rfl rfl (Lens.elem (i:=k-1) (by omega) u64T) zav) ?_;refine A0 (g_quo64 rfl rfl rfl (by decide)) ?_;refine qar ?_;refine A0 (zcV rfl rfl rfl) ?_;refine A0 (zt (i:=k-1) rfl rfl rfl (by first|omega|rfl) zag (by omega)) ?_;refine zh rfl rfl rfl rfl rfl (Lens.elem (i:=k-1) (by omega) u64T) zav rfl ?_;refine CNR ?_;refine qar ?_;refine A0 (zt (i:=k-1) rfl rfl rfl (by first|omega|rfl) zag (by omega)) ?_
  refine A0 (zl rfl rfl rfl (Lens.elem (i:=k-1) (by omega) u64T) zav) ?_;refine A0 (g_rem64 rfl rfl rfl (by decide)) ?_;refine A0 (g_mul64 rfl rfl rfl) ?_;refine A0 aV ?_;refine CNIR ?_;refine qby ?_;refine qab ?_;refine zD (n:=2) (y:=hafN a (4-(k-1))) rfl (by rw [show 4-(k-1)=4-k+1 by omega,←hafN_succ,show 3-(4-k)=k-1 by omega];unfold hafF;congr 2;rw [show k-1+1=k by omega];split<;>split<;>first|rfl|omega) ?_;refine zp (d:=4) (y:=(if k-1=4 then 0 else a.getD (k-1) default%2*highU)) rfl (by rw [if_neg (by omega)];rfl) ?_
  refine zp (d:=5) (y:=((k-1:Nat):Int)-1) rfl (by omega) ?_
  exact Nx (k-1) (by omega) (by omega)
 ·
  obtain rfl:k=0:=(by omega)
  refine CE ?_;refine qba ?_
  exact zu rfl rfl rfl rfl zZ (haf_all ha)
theorem rdownW_ok (a:Wide) (n:Int):Tells P 150 [.val wideT a,.val i64T n] (.val wideT (downW a n)):=by
 refine zc Tryz.func150 rfl rfl rfl (fun ext w hext=>?_)
 refine ze (d:=1) rfl zQ (fun hin1=>?_)
 refine ze (d:=0) rfl zaw (fun ha=>?_)
 refine qad ?_;refine qas ?_;refine qbb ?_;refine qbk ?_;refine Cf (p:=256≤n) (fun ht7=>?_) (fun ht7=>?_)
 ·
  refine CQR ?_;refine A0 (zaA rfl zag zcO rfl) ?_;refine qae ?_;refine CN ?_
  exact zu rfl rfl rfl rfl zZ (by unfold downW;rw [if_neg (by omega),if_pos ht7])
 ·
  refine CSQQR ?_;refine qbC ?_;refine zD (n:=0) (y:=downW a ((0:Nat):Int)) rfl (down_zero ha).symm ?_;refine Lp (ι:=Nat) 2 (fun (k:Nat)=>((((Fr.none).set 1 (.val i64T n)).set 2 (.ptr 0 0)).set 4 (.ptr 1 0)).set 5 (.val i64T (k:Int))) (fun (k:Nat)=>((Hp.none).set 0 (.box 35 wideT (downW a (k:Int)))).set 1 (.box 35 wideT zWide)) (fun (k:Nat)=>k=0∨(k:Int)≤n) (fun (k:Nat)=>n.toNat-k) (0) (.inl rfl) ?_
  intro k hinv
  refine qbg ?_;refine qaz ?_;refine Cf (p:=(k:Int)<n) (fun ht11=>?_) (fun ht11=>?_)
  ·
   refine qa4 ?_;refine CR ?_;refine qau ?_;refine A0 (oCl (rhalf_ok (downW a k)) rfl fn_198 ⟨(zd rfl),trivial⟩) ?_;refine qae ?_;refine qaR ?_;refine zD (n:=0) (y:=downW a ((k+1:Nat):Int)) rfl (by rw [down_step ha (by omega)];congr 1) ?_
   exact Nx (k+1) (.inr (by omega)) (by omega)
  ·
   refine CE ?_;refine qba ?_
   exact zu rfl rfl rfl rfl zZ (down_end ha hinv ht11)
theorem rupW_ok (a:Wide) (n:Int):Tells P 146 [.val wideT a,.val i64T n] (.val wideT (upW a n)):=by
 refine zc Tryz.func146 rfl rfl rfl (fun ext w hext=>?_)
 refine ze (d:=1) rfl zQ (fun hin1=>?_)
 refine ze (d:=0) rfl zaw (fun ha=>?_)
 refine qad ?_;refine qas ?_;refine qbb ?_;refine qbk ?_;refine Cf (p:=256≤n) (fun ht9=>?_) (fun ht9=>?_)
 ·
  refine CQR ?_;refine A0 (zaA rfl zag zcO rfl) ?_;refine qae ?_;refine CN ?_
  exact zu rfl rfl rfl rfl zZ (by unfold upW;rw [if_neg (by omega),if_pos ht9])
 ·
  refine CSQQR ?_;refine qbC ?_;refine zD (n:=0) (y:=upW a ((0:Nat):Int)) rfl (up_zero ha).symm ?_;refine Lp (ι:=Nat) 2 (fun (k:Nat)=>((((Fr.none).set 1 (.val i64T n)).set 2 (.ptr 0 0)).set 4 (.ptr 1 0)).set 5 (.val i64T (k:Int))) (fun (k:Nat)=>((Hp.none).set 0 (.box 35 wideT (upW a (k:Int)))).set 1 (.box 35 wideT zWide)) (fun (k:Nat)=>k=0∨(k:Int)≤n) (fun (k:Nat)=>n.toNat-k) (0) (.inl rfl) ?_
  intro k hinv
  refine qbg ?_;refine qaz ?_;refine Cf (p:=(k:Int)<n) (fun ht13=>?_) (fun ht13=>?_)
  ·
   refine CSQBQR ?_;refine qck ?_;refine A0 (oCl (zcA (upW a k) (upW a k)) rfl fn_197 ⟨(zd rfl),(zd rfl),trivial⟩) ?_;refine A0 mX ?_;refine A0 (by first|exact zW rfl rfl|exact zU rfl rfl) ?_;refine A0 (by first|exact zY rfl rfl|exact zX rfl rfl) ?_;refine qcm ?_;refine qb2 ?_;refine qau ?_;refine qae ?_;refine qaR ?_;refine zD (n:=0) (y:=upW a ((k+1:Nat):Int)) rfl (by rw [up_step ha (by omega)];congr 1) ?_
   exact Nx (k+1) (.inr (by omega)) (by omega)
  ·
   refine CE ?_;refine qba ?_
   exact zu rfl rfl rfl rfl zZ (up_end ha hinv ht13)
set_option maxRecDepth 20000
def dvU (x:UInt64) (m:Nat):UInt64:=UInt64.ofNat (x.toNat/256^m)
theorem dvU_n (x:UInt64) (m:Nat):(dvU x m).toNat=x.toNat/256^m:=by
  have hx:x.toNat<18446744073709551616:=x.toNat_lt
  unfold dvU
  rw [UInt64.toNat_ofNat_of_lt' (by show _<18446744073709551616;have:=Nat.div_le_self x.toNat (256^m);omega)]
theorem dvU_succ (x:UInt64) (m:Nat):dvU x m/256=dvU x (m+1):=by
  apply UInt64.toNat_inj.1
  rw [UInt64.toNat_div,dvU_n,dvU_n,Nat.pow_succ,←Nat.div_div_eq_div_mul];rfl
theorem dvU_zero (x:UInt64):dvU x 0=x:=by
  apply UInt64.toNat_inj.1
  rw [dvU_n,Nat.pow_zero,Nat.div_one]
def rbyN (a:Wide) (j:Nat):Ab.Id:=(List.range j).foldl (fun l i=>l.set (31-i) (byteF a (31-i))) zId
theorem rbyN_succ {a:Wide} {j:Nat}:(rbyN a j).set (31-j) (byteF a (31-j))=rbyN a (j+1):=(zbZ (f:=fun (l:List UInt8) i=>l.set (31-i) (byteF a (31-i)))).symm
theorem rby_gen (f:Nat→UInt8):(List.range 32).foldl (fun (l:Ab.Id) i=>l.set (31-i) (f (31-i))) zId=(List.range 32).map f:=by kernel_rfl
theorem rby_all {a:Wide}:rbyN a 32=bytesW a:=rby_gen (byteF a)
theorem rby_at {a:Wide} {k:Nat} (hk:k<32):u8OfI (IntL.toI u64T (dvU (a.getD (k/8) default) (k%8)%256))=byteF a (31-k):=by
  unfold byteF
  rw [show 3-(31-k)/8=k/8 by omega,show (56-8*(((31-k:Nat):Int)%8)).toNat=8*(k%8) by omega]
  have e:shr64 (a.getD (k/8) default) (8*(k%8))=dvU (a.getD (k/8) default) (k%8):=by
    unfold shr64 dvU
    rw [Nat.min_eq_left (by omega),Nat.pow_mul]
  rw [e]
  unfold u8OfI
  congr 2
  show (((dvU (a.getD (k/8) default) (k%8)%256).toNat:Nat):Int)%256=(((dvU (a.getD (k/8) default) (k%8)).toNat:Nat):Int)%256
  rw [UInt64.toNat_mod,show (256:UInt64).toNat=256 from rfl]
  omega
theorem rbytesW_ok (a:Wide):Tells P 143 [.val wideT a] (.val idT (bytesW a)):=by
 refine zc Tryz.func143 rfl rfl rfl (fun ext w hext=>?_)
 refine ze (d:=0) rfl zaw (fun ha=>?_)
 refine qad ?_;refine qa8 ?_;refine CNQR ?_;refine qa8 ?_;refine qax ?_;refine Lp (ι:=Nat) 3 (fun (k:Nat)=>((((Fr.none).set 1 (.ptr 0 0)).set 2 (.ptr 1 0)).set 3 (.ptr 2 0)).set 4 (.val i64T (k:Int))) (fun (k:Nat)=>(((Hp.none).set 0 (.box 35 wideT a)).set 1 (.box 32 idT zId)).set 2 (.box 32 idT (rbyN a k))) (fun (k:Nat)=>k≤32) (fun (k:Nat)=>32-k) (0) (Nat.zero_le _) ?_
 intro k hinv
 refine qa9 ?_;refine qaz ?_;refine Cf (p:=k<32) (fun ht8=>?_) (fun ht8=>?_)
 ·
  refine qaL ?_;refine A0 (g_quo rfl rfl rfl (by first|omega|assumption) (by first|decide|omega) rfl) ?_;refine A0 (zt (i:=k/8) rfl rfl rfl (by first|omega|rfl) zag (by omega)) ?_;refine A0 (zl rfl rfl rfl (Lens.elem (i:=k/8) (by omega) u64T) zav) ?_;refine qbr ?_;refine zp (d:=5) (y:=dvU (a.getD (k/8) default) 0) rfl (dvU_zero _).symm ?_
  refine Lp (ι:=Nat) 3 (fun (m:Nat)=>((((((Fr.none).set 1 (.ptr 0 0)).set 2 (.ptr 1 0)).set 3 (.ptr 2 0)).set 4 (.val i64T (k:Int))).set 5 (.val u64T (dvU (a.getD (k/8) default) m))).set 6 (.val i64T (m:Int))) (fun (m:Nat)=>(((Hp.none).set 0 (.box 35 wideT a)).set 1 (.box 32 idT zId)).set 2 (.box 32 idT (rbyN a k))) (fun (m:Nat)=>m≤k%8) (fun (m:Nat)=>k%8-m) (0) (Nat.zero_le _) ?_
  intro m hin
  refine qbg ?_;refine A0 (g_rem rfl rfl rfl (by first|omega|assumption) (by first|decide|omega) rfl) ?_;refine qaz ?_;refine zj (p:=m<k%8) rfl (by rw [decide_eq_decide];simp only [IntL.toI,id_eq];omega) (fun ht18=>?_) (fun ht18=>?_)
  ·
   refine qa4 ?_;refine CR ?_;refine qar ?_;refine A0 (g_quo64 rfl rfl rfl (by decide)) ?_;refine A0 aV ?_;refine qaR ?_;refine zp (d:=5) (y:=dvU (a.getD (k/8) default) (m+1)) rfl (dvU_succ _ _) ?_
   exact Nx (m+1) (by omega) (by omega)
  ·
   obtain rfl:m=k%8:=(by omega)
   refine CE ?_;refine CR ?_;refine qby ?_;refine qar ?_;refine A0 (g_rem64 rfl rfl rfl (by decide)) ?_;refine A0 (zcU rfl (ui_5) (us_33) rfl) ?_;refine A0 (zt (i:=31-k) rfl rfl rfl (by first|omega|rfl) za5 (by omega)) ?_;refine zh rfl rfl rfl rfl rfl (Lens.elem (i:=31-k) (by omega) u8T) ty_5 rfl ?_;refine qaR ?_;refine zD (n:=2) (y:=rbyN a (k+1)) rfl (by rw [←rbyN_succ,←rby_at ht8];rfl) ?_
   exact Nx (k+1) (by omega) (by omega)
 ·
  obtain rfl:k=32:=(by omega)
  refine qbM ?_;refine qaN ?_;refine qbz ?_
  exact zu rfl rfl rfl rfl zM (rby_all)
set_option maxRecDepth 20000
theorem rmleaf_ok (id:Ab.Id) (w:Wide):Tells P 162 [.val idT id,.val wideT w] (.val totalT (leafT id w)):=by
 refine zc Tryz.func162 rfl rfl rfl (fun ext w hext=>?_)
 refine qav ?_;refine qbt ?_;refine CNQR ?_;refine qaN ?_;refine qau ?_;refine A0 (zV rfl ze_119 bd_119 (.cons zcC zb0 zM rfl (.cons zfk zeb zZ rfl (.cons zb7 zbE ty_3 rfl .nil))) rfl) ?_;refine qaH ?_;refine CN ?_
 exact zu rfl rfl rfl rfl zaI (rfl)
theorem rtotalText_ok (t:Total) (hh:t.h.length=32):Tells P 208 [.val totalT t] (.fresh 5 u8T (totalText t)):=by
 refine zc Tryz.func208 rfl rfl rfl (fun ext w hext=>?_)
 refine qbi ?_;refine CNQR ?_;refine qbW ?_;refine A0 (oCl (rbytesW_ok _) rfl fn_143 ⟨(zd rfl),trivial⟩) ?_;refine qa8 ?_;refine qap ?_;refine CNQ ?_;refine zbe (d:=1) rfl rfl (Lens.self _) ?_;refine zbe (d:=3) rfl rfl (Lens.self _) ?_
 have hbl:=zcl t.w
 have hn:=zN (u64OfI (IntL.toI i64T t.n)) 4
 refine CR ?_;refine A0 (oFr zcC zb0) ?_;refine A0 (zae rfl rfl za5 rfl rfl) ?_;refine zcN rfl rfl rfl rfl rfl rfl zR (by simp [hh,hbl,hn]) ?_;refine qaT ?_;refine A0 (zae rfl rfl za5 rfl rfl) ?_;refine zn rfl rfl rfl rfl rfl rfl rfl zR (by simp [hh,hbl,hn]) ?_;refine qaT ?_;refine A0 (oFr zb7 zbE) ?_;refine qb6 ?_;refine A0 (zcr rfl (ui_33) (us_3) rfl) ?_;refine A0 (oCl (zs (rbin_ok _ 4 (by decide))) rfl fn_144 ⟨(zd rfl),(zd rfl),trivial⟩) ?_;refine zn rfl rfl rfl rfl rfl rfl rfl zR (by simp [hh,hbl,hn]) ?_
 refine qbe ?_
 exact zb rfl rfl (zg rfl rfl (by unfold totalText;simp))
theorem rjoin_ok (a b:Total):Tells P 161 [.val totalT a,.val totalT b] (.val totalT (joinT a b)):=by
 refine zc Tryz.func161 rfl rfl rfl (fun ext w hext=>?_)
 refine ze (d:=0) rfl fact_total (fun ha=>?_)
 refine ze (d:=1) rfl fact_total (fun hb=>?_)
 refine qav ?_;refine qbt ?_;refine CNQR ?_;refine qbW ?_;refine qbW ?_;refine A0 (oCl (zcA _ _) rfl fn_197 ⟨(zd rfl),(zd rfl),trivial⟩) ?_;refine A0 mX ?_;refine A0 (by first|exact zW rfl rfl|exact zU rfl rfl) ?_;refine A0 (by first|exact zY rfl rfl|exact zX rfl rfl) ?_;refine qcm ?_;refine qaA ?_;refine zx [some 1,some 1,some 1,some 1,some 1,some 1,some 1,some 1,some 1,some 1,some 1,some 1,some 1,some 1,none] mixed (by decide +kernel) ?_;refine X0 (zeS (T:=sl u8T) (S:=bsl u8T) (zo (T:=u8T) (xs:=[_]) rfl zaW zR ⟨rfl,rfl,trivial⟩ rfl rfl)) ?_
 refine X0 (oLs rfl rfl rfl zaI) ?_;refine X0 (zeS (T:=sl u8T) (S:=bsl u8T) (zb5 (zs (rtotalText_ok a ha.1)) rfl fn_208 ⟨(zd rfl),trivial⟩ rfl)) ?_;refine X0 (oLs rfl rfl rfl zaI) ?_;refine X0 (zeS (T:=sl u8T) (S:=bsl u8T) (zb5 (zs (rtotalText_ok b hb.1)) rfl fn_208 ⟨(zd rfl),trivial⟩ rfl)) ?_;refine X0 (zo (T:=(bsl u8T)) (xs:=[_,_,_]) rfl zdF zde ⟨rfl,rfl,rfl,rfl,rfl,rfl,trivial⟩ rfl rfl) ?_;refine X0 (oCl (rof_ok [[3],totalText a,totalText b] (by simp [zdH ha.1,zdH hb.1])) rfl fn_91 ⟨(zd rfl),trivial⟩) ?_;refine qbI ?_
 refine X0 (oFp zb7) ?_;refine X0 (oLb zbE ty_3) ?_;refine X0 (oFp zb7) ?_;refine X0 (oLb zbE ty_3) ?_;refine X0 zaG ?_;refine X0 (zV rfl ze_119 bd_119 (.cons zcC zb0 zM rfl (.cons zfk zeb zZ rfl (.cons zb7 zbE ty_3 rfl .nil))) rfl) ?_;refine XK.e (x:=.idk) (fun fr' hfr kk H=>by exact zh rfl rfl rfl ((hfr 4 (by decide +kernel)).trans rfl) rfl (Lens.self _) zaI ((hfr 28 (by decide +kernel)).trans rfl) (zz H)) ?_;refine XK.nil' ?_
 exact zu rfl rfl rfl rfl zaI (by unfold joinT;simp)
theorem rallNil_ok:Tells P 160 [.val (bsl totalT) []] (.val totalT (mmrRoot [])):=by
 refine zc Tryz.func160 rfl rfl rfl (fun ext w hext=>?_)
 refine ze (d:=0) rfl zi (fun hsl0=>?_)
 refine CQR ?_;refine qbt ?_;refine qbb ?_;refine A0 (zah rfl rfl zel) ?_;refine A0 zbU ?_;refine CN ?_;refine Ct ?_;refine CQR ?_;refine A0 (zo (T:=u8T) (xs:=[_]) rfl zaW zR ⟨rfl,rfl,trivial⟩ rfl rfl) ?_;refine A0 (oCl (rsumB_ok [4] (by decide)) rfl fn_145 ⟨(zd rfl),trivial⟩) ?_;refine A0 (zV rfl ze_119 bd_119 (.cons zcC zb0 zM rfl .nil) rfl) ?_;refine qaH ?_;refine CN ?_
 exact zu rfl rfl rfl rfl zaI (mmrRoot_nil.symm)
theorem rmmrRoot_ok (p:List Total) (hp:p.length≤1000000):Tells P 104 [.val (bsl totalT) p] (.val totalT (mmrRoot p)):=by
 refine zc Tryz.func104 rfl rfl rfl (fun ext w hext=>?_)
 refine ze (d:=0) rfl zi (fun hsl0=>?_)
 refine CQR ?_;refine qbt ?_;refine qbb ?_;refine A0 (zah rfl rfl zel) ?_;refine A0 zbU ?_;refine CN ?_;refine Cf (p:=p.length=0) (fun ht7=>?_) (fun ht7=>?_)
 ·
  obtain rfl:p=[]:=List.length_eq_zero_iff.1 ht7
  refine CQR ?_;refine A0 (oCl (rallNil_ok) rfl fn_160 ⟨(by first|exact zq rfl|exact zC rfl|exact zy rfl rfl|exact zA rfl|exact zr rfl|exact zL rfl rfl|exact zB rfl),trivial⟩) ?_;refine qaH ?_;refine CN ?_
  exact zu rfl rfl rfl rfl zaI (rfl)
 ·
  obtain ⟨n,hn⟩:∃n,p.length=n+1:=⟨p.length-1,by omega⟩
  obtain ⟨x0,hx0⟩:∃x,p[n]?=some x:=⟨_,List.getElem?_eq_getElem (by omega)⟩
  have hroot:=mmrRoot_eq hn hx0
  refine qcl ?_;refine A0 (zah rfl rfl zel) ?_;refine A0 zay ?_;refine A0 (zm (i:=n) rfl rfl rfl (by omega) zdI (by assumption)) ?_;refine A0 (zf rfl rfl zaI) ?_;refine qbt ?_;refine qaH ?_;refine qbb ?_;refine A0 (zah rfl rfl zel) ?_;refine A0 zay ?_;refine qbC ?_;refine zp (d:=4) (y:=(n:Int)-1) rfl (by rw [hn];simp;omega) ?_
  refine Lp (ι:=Nat×Total) 2 (fun (i:Nat×Total)=>match i with|(k,y)=>((((Fr.none).set 0 (.val (bsl totalT) p)).set 2 (.ptr 0 0)).set 3 (.ptr 1 0)).set 4 (.val i64T ((k:Int)-1))) (fun (i:Nat×Total)=>match i with|(k,y)=>((Hp.none).set 0 (.box 119 totalT zTotal)).set 1 (.box 119 totalT y)) (fun (i:Nat×Total)=>match i with|(k,y)=>k≤n∧mmrRoot p=rootFrom (p.take k).reverse y) (fun (i:Nat×Total)=>match i with|(k,y)=>k) ((n,x0)) (⟨Nat.le_refl _,hroot⟩) ?_
  intro ⟨k,y⟩ hinv
  dsimp only at hinv
  refine qa9 ?_;refine qbk ?_;refine Cf (p:=0<k) (fun ht19=>?_) (fun ht19=>?_)
  ·
   obtain ⟨x,hx⟩:∃x,p[k-1]?=some x:=⟨_,List.getElem?_eq_getElem (by omega)⟩
   refine qa4 ?_;refine zx [some 1,some 1,some 1,some 1,some 1,some 1,none] mixed (by decide +kernel) ?_;refine qaP ?_;refine X0 (zm (i:=k-1) rfl rfl rfl (by omega) zdI (by assumption)) ?_;refine X0 (zf rfl rfl zaI) ?_;refine X0 (oLs rfl rfl rfl zaI) ?_;refine X0 (oCl (rjoin_ok _ _) rfl fn_161 ⟨(by first|exact zq rfl|exact zC rfl|exact zy rfl rfl|exact zA rfl|exact zr rfl|exact zL rfl rfl|exact zB rfl),(zd rfl),trivial⟩) ?_
   refine XK.e (x:=.idk) (fun fr' hfr kk H=>by exact zh rfl rfl rfl ((hfr 3 (by decide +kernel)).trans rfl) rfl (Lens.self _) zaI ((hfr 27 (by decide +kernel)).trans rfl) (zz H)) ?_;refine qaQ ?_;refine qby ?_;refine qab ?_;refine zp (d:=4) (y:=((k-1:Nat):Int)-1) rfl (by omega) ?_
   exact Nx ((k-1,joinT x y)) (⟨by omega,by rw [hinv.2,show k=k-1+1 by omega,rootFrom_step hx];rfl⟩) (by show k-1<k;omega)
  ·
   obtain rfl:k=0:=(by omega)
   refine qbM ?_;refine A0 (oLs rfl rfl rfl zaI) ?_;refine qaH ?_;refine CN ?_
   exact zu rfl rfl rfl rfl zaI (by rw [hinv.2];rfl)
set_option maxRecDepth 20000
theorem rmmrAppend_ok (p:List Total) (leaf:Total) (hp:p.length≤1000000):Tells P 105 [.val (bsl totalT) p,.val totalT leaf] (.val (sl totalT) (mmrAppend p leaf)):=by
 refine zc Tryz.func105 rfl rfl rfl (fun ext w hext=>?_)
 refine ze (d:=0) rfl zi (fun hsl0=>?_)
 refine qbi ?_;refine qbx ?_;refine zcN rfl rfl rfl rfl rfl rfl zef (by first|omega|(simp;omega)) ?_;refine qaT ?_;refine A0 (oLs rfl rfl rfl zaI) ?_;refine A0 (zo (T:=totalT) (xs:=[_]) rfl zdI zef ⟨rfl,rfl,trivial⟩ rfl rfl) ?_;refine zn rfl rfl rfl rfl rfl rfl rfl zef (by first|omega|(simp;omega)) ?_;refine A0 aO ?_;refine CNQ ?_;refine CB ?_;refine aw_pub (d:=5) rfl rfl ?_;refine zp (d:=5) (y:=p.reverse.reverse++[leaf]) rfl (by simp) ?_
 refine Lp (ι:=List Total×Total) 1 (fun (i:List Total×Total)=>match i with|(r,x)=>((Fr.none).set 3 (.ptr 0 0)).set 5 (.val (sl totalT) (r.reverse++[x]))) (fun (i:List Total×Total)=>match i with|(r,x)=>(Hp.none).set 0 (.box 119 totalT leaf)) (fun (i:List Total×Total)=>match i with|(r,x)=>r.length≤1000000∧pushR r x=pushR p.reverse leaf) (fun (i:List Total×Total)=>match i with|(r,x)=>r.length) ((p.reverse,leaf)) (⟨by simp;omega,rfl⟩) ?_
 intro ⟨r,x⟩ hinv
 dsimp only at hinv
 have hlen:(r.reverse++[x]).length=r.length+1:=by simp
 refine CQ ?_;refine qcd ?_;refine G0 (zah rfl rfl zel) ?_;refine G0 zez ?_;refine G0 mV ?_;refine zab (d:=17) (p:=¬r=[]) rfl (by rw [decide_eq_decide];show (2:Int)≤(((r.reverse++[x]).length:Nat):Int)↔_;rw [←List.length_eq_zero_iff];omega) (fun g17=>?_) (fun g17=>?_)
 ·
  obtain ⟨y,s,hr⟩:∃y s,r=y::s:=by cases r with|nil=>exact absurd rfl g17|cons y s=>exact ⟨y,s,rfl⟩
  have hrl:r.length=s.length+1:=by rw [hr];rfl
  have hx1:(r.reverse++[x])[s.length]?=some y:=by rw [hr];simp
  have hx2:(r.reverse++[x])[s.length+1]?=some x:=by rw [List.getElem?_append_right (by simp [hrl])];simp [hrl]
  refine G1 mV ?_;refine G1 mV ?_;refine G1 (zah rfl rfl zel) ?_;refine G1 zay ?_;refine G1 (zm (i:=s.length+1) rfl rfl rfl (by omega) zdI (by assumption)) ?_;refine G1 (oFr zb7 zbE) ?_;refine G1 (zf rfl rfl ty_3) ?_;refine G1 mV ?_;refine G1 mV ?_;refine G1 (zah rfl rfl zel) ?_;refine G1 zay ?_;refine G1 (zm (i:=s.length) rfl rfl rfl (by omega) zdI (by assumption)) ?_;refine G1 (oFr zb7 zbE) ?_;refine G1 (zf rfl rfl ty_3) ?_;refine G1 zbU ?_;refine qaK ?_
  refine zj (p:=x.n=y.n) rfl (by simp [IntL.toI]) (fun ht33=>?_) (fun ht33=>?_)
  ·
   refine CS ?_;refine CB ?_;refine qa2 ?_;refine A0 (zah rfl rfl zel) ?_;refine qaA ?_;refine zx [some 1000001,some 1000001,some 1000001,some 1000001,some 1000001,some 1000001,some 1000001,some 1000001,some 1000001,some 1000001,some 1000001,none,none] mixed (by decide +kernel) ?_;refine XK.ga (fun _=>g_mv (.inl rfl) rfl) rfl rfl rfl ?_;refine XK.ga (fun _=>g_mv (.inl rfl) rfl) rfl rfl rfl ?_;refine XK.ga (fun _=>by first|exact g_sub rfl rfl rfl (zai (by first|omega|(simp;omega)))|exact g_sub rfl rfl rfl rfl) rfl rfl rfl ?_
   refine XK.ga (fun _=>zm (i:=s.length) rfl rfl rfl (by omega) zdI (by assumption)) rfl rfl rfl ?_;refine XK.ga (fun _=>zf rfl rfl zaI) rfl rfl rfl ?_;refine XK.ga (fun _=>g_mv (.inl rfl) rfl) rfl rfl rfl ?_;refine XK.ga (fun _=>g_mv (.inl rfl) rfl) rfl rfl rfl ?_;refine XK.ga (fun _=>by first|exact g_sub rfl rfl rfl (zai (by first|omega|(simp;omega)))|exact g_sub rfl rfl rfl rfl) rfl rfl rfl ?_;refine XK.ga (fun _=>zm (i:=s.length+1) rfl rfl rfl (by omega) zdI (by assumption)) rfl rfl rfl ?_;refine XK.ga (fun _=>zf rfl rfl zaI) rfl rfl rfl ?_
   refine XK.ga (fun _=>zb5 (rjoin_ok y x) rfl fn_161 ⟨(by first|exact zq rfl|exact zC rfl|exact zy rfl rfl|exact zA rfl|exact zr rfl|exact zL rfl rfl|exact zB rfl),(by first|exact zq rfl|exact zC rfl|exact zy rfl rfl|exact zA rfl|exact zr rfl|exact zL rfl rfl|exact zB rfl),trivial⟩ rfl) rfl rfl rfl ?_;refine XK.e (fun fr' hfr kk H=>by exact zI ze_119 rfl rfl rfl rfl (zz H)) ?_
   refine XK.e (x:=.idk) (fun fr' hfr kk H=>by exact zh rfl rfl rfl ((hfr 7 (by decide +kernel)).trans rfl) rfl (Lens.self _) zaI ((hfr 46 (by decide +kernel)).trans rfl) (zz H)) ?_;refine XK.nil' ?_;refine zx [some 1,some 1,some 1,some 1,none,some 2,some 2,none,some 1] mixed (by decide +kernel) ?_;refine qaP ?_;refine X0 zay ?_;refine X0 (by first|exact zbt rfl rfl rfl (by first|rfl|omega) zdI|exact zdy rfl rfl rfl zdI (by first|assumption|omega|(simp;omega))) ?_
   refine XK.e (fun fr' hfr kk H=>by exact zcN rfl rfl rfl rfl rfl ((hfr 50 (by decide +kernel)).trans rfl) zef (by first|omega|(simp;omega)) (zz H)) ?_;refine XK.gb (t:=7) rfl rfl (fun _ he=>zl rfl rfl he (Lens.self _) zaI) rfl ⟨hpB rfl rfl,hpB rfl rfl,trivial⟩ rfl rfl rfl ?_;refine XK.g2 (zo (T:=totalT) (xs:=[_]) rfl zdI zef ⟨rfl,rfl,trivial⟩ rfl rfl) (zo (T:=totalT) (xs:=[_]) rfl zdI zef ⟨rfl,rfl,trivial⟩ rfl rfl) rfl rfl rfl ?_
   refine XK.e (fun fr' hfr kk H=>by exact zn rfl rfl rfl rfl ((hfr 51 (by decide +kernel)).trans rfl) rfl ((hfr 53 (by decide +kernel)).trans rfl) zef (by first|omega|(simp;omega)) (zz H)) ?_;refine X0 aO ?_;refine XK.nil' ?_;refine CI ?_;refine aw_pub (d:=5) rfl rfl ?_;refine zp (d:=5) (y:=s.reverse++[joinT y x]) rfl (by simp [hr,List.take_append]<;>exact List.take_of_length_le (by simp)) ?_
   exact Nx ((s,joinT y x)) (⟨by omega,by rw [←hinv.2,hr,pushR,if_pos ht33.symm]⟩) (by show s.length<r.length;omega)
  ·
   refine CE ?_;refine qb8 ?_
   exact zb rfl rfl (za rfl (by unfold mmrAppend;rw [←hinv.2,hr,pushR,if_neg (fun h=>ht33 h.symm)];simp))
 ·
  refine qaa ?_;refine qaa ?_;refine qaS ?_;refine qaK ?_;refine Cg ?_;refine CE ?_;refine qb8 ?_
  exact zb rfl rfl (za rfl (by unfold mmrAppend;rw [←hinv.2,Classical.not_not.1 g17];rfl))
set_option maxRecDepth 20000
theorem rsubW_ok (a b:Wide):Tells P 259 [.val wideT a,.val wideT b] (.tup2 (.val wideT (subW a b)) (.val boolT (subOk a b))):=by
 refine zc Tryz.func259 rfl rfl rfl (fun ext w hext=>?_)
 refine ze (d:=0) rfl zaw (fun ha=>?_)
 refine ze (d:=1) rfl zaw (fun hb=>?_)
 refine qav ?_;refine qas ?_;refine qai ?_;refine qas ?_;refine qax ?_;refine Lp (ι:=Nat) 4 (fun (k:Nat)=>(((((Fr.none).set 2 (.ptr 0 0)).set 3 (.ptr 1 0)).set 4 (.ptr 2 0)).set 6 (.ptr 3 0)).set 7 (.val i64T (k:Int))) (fun (k:Nat)=>((((Hp.none).set 0 (.box 35 wideT a)).set 1 (.box 35 wideT b)).set 2 (.box 35 wideT zWide)).set 3 (.box 35 wideT (setN (compF b) zWide k))) (fun (k:Nat)=>k≤4) (fun (k:Nat)=>4-k) (0) (Nat.zero_le _) ?_
 intro k hinv
 refine qa9 ?_;refine qaz ?_;refine Cf (p:=k<4) (fun ht13=>?_) (fun ht13=>?_)
 ·
  refine qa4 ?_;refine CR ?_;refine qag ?_;refine A0 (zt (i:=k) rfl rfl rfl (by first|omega|rfl) zag (by omega)) ?_;refine A0 (zl rfl rfl rfl (Lens.elem (i:=k) (by omega) u64T) zav) ?_;refine A0 (g_sub64 rfl rfl rfl) ?_;refine A0 (zt (i:=k) rfl rfl rfl (by first|omega|rfl) zag (by omega)) ?_;refine zh rfl rfl rfl rfl rfl (Lens.elem (i:=k) (by omega) u64T) zav rfl ?_;refine qaR ?_;refine zD (n:=3) (y:=setN (compF b) zWide (k+1)) rfl (by rw [←zdX];unfold compF maxU;rfl) ?_
  exact Nx (k+1) (by omega) (by omega)
 ·
  obtain rfl:k=4:=(by omega)
  obtain ⟨c,hc⟩:∃c,c=compW b:=⟨_,rfl⟩
  obtain ⟨o,ho⟩:∃o,o=ofW (UInt64.ofNat (Int.toNat 1)):=⟨_,rfl⟩
  have hof:=rofW_ok (UInt64.ofNat (Int.toNat 1))
  rw [←ho] at hof
  obtain ⟨x1,hx1⟩:∃x,x=addW a c:=⟨_,rfl⟩
  have h1:=zcA a c
  rw [←hx1] at h1
  obtain ⟨x2,hx2⟩:∃x,x=addW x1 o:=⟨_,rfl⟩
  have h2:=zcA x1 o
  rw [←hx2] at h2
  refine CE ?_;refine CQ ?_;refine zD (n:=3) (y:=c) rfl ((setN_all rfl).trans hc.symm) ?_;refine CR ?_;refine qck ?_;refine A0 (oCl (h1) rfl fn_197 ⟨(zd rfl),(zd rfl),trivial⟩) ?_;refine A0 mX ?_;refine A0 (by first|exact zW rfl rfl|exact zU rfl rfl) ?_;refine A0 (by first|exact zY rfl rfl|exact zX rfl rfl) ?_;refine qcm ?_;refine qaA ?_;refine zx [some 1000001,some 1000001,some 1000001,some 1000001,some 1000001,some 1000001,none,none,some 1] mixed (by decide +kernel) ?_
  refine XK.gf (t:=8) rfl rfl (fun _ he=>zl rfl rfl he (Lens.self _) zZ) ⟨hpB rfl rfl,trivial⟩ rfl rfl rfl ?_;refine XK.ga (fun _=>zb5 (hof) rfl fn_147 ⟨(zd rfl),trivial⟩ rfl) rfl rfl rfl ?_;refine XK.ga (fun _=>zb5 (h2) rfl fn_197 ⟨(zd rfl),(zd rfl),trivial⟩ rfl) rfl rfl rfl ?_
  refine XK.ga (fun _=>by first|exact g_mv (.inl rfl) rfl|exact g_mp (.inl rfl) rfl|exact g_mo (.inl rfl) rfl|exact g_ml (.inl rfl) rfl|exact g_mc (.inl rfl) rfl|exact g_mr (.inl rfl) rfl|exact g_mf1 (.inl rfl) rfl|exact g_mf2 (.inl rfl) rfl|exact g_mw (.inl rfl) rfl|exact g_me (.inl rfl) rfl|exact g_ms (.inl rfl) rfl|exact zeR (.inl rfl) rfl|exact zeQ (.inl rfl) rfl|exact g_mi (.inl rfl) rfl) rfl rfl rfl ?_;refine XK.ga (fun _=>by first|exact zW rfl rfl|exact zU rfl rfl) rfl rfl rfl ?_;refine XK.ga (fun _=>by first|exact zY rfl rfl|exact zX rfl rfl) rfl rfl rfl ?_
  refine XK.e (fun fr' hfr kk H=>by exact zI zcO rfl rfl rfl rfl (zz H)) ?_;refine XK.e (x:=.idk) (fun fr' hfr kk H=>by exact zh rfl rfl rfl ((hfr 10 (by decide +kernel)).trans rfl) rfl (Lens.self _) zZ ((hfr 32 (by decide +kernel)).trans rfl) (zz H)) ?_;refine X0 aV ?_;refine XK.nilp ⟨⟨hpB rfl rfl,hpB rfl rfl,trivial⟩,trivial⟩ ?_;refine CQ ?_;refine zx [some 1,some 1,some 1,some 1,some 1000001,none,some 1] mixed (by decide +kernel) ?_;refine qbI ?_;refine qbI ?_;refine qbI ?_;refine X0 (oCl (rcmpW_ok _ _) rfl fn_148 ⟨(zd rfl),(zd rfl),trivial⟩) ?_
  refine XK.ga (fun _=>g_geq rfl rfl rfl rfl) rfl rfl rfl ?_;refine XK.e (x:=.idk) (fun fr' hfr kk H=>by exact zh rfl rfl rfl ((hfr 4 (by decide +kernel)).trans rfl) rfl (Lens.self _) zZ ((hfr 34 (by decide +kernel)).trans rfl) (zz H)) ?_;refine X0 aV ?_;refine XK.nil' ?_
  exact zF rfl rfl (zw rfl rfl zZ (by rw [hx2,hx1,hc,ho];exact rsub_eq ha hb)) (zac (za rfl (by rw [←rsub_ok ha hb,decide_eq_decide];rfl)))
set_option maxRecDepth 20000
theorem tgtE_quo (bits:UInt32):IntL.toI u32T (bits/16777216)=tgtE bits:=by
  show (((bits/16777216).toNat:Nat):Int)=(((shr32 bits 24).toNat:Nat):Int)
  have hx:bits.toNat<4294967296:=bits.toNat_lt
  unfold shr32
  rw [UInt32.toNat_div,UInt32.toNat_ofNat_of_lt' (by show _<4294967296;have:=Nat.div_le_self bits.toNat (2^min 24 32);omega)]
  rfl
theorem tgtM_rem (bits:UInt32):u64OfI (IntL.toI u32T (bits%16777216))=tgtM bits:=by
  unfold tgtM
  congr 2
  apply UInt32.toNat_inj.1
  rw [UInt32.toNat_mod,UInt32.toNat_and]
  show bits.toNat%16777216=bits.toNat&&&(2^24-1)
  rw [Nat.and_two_pow_sub_one_eq_mod]
theorem rtarget_ok (bits:UInt32):Tells P 92 [.val u32T bits] (.tup2 (.val wideT (tgtW bits)) (.val boolT (tgtOk bits))):=by
 have he0:0≤tgtE bits:=Int.natCast_nonneg _
 have heL:tgtE bits<4294967296:=by have:(shr32 bits 24).toNat<4294967296:=(shr32 bits 24).toNat_lt;show ((shr32 bits 24).toNat:Int)<4294967296;omega
 refine zc Tryz.func92 rfl rfl rfl (fun ext w hext=>?_)
 refine CQR ?_;refine qas ?_;refine qa7 ?_;refine A0 (g_quo32 rfl rfl rfl (by decide)) ?_;refine A0 (g_cvi rfl (ui_3) (us_36) rfl (zai (by have e:IntL.toI u32T (bits/UInt32.ofNat (Int.toNat 16777216))=tgtE bits:=tgtE_quo bits;rw [e];omega))) ?_;refine zp (d:=8) (y:=tgtE bits) rfl (tgtE_quo bits) ?_;refine qa7 ?_;refine A0 (g_rem32 rfl rfl rfl (by decide)) ?_;refine A0 (zcr rfl (ui_33) (us_36) rfl) ?_;refine zp (d:=11) (y:=tgtM bits) rfl (tgtM_rem bits) ?_;refine qah ?_;refine A0 zbh ?_;refine qar ?_;refine Sp (d:=14) (p:=tgtE bits<3) (fun g14=>?_) (fun g14=>?_)
 ·
  refine qaX ?_;refine qaw ?_;refine qcc ?_;refine Ct ?_;refine CQR ?_;refine A0 (zaA rfl zag zcO rfl) ?_;refine qcf ?_
  exact zF rfl rfl (zw rfl rfl zZ (by unfold tgtW;rw [if_neg (by unfold tgtOk;rw [decide_eq_true_eq];omega)])) (zac (za rfl (by unfold tgtOk;symm;apply decide_eq_false;omega)))
 ·
  refine A1 mV ?_;refine A1 zbb ?_;refine qaw ?_;refine Sp (d:=18) (p:=32<tgtE bits) (fun g18=>?_) (fun g18=>?_)
  ·
   refine qaX ?_;refine qaq ?_;refine Ct ?_;refine CQR ?_;refine A0 (zaA rfl zag zcO rfl) ?_;refine qcf ?_
   exact zF rfl rfl (zw rfl rfl zZ (by unfold tgtW;rw [if_neg (by unfold tgtOk;rw [decide_eq_true_eq];omega)])) (zac (za rfl (by unfold tgtOk;symm;apply decide_eq_false;omega)))
  ·
   refine A1 mV ?_;refine A1 zbh ?_;refine qaw ?_;refine zaa (d:=22) (p:=(tgtM bits).toNat<32768) rfl (by rw [decide_eq_decide];show ((tgtM bits).toNat:Int)<(32768:Int)↔_;omega) (fun g22=>?_) (fun g22=>?_)
   ·
    refine qcc ?_;refine Ct ?_;refine CQR ?_;refine A0 (zaA rfl zag zcO rfl) ?_;refine qcf ?_
    exact zF rfl rfl (zw rfl rfl zZ (by unfold tgtW;rw [if_neg (by unfold tgtOk;rw [decide_eq_true_eq];omega)])) (zac (za rfl (by unfold tgtOk;symm;apply decide_eq_false;omega)))
   ·
    refine A1 mV ?_;refine A1 zbb ?_;refine qaq ?_;refine zj (p:=8388608≤(tgtM bits).toNat) rfl (by rw [decide_eq_decide];show (8388607:Int)<((tgtM bits).toNat:Int)↔_;omega) (fun ht25=>?_) (fun ht25=>?_)
    ·
     refine CQR ?_;refine A0 (zaA rfl zag zcO rfl) ?_;refine qcf ?_
     exact zF rfl rfl (zw rfl rfl zZ (by unfold tgtW;rw [if_neg (by unfold tgtOk;rw [decide_eq_true_eq];omega)])) (zac (za rfl (by unfold tgtOk;symm;apply decide_eq_false;omega)))
    ·
     refine qbG ?_;refine A0 (oCl (rofW_ok (tgtM bits)) rfl fn_147 ⟨(zd rfl),trivial⟩) ?_;refine qar ?_;refine A0 (g_sub rfl rfl rfl (show _=(tgtE bits-3:Int) from (zai (by omega)).trans (by omega))) ?_;refine A0 (g_mul rfl rfl rfl (show _=(8*(tgtE bits-3):Int) from (zai (by omega)).trans (by omega))) ?_;refine A0 (oCl (rupW_ok (ofW (tgtM bits)) (8*(tgtE bits-3))) rfl fn_146 ⟨(zd rfl),(zd rfl),trivial⟩) ?_;refine qcf ?_
     exact zF rfl rfl (zw rfl rfl zZ (by unfold tgtW;rw [if_pos (by unfold tgtOk;rw [decide_eq_true_eq];omega)])) (zac (za rfl (by unfold tgtOk;symm;apply decide_eq_true;omega)))
set_option maxRecDepth 20000
def incW (w:Wide):Wide:=w.set 0 (w.getD 0 default+1)
theorem incW_len {w:Wide} (h:w.length=4):(incW w).length=4:=by unfold incW;rw [List.length_set];exact h
theorem incW_n {w:Wide} (h:w.length=4) (he:nW w%2=0):nW (incW w)=nW w+1:=by
  obtain ⟨a0,a1,a2,a3,rfl⟩:=wide4 h
  have h0:a0.toNat<18446744073709551616:=a0.toNat_lt
  unfold nW at he
  simp only [List.getD_cons_zero,List.getD_cons_succ] at he
  show nW [a0+1,a1,a2,a3]=_
  unfold nW
  simp only [List.getD_cons_zero,List.getD_cons_succ]
  have e:(a0+1).toNat=a0.toNat+1:=by
    rw [UInt64.toNat_add];show (a0.toNat+1)%18446744073709551616=_
    omega
  rw [e];omega
theorem hiBit_n {w:Wide} (h:w.length=4):9223372036854775808≤(w.getD 3 default).toNat↔57896044618658097711785492504343953926634992332820282019728792003956564819968≤nW w:=by
  obtain ⟨a0,a1,a2,a3,rfl⟩:=wide4 h
  have h0:a0.toNat<18446744073709551616:=a0.toNat_lt
  have h1:a1.toNat<18446744073709551616:=a1.toNat_lt
  have h2:a2.toNat<18446744073709551616:=a2.toNat_lt
  have h3:a3.toNat<18446744073709551616:=a3.toNat_lt
  unfold nW
  simp only [List.getD_cons_zero,List.getD_cons_succ]
  omega
def dvX (s:Wide×Wide×Wide):Wide:=if 9223372036854775808≤(s.1.getD 3 default).toNat then incW (addW s.2.2 s.2.2) else addW s.2.2 s.2.2
def dvC (b:Wide) (s:Wide×Wide×Wide):Prop:=addOk s.2.2 s.2.2=false∨0≤cmpW (dvX s) b
instance (b:Wide) (s:Wide×Wide×Wide):Decidable (dvC b s):=inferInstanceAs (Decidable (_∨_))
def dvStep (b:Wide) (s:Wide×Wide×Wide):Wide×Wide×Wide:=if dvC b s then (addW s.1 s.1,incW (addW s.2.1 s.2.1),subW (dvX s) b) else (addW s.1 s.1,addW s.2.1 s.2.1,dvX s)
def dvI (a b:Wide):Nat→Wide×Wide×Wide
  | 0=>(a,zWide,zWide)
  | i+1=>dvStep b (dvI a b i)
structure DvInv (A B P:Nat) (M:Nat) (s:Wide×Wide×Wide):Prop where
  l1:s.1.length=4
  l2:s.2.1.length=4
  l3:s.2.2.length=4
  n1:nW s.1=M
  n2:nW s.2.1=P/B
  n3:nW s.2.2=P%B
theorem dv_step {A B P M bit:Nat} {b:Wide} {s:Wide×Wide×Wide} (hb:b.length=4) (hB:nW b=B) (hp:0<B) (hM:M<W256) (hbit:bit=if 57896044618658097711785492504343953926634992332820282019728792003956564819968≤M then 1 else 0) (hP:2*P+bit<W256) (h:DvInv A B P M s):DvInv A B (2*P+bit) (2*M%W256) (dvStep b s):=by
  obtain ⟨l1,l2,l3,n1,n2,n3⟩:=h
  have hBlt:B<W256:=by rw [←hB];exact nW_lt hb
  have hr:P%B<B:=Nat.mod_lt _ hp
  have hq:B*(P/B)+P%B=P:=Nat.div_add_mod P B
  have hqle:P/B≤P:=Nat.div_le_self P B
  obtain ⟨x1,x2⟩:=nW_add2 l3 l3
  rw [n3] at x1 x2
  have hX:(dvX s).length=4∧nW (dvX s)=(2*(P%B)+bit)%W256:=by
    have ev:nW (addW s.2.2 s.2.2)%2=0:=by rw [x1];unfold W256;omega
    unfold dvX
    by_cases c:9223372036854775808≤(s.1.getD 3 default).toNat
    · rw [if_pos c]
      have c':=(hiBit_n l1).1 c
      rw [n1] at c'
      rw [if_pos c'] at hbit
      refine ⟨incW_len (zaL l3 l3),?_⟩
      rw [incW_n (zaL l3 l3) ev,x1,hbit]
      unfold W256;omega
    · rw [if_neg c]
      have c':¬_:=fun h=>c ((hiBit_n l1).2 h)
      rw [n1] at c'
      rw [if_neg c'] at hbit
      refine ⟨zaL l3 l3,?_⟩
      rw [x1,hbit]
      congr 1;omega
  obtain ⟨xl,xn⟩:=hX
  have o1:=nW_add l2 l2
  rw [n2] at o1
  have o1':nW (addW s.2.1 s.2.1)=2*(P/B):=by
    rw [o1,show P/B+P/B=2*(P/B) by omega,Nat.mod_eq_of_lt (by omega)]
  have a1:nW (addW s.1 s.1)=2*M%W256:=by rw [nW_add l1 l1,n1];congr 1;omega
  have hbit1:bit≤1:=by rw [hbit];split<;>omega
  have hdiv:∀q r,B*q+r=2*P+bit→r<B→(2*P+bit)/B=q∧(2*P+bit)%B=r:=fun q r e hlt=>by
    rw [←e]
    refine ⟨?_,?_⟩
    · rw [Nat.add_comm,Nat.add_mul_div_left _ _ hp,Nat.div_eq_of_lt hlt,Nat.zero_add]
    · rw [Nat.add_comm,Nat.add_mul_mod_self_left,Nat.mod_eq_of_lt hlt]
  have hcase:dvC b s↔B≤2*(P%B)+bit:=by
    unfold dvC
    rw [cmpW_n xl hb,hB,xn]
    have hx2:addOk s.2.2 s.2.2=false↔W256≤P%B+P%B:=by
      cases e:addOk s.2.2 s.2.2 with
      | true=>have:=x2.1 e;simp;omega
      | false =>
        refine ⟨fun _=>?_,fun _=>rfl⟩
        rcases Nat.lt_or_ge (P%B+P%B) W256 with h|h
        · have:=x2.2 h;rw [e] at this;cases this
        · exact h
    rw [hx2]
    have hlt2:2*(P%B)+bit<2*B:=by omega
    constructor
    · rintro (h|h)
      · omega
      · by_cases c1:2*(P%B)+bit<W256
        · rw [Nat.mod_eq_of_lt c1] at h
          split at h
          · omega
          · omega
        · omega
    · intro h
      by_cases c1:2*(P%B)+bit<W256
      · right
        rw [Nat.mod_eq_of_lt c1]
        split
        · omega
        · split<;>omega
      · left
        unfold W256 at *;omega
  unfold dvStep
  have hmul:B*(2*(P/B))=2*(B*(P/B)):=by rw [Nat.mul_left_comm]
  by_cases c:dvC b s
  · rw [if_pos c]
    have c':=hcase.1 c
    have hm1:B*(2*(P/B)+1)=2*(B*(P/B))+B:=by rw [Nat.mul_add,hmul,Nat.mul_one]
    obtain ⟨e1,e2⟩:=hdiv (2*(P/B)+1) (2*(P%B)+bit-B) (by omega) (by omega)
    refine ⟨zaL l1 l1,incW_len (zaL l2 l2),subW_len xl hb,a1,?_,?_⟩
    · show nW (incW (addW s.2.1 s.2.1))=_
      rw [incW_n (zaL l2 l2) (by rw [o1'];omega),o1',e1]
    · show nW (subW (dvX s) b)=_
      rw [(nW_sub xl hb).1,xn,hB,e2]
      by_cases c1:2*(P%B)+bit<W256
      · rw [Nat.mod_eq_of_lt c1]
        rw [show 2*(P%B)+bit+W256-B=(2*(P%B)+bit-B)+W256 by omega,Nat.add_mod_right,Nat.mod_eq_of_lt (by omega)]
      · have h2:2*(P%B)+bit<2*W256:=by omega
        rw [show (2*(P%B)+bit)%W256=2*(P%B)+bit-W256 by rw [Nat.mod_eq_sub_mod (by omega),Nat.mod_eq_of_lt (by omega)]]
        rw [show 2*(P%B)+bit-W256+W256-B=2*(P%B)+bit-B by omega,Nat.mod_eq_of_lt (by omega)]
  · rw [if_neg c]
    have c':¬B≤2*(P%B)+bit:=fun h=>c (hcase.2 h)
    obtain ⟨e1,e2⟩:=hdiv (2*(P/B)) (2*(P%B)+bit) (by omega) (by omega)
    refine ⟨zaL l1 l1,zaL l2 l2,xl,a1,?_,?_⟩
    · show nW (addW s.2.1 s.2.1)=_
      rw [o1',e1]
    · show nW (dvX s)=_
      rw [xn,e2,Nat.mod_eq_of_lt (by omega)]
theorem dv_bit {A k i:Nat} (_hA:A<2^256) (hk:k+1+i=256):A/2^k=2*(A/2^(k+1))+(if 2^255≤A*2^i%2^256 then 1 else 0):=by
  have e1:A/2^(k+1)=A/2^k/2:=by rw [Nat.pow_succ,Nat.div_div_eq_div_mul]
  have e2:A*2^i%2^256=A%2^(k+1)*2^i:=by
    rw [←hk,Nat.pow_add,Nat.mul_mod_mul_right]
  have e3:A%2^(k+1)=A/2^k%2*2^k+A%2^k:=by
    rw [Nat.pow_succ,Nat.mod_mul,Nat.add_comm,Nat.mul_comm (2^k)]
  have e4:(2:Nat)^255=2^k*2^i:=by rw [←Nat.pow_add];congr 1;omega
  have hlt:A%2^k<2^k:=Nat.mod_lt _ (Nat.two_pow_pos k)
  rw [e1,e2,e4]
  have hiff:2^k*2^i≤A%2^(k+1)*2^i↔A/2^k%2=1:=by
    rw [Nat.mul_le_mul_right_iff (Nat.two_pow_pos i),e3]
    rcases Nat.mod_two_eq_zero_or_one (A/2^k) with h|h
    · rw [h];constructor
      · intro h';omega
      · intro h';omega
    · rw [h];constructor
      · intro _;rfl
      · intro _;omega
  by_cases c:A/2^k%2=1
  · rw [if_pos (hiff.2 c)];omega
  · rw [if_neg (fun h=>c (hiff.1 h))];omega
theorem dv_inv {a b:Wide} (ha:a.length=4) (hb:b.length=4) (h:b≠zWide):∀i,i≤256→DvInv (nW a) (nW b) (nW a/2^(256-i)) (nW a*2^i%2^256) (dvI a b i):=by
  have hA:nW a<2^256:=nW_lt ha
  have hp:=nW_pos hb h
  intro i
  induction i with
  | zero =>
    intro _
    have e:nW a/2^(256-0)=0:=Nat.div_eq_of_lt hA
    rw [e,Nat.pow_zero,Nat.mul_one,Nat.mod_eq_of_lt hA]
    exact ⟨ha,rfl,rfl,rfl,by show nW zWide=_;rw [nW_zero,Nat.zero_div],by show nW zWide=_;rw [nW_zero,Nat.zero_mod]⟩
  | succ i ih =>
    intro hi
    have h1:=ih (by omega)
    have e:=dv_bit (k:=255-i) (i:=i) hA (by omega)
    rw [show 255-i+1=256-i by omega] at e
    have hlt:nW a/2^(255-i)<W256:=Nat.lt_of_le_of_lt (Nat.div_le_self _ _) hA
    have hM:nW a*2^i%2^256<W256:=Nat.mod_lt _ (by decide)
    have e2:nW a*2^(i+1)%2^256=2*(nW a*2^i%2^256)%W256:=by
      rw [Nat.pow_succ,←Nat.mul_assoc,Nat.mul_comm _ 2]
      show _=2*(nW a*2^i%2^256)%2^256
      rw [Nat.mul_mod_mod]
    rw [show 256-(i+1)=255-i by omega,e2,e]
    rw [e] at hlt
    exact dv_step hb rfl hp hM rfl hlt h1
theorem dv_all {a b:Wide} (ha:a.length=4) (hb:b.length=4) (h:b≠zWide):(dvI a b 256).2.1=divW a b∧(dvI a b 256).2.2=remW a b:=by
  obtain ⟨_,l2,l3,_,n2,n3⟩:=dv_inv ha hb h 256 (Nat.le_refl _)
  obtain ⟨d1,d2,d3,d4⟩:=nW_div ha hb h
  rw [Nat.sub_self,Nat.pow_zero,Nat.div_one] at n2 n3
  exact ⟨nW_inj l2 d1 (n2.trans d3.symm),nW_inj l3 d2 (n3.trans d4.symm)⟩
theorem dvX_len {x y z:Wide} (h:z.length=4):(dvX (x,y,z)).length=4:=by
  unfold dvX
  split
  · exact incW_len (zaL h h)
  · exact zaL h h
theorem zcD {a b x y z X : Wide} {k : Nat} (h : k ≤ 256 ∧ dvI a b k = (x, y, z) ∧ x.length = 4 ∧ y.length = 4 ∧ z.length = 4) (hb : b.length = 4) (hXl : X.length = 4) (hk : k + 1 ≤ 256) (hX : X = dvX (x, y, z)) (hc : addOk z z = false ∨ 0 ≤ cmpW X b) :
    k+1≤256∧dvI a b (k+1)=(addW x x,incW (addW y y),subW X b)∧(addW x x).length=4∧(incW (addW y y)).length=4∧(subW X b).length=4:=by
  refine ⟨hk,?_,zaL h.2.2.1 h.2.2.1,incW_len (zaL h.2.2.2.1 h.2.2.2.1),subW_len hXl hb⟩
  rw [dvI,h.2.1]
  unfold dvStep
  rw [if_pos (by unfold dvC;rw [←hX];exact hc),←hX]
theorem dv_nextB {a b x y z X : Wide} {k : Nat} (h : k ≤ 256 ∧ dvI a b k = (x, y, z) ∧ x.length = 4 ∧ y.length = 4 ∧ z.length = 4) (hXl : X.length = 4) (hk : k + 1 ≤ 256) (hX : X = dvX (x, y, z)) (h1 : ¬ addOk z z = false) (h2 : ¬ 0 ≤ cmpW X b) :
    k+1≤256∧dvI a b (k+1)=(addW x x,addW y y,X)∧(addW x x).length=4∧(addW y y).length=4∧X.length=4:=by
  refine ⟨hk,?_,zaL h.2.2.1 h.2.2.1,zaL h.2.2.2.1 h.2.2.2.1,hXl⟩
  rw [dvI,h.2.1]
  unfold dvStep
  rw [if_neg (by unfold dvC;rw [←hX];exact fun h=>h.elim h1 h2),←hX]
def allW:Wide:=[maxU,maxU,maxU,maxU]
theorem allW_n:nW allW=W256-1:=by
  show nW [maxU,maxU,maxU,maxU]=_
  unfold nW;simp only [List.getD_cons_zero,List.getD_cons_succ,maxU_n];rfl
theorem notW_n {t:Wide} (ht:t.length=4):nW [~~~ t.getD 0 default,~~~ t.getD 1 default,~~~ t.getD 2 default,~~~ t.getD 3 default]=W256-1-nW t:=by
  obtain ⟨a0,a1,a2,a3,rfl⟩:=wide4 ht
  have e:∀x:UInt64,(~~~ x).toNat=18446744073709551615-x.toNat:=fun x=>by rw [UInt64.toNat_not];rfl
  have h0:a0.toNat<18446744073709551616:=a0.toNat_lt
  have h1:a1.toNat<18446744073709551616:=a1.toNat_lt
  have h2:a2.toNat<18446744073709551616:=a2.toNat_lt
  have h3:a3.toNat<18446744073709551616:=a3.toNat_lt
  unfold nW W256
  simp only [List.getD_cons_zero,List.getD_cons_succ,e]
  omega
theorem succ_div_mod {a n:Nat} (hn:0<n):(a+1)/n=a/n+if a%n+1=n then 1 else 0:=by
  have h:=Nat.div_add_mod a n
  have hlt:=Nat.mod_lt a hn
  by_cases c:a%n+1=n
  · rw [if_pos c]
    have e:a+1=n*(a/n+1):=by rw [Nat.mul_add,Nat.mul_one];omega
    rw [e,Nat.mul_div_cancel_left _ hn]
  · rw [if_neg c]
    have e:a+1=(a%n+1)+n*(a/n):=by omega
    rw [e,Nat.add_mul_div_left _ _ hn,Nat.div_eq_of_lt (by omega),Nat.zero_add];rfl
theorem rwork_eq {t : Wide} (ht : t.length = 4) (h : addOk t (ofW 1) = true) :
    (addW (remW allW (addW t (ofW 1))) (ofW 1)=addW t (ofW 1)→addW (divW allW (addW t (ofW 1))) (ofW 1)=workW t)∧(addW (remW allW (addW t (ofW 1))) (ofW 1)≠addW t (ofW 1)→divW allW (addW t (ofW 1))=workW t):=by
  have h1:nW (ofW 1)=1:=rfl
  have l1:(ofW 1).length=4:=rfl
  obtain ⟨n1,n2⟩:=nW_add2 ht l1
  have hlt:=n2.1 h
  rw [h1] at n1 hlt
  rw [Nat.mod_eq_of_lt hlt] at n1
  have nl:=zaL ht l1
  obtain ⟨nx,hnx⟩:∃nx,nx=addW t (ofW 1):=⟨_,rfl⟩
  have hw:workW t=addW (divW [~~~ t.getD 0 default,~~~ t.getD 1 default,~~~ t.getD 2 default,~~~ t.getD 3 default] nx) (ofW 1):=by unfold workW;rw [if_pos h,hnx]
  rw [←hnx] at n1 nl ⊢
  have hz:nx≠zWide:=fun e=>by rw [e,nW_zero] at n1;omega
  have hp:0<nW nx:=by omega
  obtain ⟨d1,d2,d3,d4⟩:=nW_div (a:=allW) rfl nl hz
  obtain ⟨e1,e2,e3,_⟩:=nW_div (a:=[~~~ t.getD 0 default,~~~ t.getD 1 default,~~~ t.getD 2 default,~~~ t.getD 3 default]) rfl nl hz
  rw [notW_n ht] at e3
  have hk:W256-1-nW t=W256-nW nx:=by omega
  rw [hk] at e3
  have hdiv:(W256-nW nx)/nW nx+1=W256/nW nx:=by
    rw [←Nat.div_eq_sub_div hp (by omega)]
  have hsd:=succ_div_mod (a:=W256-1) hp
  rw [show W256-1+1=W256 from rfl] at hsd
  rw [allW_n] at d3 d4
  have hrl:(W256-1)%nW nx<nW nx:=Nat.mod_lt _ hp
  have hcond:addW (remW allW nx) (ofW 1)=nx↔(W256-1)%nW nx+1=nW nx:=by
    have hr:=nW_add d2 l1
    rw [d4,h1,Nat.mod_eq_of_lt (by omega)] at hr
    constructor
    · intro e;rw [←hr,e]
    · intro e;exact nW_inj (zaL d2 l1) nl (hr.trans e)
  have hwl:(workW t).length=4:=by rw [hw];exact zaL e1 l1
  have hwn:nW (workW t)=W256/nW nx%W256:=by rw [hw,nW_add e1 l1,e3,h1,hdiv]
  constructor
  · intro c
    rw [if_pos (hcond.1 c)] at hsd
    refine nW_inj (zaL d1 l1) hwl ?_
    rw [nW_add d1 l1,d3,h1,hwn,hsd]
  · intro c
    rw [if_neg (fun e=>c (hcond.2 e)),Nat.add_zero] at hsd
    refine nW_inj d1 hwl ?_
    rw [d3,hwn,hsd,Nat.mod_eq_of_lt]
    exact Nat.lt_of_le_of_lt (Nat.div_le_self _ _) (by decide)
theorem rdivW_ok (a b:Wide):Tells P 234 [.val wideT a,.val wideT b] (.tup3 (.val wideT (divW a b)) (.val wideT (remW a b)) (.val boolT (divOk b))):=by
 refine zc Tryz.func234 rfl rfl rfl (fun ext w hext=>?_)
 refine ze (d:=0) rfl zaw (fun ha=>?_)
 refine ze (d:=1) rfl zaw (fun hb=>?_)
 refine qav ?_;refine qas ?_;refine qas ?_;refine qbB ?_;refine qau ?_;refine A0 (zaA rfl zag zcO rfl) ?_;refine A0 (zcM rfl rfl rfl (eqt_35)) ?_;refine CN ?_;refine zj (p:=b=zWide) rfl (by simp) (fun ht14=>?_) (fun ht14=>?_)
 ·
  refine CQR ?_;refine A0 (zaA rfl zag zcO rfl) ?_;refine A0 (zaA rfl zag zcO rfl) ?_;refine qae ?_;refine qcf ?_
  exact zfq rfl rfl (zw rfl rfl zZ (by unfold divW divP;rw [if_pos ht14])) (zw rfl rfl zZ (by unfold remW divP;rw [if_pos ht14])) (zac (za rfl (by unfold divOk;symm;exact decide_eq_false (fun h=>h ht14))))
 ·
  refine CSQR ?_;refine qas ?_;refine CNQR ?_;refine qas ?_;refine qax ?_
  refine Lp (ι:=Nat×Wide×Wide×Wide) 6 (fun (i:Nat×Wide×Wide×Wide)=>match i with|(k,x,y,z)=>((((((((Fr.none).set 2 (.ptr 0 0)).set 3 (.ptr 1 0)).set 4 (.ptr 2 0)).set 5 (.ptr 3 0)).set 6 (.val boolT false)).set 7 (.ptr 4 0)).set 8 (.ptr 5 0)).set 9 (.val i64T (k:Int))) (fun (i:Nat×Wide×Wide×Wide)=>match i with|(k,x,y,z)=>((((((Hp.none).set 0 (.box 35 wideT x)).set 1 (.box 35 wideT b)).set 2 (.box 35 wideT zWide)).set 3 (.box 35 wideT zWide)).set 4 (.box 35 wideT y)).set 5 (.box 35 wideT z)) (fun (i:Nat×Wide×Wide×Wide)=>match i with|(k,x,y,z)=>k≤256∧dvI a b k=(x,y,z)∧x.length=4∧y.length=4∧z.length=4) (fun (i:Nat×Wide×Wide×Wide)=>match i with|(k,x,y,z)=>256-k) ((0,a,zWide,zWide)) (⟨Nat.zero_le _,rfl,ha,rfl,rfl⟩) ?_
  intro ⟨k,x,y,z⟩ hinv
  dsimp only at hinv
  refine qa9 ?_;refine qaz ?_;refine Cf (p:=k<256) (fun ht18=>?_) (fun ht18=>?_)
  ·
   obtain ⟨X,hX⟩:∃X,X=dvX (x,y,z):=⟨_,rfl⟩
   have hXl:X.length=4:=by rw [hX];exact dvX_len hinv.2.2.2.2
   refine CSQBQR ?_;refine qck ?_;refine A0 (oCl (zcA z z) rfl fn_197 ⟨(zd rfl),(zd rfl),trivial⟩) ?_;refine A0 mX ?_;refine A0 (by first|exact zW rfl rfl|exact zU rfl rfl) ?_;refine A0 (by first|exact zY rfl rfl|exact zX rfl rfl) ?_;refine qcm ?_;refine qbB ?_;refine A0 (zt (i:=3) rfl rfl rfl (by first|omega|rfl) zag (by omega)) ?_;refine A0 (zl rfl rfl rfl (Lens.elem (i:=3) (by omega) u64T) zav) ?_;refine qbk ?_
   refine zj (p:=9223372036854775808≤(x.getD 3 default).toNat) rfl (by rw [decide_eq_decide];show (9223372036854775808:Int)≤((x.getD 3 default).toNat:Int)↔_;omega) (fun ht29=>?_) (fun ht29=>?_)
   ·
    refine CR ?_;refine A0 (zt (i:=0) rfl rfl rfl (by first|omega|rfl) zag (by omega)) ?_;refine A0 (zl rfl rfl rfl (Lens.elem (i:=0) (by omega) u64T) zav) ?_;refine A0 (zcV rfl rfl rfl) ?_;refine A0 (zt (i:=0) rfl rfl rfl (by first|omega|rfl) zag (by omega)) ?_;refine zh rfl rfl rfl rfl rfl (Lens.elem (i:=0) (by omega) u64T) zav rfl ?_;refine CNQ ?_;refine zD (n:=6) (y:=X) rfl (by rw [hX];unfold dvX;first|(rw [if_pos ht29];rfl)|(rw [if_neg ht29])) ?_;refine CR ?_;refine qck ?_;refine A0 (oCl (zcA x x) rfl fn_197 ⟨(zd rfl),(zd rfl),trivial⟩) ?_
    refine A0 mX ?_;refine A0 (by first|exact zW rfl rfl|exact zU rfl rfl) ?_;refine A0 (by first|exact zY rfl rfl|exact zX rfl rfl) ?_;refine qae ?_;refine CNQR ?_;refine qck ?_;refine A0 (oCl (zcA y y) rfl fn_197 ⟨(zd rfl),(zd rfl),trivial⟩) ?_;refine A0 mX ?_;refine A0 (by first|exact zW rfl rfl|exact zU rfl rfl) ?_;refine A0 (by first|exact zY rfl rfl|exact zX rfl rfl) ?_;refine qae ?_;refine CNQR ?_;refine qau ?_;refine qae ?_;refine qbx ?_;refine A0 oN ?_;refine qar ?_
    refine zaa (d:=49) (p:=addOk z z=false) rfl (by cases addOk z z<;>rfl) (fun g49=>?_) (fun g49=>?_)
    ·
     refine qaJ ?_;refine qaq ?_;refine Ct ?_;refine CQR ?_;refine qck ?_;refine A0 (oCl (rsubW_ok X b) rfl fn_259 ⟨(zd rfl),(zd rfl),trivial⟩) ?_;refine A0 mX ?_;refine A0 (by first|exact zW rfl rfl|exact zU rfl rfl) ?_;refine A0 (by first|exact zY rfl rfl|exact zX rfl rfl) ?_;refine qae ?_;refine CNR ?_;refine A0 (zt (i:=0) rfl rfl rfl (by first|omega|rfl) zag (by omega)) ?_;refine A0 (zl rfl rfl rfl (Lens.elem (i:=0) (by omega) u64T) zav) ?_;refine A0 (zcV rfl rfl rfl) ?_;refine A0 (zt (i:=0) rfl rfl rfl (by first|omega|rfl) zag (by omega)) ?_
     refine zh rfl rfl rfl rfl rfl (Lens.elem (i:=0) (by omega) u64T) zav rfl ?_;refine qaR ?_;refine zD (n:=4) (y:=incW (addW y y)) rfl rfl ?_
     exact Nx ((k+1,addW x x,incW (addW y y),subW X b)) (by first|exact zcD hinv hb hXl (by omega) hX (.inl g49)|exact zcD hinv hb hXl (by omega) hX (.inr ht54)|exact dv_nextB hinv hXl (by omega) hX g49 ht54) (by show 256-(k+1)<256-k;omega)
    ·
     refine A1 (oLs rfl rfl rfl zZ) ?_;refine A1 (oLs rfl rfl rfl zZ) ?_;refine A1 (oCl (rcmpW_ok _ _) rfl fn_148 ⟨(zd rfl),(zd rfl),trivial⟩) ?_;refine A1 zez ?_;refine qaq ?_;refine Cf (p:=0≤cmpW X b) (fun ht54=>?_) (fun ht54=>?_)
     ·
      refine CQR ?_;refine qck ?_;refine A0 (oCl (rsubW_ok X b) rfl fn_259 ⟨(zd rfl),(zd rfl),trivial⟩) ?_;refine A0 mX ?_;refine A0 (by first|exact zW rfl rfl|exact zU rfl rfl) ?_;refine A0 (by first|exact zY rfl rfl|exact zX rfl rfl) ?_;refine qae ?_;refine CNR ?_;refine A0 (zt (i:=0) rfl rfl rfl (by first|omega|rfl) zag (by omega)) ?_;refine A0 (zl rfl rfl rfl (Lens.elem (i:=0) (by omega) u64T) zav) ?_;refine A0 (zcV rfl rfl rfl) ?_;refine A0 (zt (i:=0) rfl rfl rfl (by first|omega|rfl) zag (by omega)) ?_
      refine zh rfl rfl rfl rfl rfl (Lens.elem (i:=0) (by omega) u64T) zav rfl ?_;refine qaR ?_;refine zD (n:=4) (y:=incW (addW y y)) rfl rfl ?_
      exact Nx ((k+1,addW x x,incW (addW y y),subW X b)) (by first|exact zcD hinv hb hXl (by omega) hX (.inl g49)|exact zcD hinv hb hXl (by omega) hX (.inr ht54)|exact dv_nextB hinv hXl (by omega) hX g49 ht54) (by show 256-(k+1)<256-k;omega)
     ·
      refine qb3 ?_
      exact Nx ((k+1,addW x x,addW y y,X)) (by first|exact zcD hinv hb hXl (by omega) hX (.inl g49)|exact zcD hinv hb hXl (by omega) hX (.inr ht54)|exact dv_nextB hinv hXl (by omega) hX g49 ht54) (by show 256-(k+1)<256-k;omega)
   ·
    refine CS ?_;refine CQ ?_;refine zD (n:=6) (y:=X) rfl (by rw [hX];unfold dvX;first|(rw [if_pos ht29];rfl)|(rw [if_neg ht29])) ?_;refine CR ?_;refine qck ?_;refine A0 (oCl (zcA x x) rfl fn_197 ⟨(zd rfl),(zd rfl),trivial⟩) ?_;refine A0 mX ?_;refine A0 (by first|exact zW rfl rfl|exact zU rfl rfl) ?_;refine A0 (by first|exact zY rfl rfl|exact zX rfl rfl) ?_;refine qae ?_;refine CNQR ?_;refine qck ?_;refine A0 (oCl (zcA y y) rfl fn_197 ⟨(zd rfl),(zd rfl),trivial⟩) ?_;refine A0 mX ?_;refine A0 (by first|exact zW rfl rfl|exact zU rfl rfl) ?_
    refine A0 (by first|exact zY rfl rfl|exact zX rfl rfl) ?_;refine qae ?_;refine CNQR ?_;refine qau ?_;refine qae ?_;refine qbx ?_;refine A0 oN ?_;refine qar ?_;refine zaa (d:=49) (p:=addOk z z=false) rfl (by cases addOk z z<;>rfl) (fun g49=>?_) (fun g49=>?_)
    ·
     refine qaJ ?_;refine qaq ?_;refine Ct ?_;refine CQR ?_;refine qck ?_;refine A0 (oCl (rsubW_ok X b) rfl fn_259 ⟨(zd rfl),(zd rfl),trivial⟩) ?_;refine A0 mX ?_;refine A0 (by first|exact zW rfl rfl|exact zU rfl rfl) ?_;refine A0 (by first|exact zY rfl rfl|exact zX rfl rfl) ?_;refine qae ?_;refine CNR ?_;refine A0 (zt (i:=0) rfl rfl rfl (by first|omega|rfl) zag (by omega)) ?_;refine A0 (zl rfl rfl rfl (Lens.elem (i:=0) (by omega) u64T) zav) ?_;refine A0 (zcV rfl rfl rfl) ?_;refine A0 (zt (i:=0) rfl rfl rfl (by first|omega|rfl) zag (by omega)) ?_
     refine zh rfl rfl rfl rfl rfl (Lens.elem (i:=0) (by omega) u64T) zav rfl ?_;refine qaR ?_;refine zD (n:=4) (y:=incW (addW y y)) rfl rfl ?_
     exact Nx ((k+1,addW x x,incW (addW y y),subW X b)) (by first|exact zcD hinv hb hXl (by omega) hX (.inl g49)|exact zcD hinv hb hXl (by omega) hX (.inr ht54)|exact dv_nextB hinv hXl (by omega) hX g49 ht54) (by show 256-(k+1)<256-k;omega)
    ·
     refine A1 (oLs rfl rfl rfl zZ) ?_;refine A1 (oLs rfl rfl rfl zZ) ?_;refine A1 (oCl (rcmpW_ok _ _) rfl fn_148 ⟨(zd rfl),(zd rfl),trivial⟩) ?_;refine A1 zez ?_;refine qaq ?_;refine Cf (p:=0≤cmpW X b) (fun ht54=>?_) (fun ht54=>?_)
     ·
      refine CQR ?_;refine qck ?_;refine A0 (oCl (rsubW_ok X b) rfl fn_259 ⟨(zd rfl),(zd rfl),trivial⟩) ?_;refine A0 mX ?_;refine A0 (by first|exact zW rfl rfl|exact zU rfl rfl) ?_;refine A0 (by first|exact zY rfl rfl|exact zX rfl rfl) ?_;refine qae ?_;refine CNR ?_;refine A0 (zt (i:=0) rfl rfl rfl (by first|omega|rfl) zag (by omega)) ?_;refine A0 (zl rfl rfl rfl (Lens.elem (i:=0) (by omega) u64T) zav) ?_;refine A0 (zcV rfl rfl rfl) ?_;refine A0 (zt (i:=0) rfl rfl rfl (by first|omega|rfl) zag (by omega)) ?_
      refine zh rfl rfl rfl rfl rfl (Lens.elem (i:=0) (by omega) u64T) zav rfl ?_;refine qaR ?_;refine zD (n:=4) (y:=incW (addW y y)) rfl rfl ?_
      exact Nx ((k+1,addW x x,incW (addW y y),subW X b)) (by first|exact zcD hinv hb hXl (by omega) hX (.inl g49)|exact zcD hinv hb hXl (by omega) hX (.inr ht54)|exact dv_nextB hinv hXl (by omega) hX g49 ht54) (by show 256-(k+1)<256-k;omega)
     ·
      refine qb3 ?_
      exact Nx ((k+1,addW x x,addW y y,X)) (by first|exact zcD hinv hb hXl (by omega) hX (.inl g49)|exact zcD hinv hb hXl (by omega) hX (.inr ht54)|exact dv_nextB hinv hXl (by omega) hX g49 ht54) (by show 256-(k+1)<256-k;omega)
  ·
   refine CE ?_;refine CQ ?_;refine zx [some 1,some 1000001,none,none,some 1] mixed (by decide +kernel) ?_;refine qbI ?_;refine XK.gf (t:=8) rfl rfl (fun _ he=>zl rfl rfl he (Lens.self _) zZ) ⟨hpB rfl rfl,trivial⟩ rfl rfl rfl ?_;refine XK.e (x:=.idk) (fun fr' hfr kk H=>by exact zh rfl rfl rfl ((hfr 4 (by decide +kernel)).trans rfl) rfl (Lens.self _) zZ ((hfr 65 (by decide +kernel)).trans rfl) (zz H)) ?_
   refine XK.e (x:=.idk) (fun fr' hfr kk H=>by exact zh rfl rfl rfl ((hfr 5 (by decide +kernel)).trans rfl) rfl (Lens.self _) zZ ((hfr 66 (by decide +kernel)).trans rfl) (zz H)) ?_;refine X0 aV ?_;refine XK.nilp ⟨⟨hpB rfl rfl,hpB rfl rfl,trivial⟩,trivial⟩ ?_
   exact zfq rfl rfl (zw rfl rfl zZ (by rw [←(dv_all ha hb ht14).1,show 256=k by omega,hinv.2.1])) (zw rfl rfl zZ (by rw [←(dv_all ha hb ht14).2,show 256=k by omega,hinv.2.1])) (zac (za rfl (by unfold divOk;symm;exact decide_eq_true ht14)))
theorem rworkW_ok (t:Wide):Tells P 209 [.val wideT t] (.val wideT (workW t)):=by
 refine zc Tryz.func209 rfl rfl rfl (fun ext w hext=>?_)
 refine ze (d:=0) rfl zaw (fun ha=>?_)
 refine qad ?_;refine qas ?_;refine CNQR ?_;refine A0 (zfg (T:=u64T) (xs:=[_,_,_,_]) rfl zag zcO ⟨rfl,rfl,rfl,rfl,rfl,rfl,rfl,rfl,trivial⟩ rfl) ?_;refine qcm ?_;refine CNQ ?_;refine zx [some 1000001,some 1000001,some 1000001,some 1000001,some 1000001,some 1000001,none,none,some 1] mixed (by decide +kernel) ?_;refine XK.gf (t:=1) rfl rfl (fun _ he=>zl rfl rfl he (Lens.self _) zZ) ⟨hpB rfl rfl,trivial⟩ rfl rfl rfl ?_;refine XK.ga (fun _=>zb5 (rofW_ok 1) rfl fn_147 ⟨(zd rfl),trivial⟩ rfl) rfl rfl rfl ?_
 refine XK.ga (fun _=>zb5 (zcA t (ofW 1)) rfl fn_197 ⟨(zd rfl),(zd rfl),trivial⟩ rfl) rfl rfl rfl ?_;refine XK.ga (fun _=>by first|exact g_mv (.inl rfl) rfl|exact g_mp (.inl rfl) rfl|exact g_mo (.inl rfl) rfl|exact g_ml (.inl rfl) rfl|exact g_mc (.inl rfl) rfl|exact g_mr (.inl rfl) rfl|exact g_mf1 (.inl rfl) rfl|exact g_mf2 (.inl rfl) rfl|exact g_mw (.inl rfl) rfl|exact g_me (.inl rfl) rfl|exact g_ms (.inl rfl) rfl|exact zeR (.inl rfl) rfl|exact zeQ (.inl rfl) rfl|exact g_mi (.inl rfl) rfl) rfl rfl rfl ?_
 refine XK.ga (fun _=>by first|exact zW rfl rfl|exact zU rfl rfl) rfl rfl rfl ?_;refine XK.ga (fun _=>by first|exact zY rfl rfl|exact zX rfl rfl) rfl rfl rfl ?_;refine XK.e (fun fr' hfr kk H=>by exact zI zcO rfl rfl rfl rfl (zz H)) ?_;refine XK.e (x:=.idk) (fun fr' hfr kk H=>by exact zh rfl rfl rfl ((hfr 4 (by decide +kernel)).trans rfl) rfl (Lens.self _) zZ ((hfr 16 (by decide +kernel)).trans rfl) (zz H)) ?_;refine X0 aV ?_;refine XK.nilp ⟨⟨hpB rfl rfl,hpB rfl rfl,trivial⟩,trivial⟩ ?_;refine qa9 ?_;refine qaE ?_
 refine zj (p:=¬addOk t (ofW 1)=true) rfl (by cases addOk t (ofW 1)<;>rfl) (fun ht19=>?_) (fun ht19=>?_)
 ·
  refine CQR ?_;refine A0 (oCl (rofW_ok 1) rfl fn_147 ⟨(zd rfl),trivial⟩) ?_;refine qae ?_;refine CN ?_
  exact zu rfl rfl rfl rfl zZ (by unfold workW;rw [if_neg ht19])
 ·
  refine CSQR ?_;refine qck ?_;refine A0 (oCl (rdivW_ok allW (addW t (ofW 1))) rfl fn_234 ⟨(zd rfl),(zd rfl),trivial⟩) ?_;refine A0 mX ?_;refine A0 (by first|exact zW rfl rfl|exact zU rfl rfl) ?_;refine A0 (by first|exact zY rfl rfl|exact zX rfl rfl) ?_;refine A0 e32 ?_;refine qas ?_;refine qcm ?_;refine qae ?_;refine qaA ?_;refine zx [some 1000001,some 1000001,some 1000001,some 1000001,some 1000001,some 1000001,none,none,some 1] mixed (by decide +kernel) ?_;refine XK.gf (t:=7) rfl rfl (fun _ he=>zl rfl rfl he (Lens.self _) zZ) ⟨hpB rfl rfl,trivial⟩ rfl rfl rfl ?_
  refine XK.ga (fun _=>zb5 (rofW_ok 1) rfl fn_147 ⟨(zd rfl),trivial⟩ rfl) rfl rfl rfl ?_;refine XK.ga (fun _=>zb5 (zcA (remW allW (addW t (ofW 1))) (ofW 1)) rfl fn_197 ⟨(zd rfl),(zd rfl),trivial⟩ rfl) rfl rfl rfl ?_
  refine XK.ga (fun _=>by first|exact g_mv (.inl rfl) rfl|exact g_mp (.inl rfl) rfl|exact g_mo (.inl rfl) rfl|exact g_ml (.inl rfl) rfl|exact g_mc (.inl rfl) rfl|exact g_mr (.inl rfl) rfl|exact g_mf1 (.inl rfl) rfl|exact g_mf2 (.inl rfl) rfl|exact g_mw (.inl rfl) rfl|exact g_me (.inl rfl) rfl|exact g_ms (.inl rfl) rfl|exact zeR (.inl rfl) rfl|exact zeQ (.inl rfl) rfl|exact g_mi (.inl rfl) rfl) rfl rfl rfl ?_;refine XK.ga (fun _=>by first|exact zW rfl rfl|exact zU rfl rfl) rfl rfl rfl ?_;refine XK.ga (fun _=>by first|exact zY rfl rfl|exact zX rfl rfl) rfl rfl rfl ?_
  refine XK.e (fun fr' hfr kk H=>by exact zI zcO rfl rfl rfl rfl (zz H)) ?_;refine XK.e (x:=.idk) (fun fr' hfr kk H=>by exact zh rfl rfl rfl ((hfr 9 (by decide +kernel)).trans rfl) rfl (Lens.self _) zZ ((hfr 32 (by decide +kernel)).trans rfl) (zz H)) ?_;refine X0 aV ?_;refine XK.nilp ⟨⟨hpB rfl rfl,hpB rfl rfl,trivial⟩,trivial⟩ ?_;refine CQQR ?_;refine qck ?_;refine A0 (zcM rfl rfl rfl (eqt_35)) ?_;refine CN ?_;refine zj (p:=addW (remW allW (addW t (ofW 1))) (ofW 1)=addW t (ofW 1)) rfl (by simp) (fun ht36=>?_) (fun ht36=>?_)
  ·
   refine zx [some 1,some 1,some 1,some 1,some 1,some 1000001,none] mixed (by decide +kernel) ?_;refine qbI ?_;refine X0 (oCl (rofW_ok 1) rfl fn_147 ⟨(zd rfl),trivial⟩) ?_;refine X0 (oCl (zcA (divW allW (addW t (ofW 1))) (ofW 1)) rfl fn_197 ⟨(zd rfl),(zd rfl),trivial⟩) ?_;refine X0 mX ?_;refine X0 (by first|exact zW rfl rfl|exact zU rfl rfl) ?_;refine XK.ga (fun _=>by first|exact zY rfl rfl|exact zX rfl rfl) rfl rfl rfl ?_
   refine XK.e (x:=.idk) (fun fr' hfr kk H=>by exact zh rfl rfl rfl ((hfr 6 (by decide +kernel)).trans rfl) rfl (Lens.self _) zZ ((hfr 41 (by decide +kernel)).trans rfl) (zz H)) ?_;refine XK.nil' ?_;refine qba ?_
   exact zu rfl rfl rfl rfl zZ ((rwork_eq ha (Classical.not_not.1 ht19)).1 ht36)
  ·
   refine CSQR ?_;refine qau ?_;refine qae ?_;refine CN ?_
   exact zu rfl rfl rfl rfl zZ ((rwork_eq ha (Classical.not_not.1 ht19)).2 ht36)
theorem rheadWork_ok (h:Head):Tells P 163 [.val headT h] (.val wideT (headWork h)):=by
 refine zc Tryz.func163 rfl rfl rfl (fun ext w hext=>?_)
 refine qad ?_;refine qas ?_;refine CNQR ?_;refine A0 (oFp zbk) ?_;refine A0 (oLb zad z8) ?_;refine A0 (oCl (rtarget_ok h.bits) rfl fn_92 ⟨(zd rfl),trivial⟩) ?_;refine A0 mX ?_;refine A0 (by first|exact zW rfl rfl|exact zU rfl rfl) ?_;refine A0 (by first|exact zY rfl rfl|exact zX rfl rfl) ?_;refine qcm ?_;refine qah ?_;refine qaE ?_;refine zj (p:=¬tgtOk h.bits=true) rfl (by cases tgtOk h.bits<;>rfl) (fun ht12=>?_) (fun ht12=>?_)
 ·
  refine CQR ?_;refine A0 (zaA rfl zag zcO rfl) ?_;refine qae ?_;refine CN ?_
  exact zu rfl rfl rfl rfl zZ (by unfold headWork;rw [if_neg ht12]<;>rfl)
 ·
  refine CSQR ?_;refine qau ?_;refine A0 (oCl (rworkW_ok (tgtW h.bits)) rfl fn_209 ⟨(zd rfl),trivial⟩) ?_;refine qae ?_;refine CN ?_
  exact zu rfl rfl rfl rfl zZ (by unfold headWork;rw [if_pos (Classical.not_not.1 ht12)])
set_option maxRecDepth 20000
theorem rputHead_ok (h:Head):Tells P 90 [.val headT h] (.tup2 (.fresh 5 u8T (headBytes h)) (.val boolT (hOk h))):=by
 refine zc Tryz.func90 rfl rfl rfl (fun ext w hext=>?_)
 refine ze (d:=0) rfl zeU (fun hf=>?_)
 obtain ⟨hf1,hf2,hf3,hf4,hf5⟩:=hf
 have hbl:=zcl h.work
 have hn1:=zN (u64OfI (IntL.toI i64T h.height)) 4
 have hn2:=zN (u64OfI (IntL.toI u32T h.bits)) 4
 have hn3:=zN h.nonce 8
 refine qbi ?_;refine qbB ?_;refine qaZ ?_;refine A0 zbh ?_;refine qar ?_;refine Sp (d:=9) (p:=h.height<0) (fun g9=>?_) (fun g9=>?_)
 ·
  refine qbA ?_;refine Ct ?_;refine qay ?_;refine qab ?_
  exact z7 rfl rfl (by have hE:hOk h=false:=decide_eq_false (by omega);unfold headBytes;rw [hE,if_neg (by decide)];exact zH rfl) (za rfl (decide_eq_false (by omega)).symm)
 ·
  refine A1 (oFp zbH) ?_;refine A1 (oLb zS ty_3) ?_;refine A1 zbb ?_;refine qaq ?_;refine Cf (p:=1048576<h.height) (fun ht13=>?_) (fun ht13=>?_)
  ·
   have hE:hOk h=false:=decide_eq_false (by omega)
   refine qay ?_;refine qab ?_
   exact z7 rfl rfl (by have hE:hOk h=false:=decide_eq_false (by omega);unfold headBytes;rw [hE,if_neg (by decide)];exact zH rfl) (za rfl (decide_eq_false (by omega)).symm)
  ·
   refine CSQR ?_;refine A0 (oFp fd_38_5) ?_;refine A0 (oLb zcJ zZ) ?_;refine A0 (oCl (rbytesW_ok _) rfl fn_143 ⟨(zd rfl),trivial⟩) ?_;refine qa8 ?_;refine qap ?_;refine CNQ ?_;refine zbe (d:=1) rfl rfl (Lens.self _) ?_;refine zbe (d:=4) rfl rfl (Lens.self _) ?_;refine CR ?_;refine A0 (oFr zbH zS) ?_;refine qb6 ?_;refine A0 (zcr rfl (ui_33) (us_3) rfl) ?_;refine zaE (rbin_ok (u64OfI (IntL.toI i64T h.height)) 4 (by decide)) rfl fn_144 ⟨(zd rfl),(zd rfl),trivial⟩ rfl rfl rfl ?_;refine qaT ?_;refine A0 (oFr zcX zaO) ?_
   refine A0 (zae rfl rfl za5 rfl rfl) ?_;refine zn rfl rfl rfl rfl rfl rfl rfl zR (by simp [hf1,hf2,hf3,hf4,hbl,hn1,hn2,hn3]) ?_;refine qaT ?_;refine A0 (oFr zcW zaC) ?_;refine A0 (zae rfl rfl za5 rfl rfl) ?_;refine zn rfl rfl rfl rfl rfl rfl rfl zR (by simp [hf1,hf2,hf3,hf4,hbl,hn1,hn2,hn3]) ?_;refine qaT ?_;refine A0 (oFr zeE zcm) ?_;refine A0 (zae rfl rfl za5 rfl rfl) ?_;refine zn rfl rfl rfl rfl rfl rfl rfl zR (by simp [hf1,hf2,hf3,hf4,hbl,hn1,hn2,hn3]) ?_;refine qaT ?_;refine A0 (oFr zeD zbY) ?_
   refine A0 (zae rfl rfl za5 rfl rfl) ?_;refine zn rfl rfl rfl rfl rfl rfl rfl zR (by simp [hf1,hf2,hf3,hf4,hbl,hn1,hn2,hn3]) ?_;refine qaT ?_;refine A0 (zae rfl rfl za5 rfl rfl) ?_;refine zn rfl rfl rfl rfl rfl rfl rfl zR (by simp [hf1,hf2,hf3,hf4,hbl,hn1,hn2,hn3]) ?_;refine qaT ?_;refine qbS ?_;refine A0 (zcr rfl (ui_33) (us_36) rfl) ?_;refine zaE (rbin_ok (u64OfI (IntL.toI u32T h.bits)) 4 (by decide)) rfl fn_144 ⟨(zd rfl),(zd rfl),trivial⟩ rfl rfl rfl ?_;refine aw_pub (d:=44) rfl rfl ?_
   refine zn rfl rfl rfl rfl rfl rfl rfl zR (by simp [hf1,hf2,hf3,hf4,hbl,hn1,hn2,hn3]) ?_;refine qaT ?_;refine A0 (oFr zeC zbG) ?_;refine A0 (zf rfl rfl zav) ?_;refine zaE (rbin_ok h.nonce 8 (by decide)) rfl fn_144 ⟨(by first|exact zq rfl|exact zC rfl|exact zy rfl rfl|exact zA rfl|exact zr rfl|exact zL rfl rfl|exact zB rfl),(zd rfl),trivial⟩ rfl rfl rfl ?_;refine aw_pub (d:=49) rfl rfl ?_;refine zn rfl rfl rfl rfl rfl rfl rfl zR (by simp [hf1,hf2,hf3,hf4,hbl,hn1,hn2,hn3]) ?_;refine A0 aO ?_;refine qab ?_
   exact z7 rfl rfl (zg rfl rfl (by have hE:hOk h=true:=decide_eq_true (by omega);unfold headBytes;rw [if_pos hE];unfold putHead;simp)) (za rfl (decide_eq_true (by omega)).symm)
theorem zdf (h:Head):Tells P 51 [.val headT h] (.val idT (headId h)):=by
 refine zc Tryz.func51 rfl rfl rfl (fun ext w hext=>?_)
 refine ze (d:=0) rfl zeU (fun hh=>?_)
 obtain ⟨hh1,hh2,hh3,hh4,hh5⟩:=hh
 refine qad ?_;refine qa8 ?_;refine CNQR ?_;refine qb1 ?_;refine A0 (oCl (zcg (rputHead_ok h)) rfl fn_90 ⟨(zd rfl),trivial⟩) ?_;refine A0 mX ?_;refine A0 (by first|exact zW rfl rfl|exact zU rfl rfl) ?_;refine A0 (by first|exact zY rfl rfl|exact zX rfl rfl) ?_;refine A0 aV ?_;refine qah ?_;refine qaE ?_;refine zj (p:=¬hOk h=true) rfl (by cases hOk h<;>rfl) (fun ht11=>?_) (fun ht11=>?_)
 ·
  refine CQR ?_;refine A0 (zaA rfl za5 ze_32 rfl) ?_;refine qbz ?_
  exact zu rfl rfl rfl rfl zM (by unfold headId;rw [if_neg ht11]<;>rfl)
 ·
  refine CSQR ?_;refine A0 (zo (T:=u8T) (xs:=[_]) rfl zaW zR ⟨rfl,rfl,trivial⟩ rfl rfl) ?_;refine aw_lend (S:=bsl u8T) (d:=13) rfl ?_;refine qar ?_;refine aw_lend (S:=bsl u8T) (d:=14) rfl ?_;refine A0 (zo (T:=(bsl u8T)) (xs:=[_,_]) rfl zdF zde ⟨rfl,rfl,rfl,rfl,trivial⟩ rfl rfl) ?_;refine A0 (oCl (rof_ok [[5],headBytes h] (by unfold headBytes;split<;>simp [putHead,hh1,hh2,hh3,hh4,zcl,zN])) rfl fn_91 ⟨(zd rfl),trivial⟩) ?_;refine qbz ?_
  exact zu rfl rfl rfl rfl zM (by unfold headId headBytes;rw [if_pos (Classical.not_not.1 ht11),if_pos (Classical.not_not.1 ht11)];simp)
set_option maxRecDepth 20000
def lnkN (l:List Ab.Id) (id:Ab.Id) (k:Nat):List Ab.Id:=l.take 1++List.replicate (k-1) id++l.drop k
theorem lnk_get {l:List Ab.Id} {id:Ab.Id} {k:Nat} (hl:1≤l.length) (hk:1≤k) (j:Nat):(lnkN l id k)[j]?=if j=0 then l[0]? else if j<k then some id else l[j]?:=by
  have ht:(l.take 1).length=1:=by rw [List.length_take];omega
  unfold lnkN
  rw [List.append_assoc]
  by_cases c:j=0
  · rw [if_pos c,c,List.getElem?_append_left (by omega),List.getElem?_take,if_pos (by decide)]
  · rw [if_neg c,List.getElem?_append_right (by omega),ht]
    by_cases d:j<k
    · rw [if_pos d,List.getElem?_append_left (by rw [List.length_replicate];omega),List.getElem?_replicate,if_pos (by omega)]
    · rw [if_neg d,List.getElem?_append_right (by rw [List.length_replicate];omega),List.length_replicate,List.getElem?_drop]
      congr 1;omega
theorem lnk_len {l:List Ab.Id} {id:Ab.Id} {k:Nat} (hl:1≤l.length) (hk:1≤k):(lnkN l id k).length=max k l.length:=by
  unfold lnkN;simp only [List.length_append,List.length_take,List.length_replicate,List.length_drop];omega
theorem lnk_app {l:List Ab.Id} {id:Ab.Id} {k:Nat} (hl:1≤l.length) (hk:1≤k) (h:k=(lnkN l id k).length):(lnkN l id k++[id]).set k id=lnkN l id (k+1):=by
  have hlen:=lnk_len (id:=id) hl hk
  apply List.ext_getElem?
  intro j
  rw [lnk_get hl (by omega),List.getElem?_set]
  by_cases c:k=j
  · rw [if_pos c,if_pos (by rw [List.length_append,List.length_singleton];omega),if_neg (by omega),if_pos (by omega)]
  · rw [if_neg c]
    by_cases d:j<k
    · rw [List.getElem?_append_left (by omega),lnk_get hl hk]
      by_cases e:j=0
      · rw [if_pos e,if_pos e]
      · rw [if_neg e,if_neg e,if_pos d,if_pos (by omega)]
    · rw [List.getElem?_eq_none (by rw [List.length_append,List.length_singleton];omega),if_neg (by omega),if_neg (by omega),List.getElem?_eq_none (by omega)]
theorem lnk_set {l:List Ab.Id} {id:Ab.Id} {k:Nat} (hl:1≤l.length) (hk:1≤k) (h:¬k=(lnkN l id k).length):(lnkN l id k).set k id=lnkN l id (k+1):=by
  have hlen:=lnk_len (id:=id) hl hk
  apply List.ext_getElem?
  intro j
  rw [lnk_get hl (by omega),List.getElem?_set]
  by_cases c:k=j
  · rw [if_pos c,if_pos (by omega),if_neg (by omega),if_pos (by omega)]
  · rw [if_neg c,lnk_get hl hk]
    by_cases e:j=0
    · rw [if_pos e,if_pos e]
    · rw [if_neg e,if_neg e]
      by_cases d:j<k
      · rw [if_pos d,if_pos (by omega)]
      · rw [if_neg d,if_neg (by omega)]
theorem lnk_one {l:List Ab.Id} {id:Ab.Id}:lnkN l id 1=l:=by unfold lnkN;rw [Nat.sub_self,List.replicate_zero,List.append_nil,List.take_append_drop]
theorem lnk_end {l:List Ab.Id} {id:Ab.Id} {level:Int} {k:Nat} (h1:¬32<l.length) (h2:¬l.length=0) (hk:1≤k) (hk2:k=1∨(k:Int)≤level+1) (hk3:k≤32) (h:¬((k:Int)≤level∧k≤31)):lnkN l id k=linkNext l id level:=by
  unfold linkNext
  rw [if_neg h1,if_neg h2]
  by_cases c:level<1
  · rw [if_pos c,show k=1 by omega,lnk_one]
  · rw [if_neg c]
    obtain ⟨m,hm⟩:∃m,m=(min level 31).toNat:=⟨_,rfl⟩
    rw [←hm,show k=m+1 by omega]
    unfold lnkN;rw [Nat.add_sub_cancel]
theorem rlinkNext_ok (l:List Ab.Id) (id:Ab.Id) (level:Int):Tells P 200 [.val (bsl idT) l,.val idT id,.val i64T level] (.fresh 32 idT (linkNext l id level)):=by
 refine zc Tryz.func200 rfl rfl rfl (fun ext w hext=>?_)
 refine ze (d:=0) rfl zi (fun hsl0=>?_)
 refine ze (d:=2) rfl zQ (fun hin2=>?_)
 refine qbi ?_;refine CNQQR ?_;refine qa6 ?_;refine qcb ?_;refine Cf (p:=32<l.length) (fun ht11=>?_) (fun ht11=>?_)
 ·
  refine qay ?_;refine CN ?_
  exact zb rfl rfl (by unfold linkNext;rw [if_pos ht11];exact zH rfl)
 ·
  refine CSQQR ?_;refine qa6 ?_;refine A0 zbU ?_;refine CN ?_;refine Cf (p:=l.length=0) (fun ht14=>?_) (fun ht14=>?_)
  ·
   refine CQR ?_;refine qaN ?_;refine zaN (T:=idT) (xs:=[_]) rfl rfl rfl rfl zak zbI ⟨rfl,rfl,trivial⟩ rfl rfl ?_;refine qbe ?_
   exact zb rfl rfl (zg rfl rfl (by unfold linkNext;rw [if_neg ht11,if_pos ht14]))
  ·
   refine qbG ?_;refine zcN rfl rfl rfl rfl rfl rfl zbI (by first|omega|(rw [lnk_len (by omega) hinv.1];simp;omega)) ?_;refine A0 aO ?_;refine qax ?_;refine zK (n:=1) (y:=lnkN l id 1) rfl lnk_one.symm ?_;refine Lp (ι:=Nat) 2 (fun (k:Nat)=>((((Fr.none).set 2 (.val i64T level)).set 4 (.ptr 0 0)).set 7 (.own 1)).set 8 (.val i64T (k:Int))) (fun (k:Nat)=>((Hp.none).set 0 (.box 32 idT id)).set 1 (.row 32 idT (lnkN l id k))) (fun (k:Nat)=>1≤k∧(k=1∨(k:Int)≤level+1)∧k≤32) (fun (k:Nat)=>32-k) (1) (⟨Nat.le_refl _,.inl rfl,by decide⟩) ?_
   intro k hinv
   refine qbg ?_;refine A0 zey ?_;refine qar ?_;refine Sp (d:=22) (p:=(k:Int)≤level) (fun g22=>?_) (fun g22=>?_)
   ·
    refine A1 mV ?_;refine A1 zey ?_;refine qaq ?_;refine Cf (p:=k≤31) (fun ht25=>?_) (fun ht25=>?_)
    ·
     have hll:=lnk_len (l:=l) (id:=id) (k:=k) (by omega) hinv.1
     refine qa4 ?_;refine qa9 ?_;refine A0 mO ?_;refine A0 (zaY rfl rfl rfl zaJ) ?_;refine A0 zbU ?_;refine CN ?_;refine Cf (p:=k=(lnkN l id k).length) (fun ht31=>?_) (fun ht31=>?_)
     ·
      obtain ⟨o,ho⟩:∃o,(lnkN l id k++[id])[k]?=some o:=⟨_,List.getElem?_eq_getElem (by rw [List.length_append,List.length_singleton];omega)⟩
      refine CR ?_;refine A0 mO ?_;refine qaN ?_;refine A0 (zo (T:=idT) (xs:=[_]) rfl zak zbI ⟨rfl,rfl,trivial⟩ rfl rfl) ?_;refine zn rfl rfl rfl rfl rfl rfl rfl zbI (by first|omega|(rw [lnk_len (by omega) hinv.1];simp;omega)) ?_;refine A0 aO ?_;refine CNR ?_;refine A0 mO ?_;refine qar ?_;refine qaN ?_;refine A0 (zas (i:=k) rfl rfl rfl rfl (by first|omega|rfl) zak (by first|assumption|omega|(simp;omega))) ?_;refine zdl rfl rfl rfl rfl rfl rfl (by assumption) (Lens.self _) zM rfl ?_;refine qaR ?_;refine zaB 2 1 3 rfl rfl rfl rfl rfl rfl ?_
      refine zK (n:=1) (y:=lnkN l id (k+1)) rfl (lnk_app (by omega) hinv.1 ht31) ?_
      exact Nx (k+1) (⟨by omega,.inr (by omega),by omega⟩) (by omega)
     ·
      obtain ⟨o,ho⟩:∃o,(lnkN l id k)[k]?=some o:=⟨_,List.getElem?_eq_getElem (by omega)⟩
      refine CS ?_;refine CR ?_;refine A0 mO ?_;refine qar ?_;refine qaN ?_;refine A0 (zas (i:=k) rfl rfl rfl rfl (by first|omega|rfl) zak (by first|assumption|omega|(simp;omega))) ?_;refine zdl rfl rfl rfl rfl rfl rfl (by assumption) (Lens.self _) zM rfl ?_;refine qaR ?_;refine zK (n:=1) (y:=lnkN l id (k+1)) rfl (lnk_set (by omega) hinv.1 ht31) ?_
      exact Nx (k+1) (⟨by omega,.inr (by omega),by omega⟩) (by omega)
    ·
     refine qat ?_
     exact zb rfl rfl (zg rfl rfl (lnk_end ht11 ht14 hinv.1 hinv.2.1 hinv.2.2 (by omega)))
   ·
    refine qcc ?_;refine Cg ?_;refine qat ?_
    exact zb rfl rfl (zg rfl rfl (lnk_end ht11 ht14 hinv.1 hinv.2.1 hinv.2.2 (by omega)))
set_option maxRecDepth 20000
theorem mul_or {x:UInt64} {y:UInt8}:256*x+u64OfI (IntL.toI u8T y)=shl64 x 8|||u64OfI (IntL.toI u8T y):=by
  have hx:x.toNat<18446744073709551616:=x.toNat_lt
  have hy:y.toNat<256:=y.toNat_lt
  have e:(u64OfI (IntL.toI u8T y)).toNat=y.toNat:=by
    unfold u64OfI
    show (UInt64.ofNat (((y.toNat:Nat):Int)%18446744073709551616).toNat).toNat=y.toNat
    rw [UInt64.toNat_ofNat_of_lt' (by show _<18446744073709551616;omega)];omega
  apply UInt64.toNat_inj.1
  rw [UInt64.toNat_or,shl_n (by decide),e,UInt64.toNat_add,UInt64.toNat_mul,e,show (256:UInt64).toNat=256 from rfl]
  have e2:x.toNat*2^8%18446744073709551616=x.toNat%72057594037927936*2^8:=by omega
  rw [e2,or_sum (by omega)]
  omega
theorem rof32W_ok (b:Ab.Id):Tells P 149 [.val idT b] (.val wideT (of32W b)):=by
 refine zc Tryz.func149 rfl rfl rfl (fun ext w hext=>?_)
 refine ze (d:=0) rfl zfl (fun hb=>?_)
 refine qad ?_;refine qas ?_;refine CNQR ?_;refine qas ?_;refine qax ?_;refine Lp (ι:=Nat) 3 (fun (k:Nat)=>((((Fr.none).set 1 (.ptr 0 0)).set 2 (.ptr 1 0)).set 3 (.ptr 2 0)).set 4 (.val i64T (k:Int))) (fun (k:Nat)=>(((Hp.none).set 0 (.box 32 idT b)).set 1 (.box 35 wideT zWide)).set 2 (.box 35 wideT (of32N b k))) (fun (k:Nat)=>k≤32) (fun (k:Nat)=>32-k) (0) (Nat.zero_le _) ?_
 intro k hinv
 refine qa9 ?_;refine qaz ?_;refine Cf (p:=k<32) (fun ht7=>?_) (fun ht7=>?_)
 ·
  refine qaL ?_;refine A0 (g_quo rfl rfl rfl (by first|omega|assumption) (by first|decide|omega) rfl) ?_;refine A0 zay ?_;refine qab ?_;refine zx [some 1,some 1,some 1,some 1,some 1,some 1,some 1,some 1,some 1,some 1,some 1,none] mixed (by decide +kernel) ?_;refine qaP ?_;refine X0 (zt (i:=3-k/8) rfl rfl rfl (by first|omega|rfl) zag (by omega)) ?_;refine X0 (zl rfl rfl rfl (Lens.elem (i:=3-k/8) (by omega) u64T) zav) ?_;refine X0 (g_mul64 rfl rfl rfl) ?_;refine X0 mV ?_;refine X0 (zt (i:=k) rfl rfl rfl (by first|omega|rfl) za5 (by omega)) ?_
  refine X0 (zl rfl rfl rfl (Lens.elem (i:=k) (by omega) u8T) ty_5) ?_;refine X0 (zcr rfl (ui_33) (us_5) rfl) ?_;refine X0 (zcV rfl rfl rfl) ?_;refine X0 (zt (i:=3-k/8) rfl rfl rfl (by first|omega|rfl) zag (by omega)) ?_;refine XK.e (x:=.idk) (fun fr' hfr kk H=>by exact zh rfl rfl rfl ((hfr 23 (by decide +kernel)).trans rfl) rfl (Lens.elem (i:=3-k/8) (by omega) u64T) zav ((hfr 22 (by decide +kernel)).trans rfl) (zz H)) ?_;refine qaQ ?_;refine qaj ?_;refine zD (n:=2) (y:=of32N b (k+1)) rfl (by unfold of32N;rw [zbZ];unfold of32S;rw [←mul_or];rfl) ?_
  exact Nx (k+1) (by omega) (by omega)
 ·
  obtain rfl:k=32:=(by omega)
  refine CE ?_;refine qba ?_
  exact zu rfl rfl rfl rfl zZ (rfl)
set_option maxRecDepth 20000
theorem search_spec {f:Int→Bool} (hm:∀i j:Nat,i≤j→f (i:Int)=true→f (j:Int)=true):∀(n lo hi:Nat),hi-lo=n→lo≤hi→(∀j:Nat,j<searchN f lo hi→lo≤j→f (j:Int)=false)∧(searchN f lo hi<hi→f ((searchN f lo hi:Nat):Int)=true)∧lo≤searchN f lo hi∧searchN f lo hi≤hi:=by
  intro n
  induction n using Nat.strongRecOn with
  | ind n ih =>
    intro lo hi hn hle
    by_cases h:lo<hi
    · by_cases c:f (((lo+hi)/2:Nat):Int)=true
      · rw [search_yes h c]
        obtain ⟨h1,h2,h3,h4⟩:=ih ((lo+hi)/2-lo) (by omega) lo ((lo+hi)/2) rfl (by omega)
        refine ⟨h1,fun _=>?_,h3,by omega⟩
        by_cases d:searchN f lo ((lo+hi)/2)<(lo+hi)/2
        · exact h2 d
        · rw [show searchN f lo ((lo+hi)/2)=(lo+hi)/2 by omega];exact c
      · rw [search_no h c]
        obtain ⟨h1,h2,h3,h4⟩:=ih (hi-((lo+hi)/2+1)) (by omega) ((lo+hi)/2+1) hi rfl (by omega)
        refine ⟨fun j hj hlo=>?_,h2,by omega,h4⟩
        by_cases d:(lo+hi)/2+1≤j
        · exact h1 j hj d
        · cases e:f (j:Int) with
          | false=>rfl
          | true=>exact absurd (hm j _ (by omega) e) c
    · have e:searchN f lo hi=lo:=by rw [searchN,dif_neg h]
      rw [e]
      exact ⟨fun j hj hlo=>by omega,fun hh=>absurd hh h,Nat.le_refl _,hle⟩
def lastLv (x t:Wide):Nat→Int
  | 0=>-1
  | k+1=>if cmpW x (downW t k)≤0 then k else lastLv x t k
theorem levelF_mono {x t:Wide} (hx:x.length=4) (ht:t.length=4) (i j:Nat) (hij:i≤j) (h:levelF x t (i:Int)=true):levelF x t (j:Int)=true:=by
  unfold levelF at *
  rw [decide_eq_true_eq] at *
  by_cases hj:j<256
  · rw [cmpW_n hx (zcZ ht),nW_down ht (by omega)] at h
    rw [cmpW_n hx (zcZ ht),nW_down ht hj]
    have hd:nW t/2^j≤nW t/2^i:=Nat.div_le_div_left (Nat.pow_le_pow_right (by decide) hij) (Nat.two_pow_pos i)
    have h1:nW t/2^i<nW x:=by
      by_cases c:nW x<nW t/2^i
      · rw [if_pos c] at h;exact absurd h (by decide)
      · rw [if_neg c] at h
        by_cases d:nW t/2^i<nW x
        · exact d
        · rw [if_neg d] at h;exact absurd h (by decide)
    rw [if_neg (by omega),if_pos (by omega)];decide
  · have hz:downW t (j:Int)=zWide:=by unfold downW;rw [if_neg (by omega),if_pos (by omega)]
    rw [hz,cmpW_n hx rfl]
    rw [cmpW_n hx (zcZ ht)] at h
    have hz0:nW zWide=0:=rfl
    rw [hz0]
    have h1:nW (downW t (i:Int))<nW x:=by
      by_cases c:nW x<nW (downW t (i:Int))
      · rw [if_pos c] at h;exact absurd h (by decide)
      · rw [if_neg c] at h
        by_cases d:nW (downW t (i:Int))<nW x
        · exact d
        · rw [if_neg d] at h;exact absurd h (by decide)
    rw [if_neg (by omega),if_pos (by omega)];decide
theorem lastLv_s {x t:Wide} {s:Nat} (h1:∀j:Nat,j<s→levelF x t (j:Int)=false) (h2:∀j:Nat,s≤j→j<32→levelF x t (j:Int)=true):∀k,k≤32→lastLv x t k=(min k s:Nat)-1
  | 0,_=>by rw [lastLv];omega
  | k+1,hk=>by
    rw [lastLv,lastLv_s h1 h2 k (by omega)]
    by_cases c:k<s
    · have:=h1 k c
      unfold levelF at this
      rw [decide_eq_false_iff_not] at this
      rw [if_pos (by omega)];omega
    · have:=h2 k (by omega) (by omega)
      unfold levelF at this
      rw [decide_eq_true_eq] at this
      rw [if_neg (by omega)];omega
theorem lastLv_all {id:Ab.Id} {t:Wide} (hx:(of32W id).length=4) (ht:t.length=4):lastLv (of32W id) t 32=levelW id t:=by
  obtain ⟨h1,h2,_,h4⟩:=search_spec (f:=levelF (of32W id) t) (fun i j=>levelF_mono hx ht i j) 32 0 32 rfl (by omega)
  rw [lastLv_s (s:=searchN (levelF (of32W id) t) 0 32) (fun j hj=>h1 j hj (by omega)) (fun j hj hj2=>levelF_mono hx ht _ j hj (h2 (by omega))) 32 (Nat.le_refl _)]
  unfold levelW;omega
theorem of32_len {b:Ab.Id}:(of32W b).length=4:=by
  have h:∀k,(of32N b k).length=4:=fun k=>by
    induction k with
    | zero=>rfl
    | succ k ih=>unfold of32N;rw [zbZ];unfold of32S;rw [List.length_set];exact ih
  exact h 32
theorem rlevelW_ok (id:Ab.Id) (t:Wide):Tells P 93 [.val idT id,.val wideT t] (.val i64T (levelW id t)):=by
 refine zc Tryz.func93 rfl rfl rfl (fun ext w hext=>?_)
 refine ze (d:=1) rfl zaw (fun ht=>?_)
 refine qav ?_;refine qai ?_;refine qbr ?_;refine Lp (ι:=Nat) 2 (fun (k:Nat)=>((((Fr.none).set 2 (.ptr 0 0)).set 3 (.ptr 1 0)).set 5 (.val i64T (lastLv (of32W id) t k))).set 6 (.val i64T (k:Int))) (fun (k:Nat)=>((Hp.none).set 0 (.box 32 idT id)).set 1 (.box 35 wideT t)) (fun (k:Nat)=>k≤32) (fun (k:Nat)=>32-k) (0) (Nat.zero_le _) ?_
 intro k hinv
 refine qa9 ?_;refine A0 zey ?_;refine CN ?_;refine Cf (p:=k≤31) (fun ht8=>?_) (fun ht8=>?_)
 ·
  refine qa4 ?_;refine qa0 ?_;refine G0 (oLs rfl rfl rfl zM) ?_;refine G0 (oCl (rof32W_ok id) rfl fn_149 ⟨(zd rfl),trivial⟩) ?_;refine G0 (oLs rfl rfl rfl zZ) ?_;refine G0 mV ?_;refine G0 (oCl (rdownW_ok t k) rfl fn_150 ⟨(zd rfl),(zd rfl),trivial⟩) ?_;refine G0 (oCl (rcmpW_ok (of32W id) (downW t k)) rfl fn_148 ⟨(zd rfl),(zd rfl),trivial⟩) ?_;refine G0 zey ?_;refine GK.nil ?_;refine Cf (p:=cmpW (of32W id) (downW t k)≤0) (fun ht17=>?_) (fun ht17=>?_)
  ·
   refine CR ?_;refine qar ?_;refine A0 aV ?_;refine qaR ?_;refine zp (d:=5) (y:=lastLv (of32W id) t (k+1)) rfl (by rw [lastLv,if_pos ht17]) ?_
   exact Nx (k+1) (by omega) (by omega)
  ·
   refine qb3 ?_;refine zp (d:=5) (y:=lastLv (of32W id) t (k+1)) rfl (by rw [lastLv,if_neg ht17]) ?_
   exact Nx (k+1) (by omega) (by omega)
 ·
  obtain rfl:k=32:=(by omega)
  refine CE ?_;refine qb8 ?_
  exact zb rfl rfl (za rfl (lastLv_all of32_len ht))
set_option maxRecDepth 20000
theorem ze7 (h:Head):Tells P 52 [.val headT h] (.val i64T (headLevel h)):=by
 refine zc Tryz.func52 rfl rfl rfl (fun ext w hext=>?_)
 refine qad ?_;refine qai ?_;refine qb1 ?_;refine A0 (oCl (zcg (rputHead_ok h)) rfl fn_90 ⟨(zd rfl),trivial⟩) ?_;refine A0 mX ?_;refine A0 (by first|exact zW rfl rfl|exact zU rfl rfl) ?_;refine A0 (by first|exact zY rfl rfl|exact zX rfl rfl) ?_;refine A0 aV ?_;refine qai ?_;refine A0 (oFp zbk) ?_;refine A0 (oLb zad z8) ?_;refine A0 (oCl (rtarget_ok h.bits) rfl fn_92 ⟨(zd rfl),trivial⟩) ?_;refine A0 mX ?_;refine A0 (by first|exact zW rfl rfl|exact zU rfl rfl) ?_;refine A0 (by first|exact zY rfl rfl|exact zX rfl rfl) ?_;refine qcm ?_
 refine qah ?_;refine A0 oN ?_;refine qar ?_;refine zaa (d:=20) (p:=¬hOk h=true) rfl (by cases hOk h<;>rfl) (fun g20=>?_) (fun g20=>?_)
 ·
  refine qcc ?_;refine Ct ?_;refine qam ?_
  exact zb rfl rfl (za rfl (by unfold headLevel;rw [if_neg (fun hc=>g20 hc.2)]))
 ·
  refine A1 mV ?_;refine A1 oN ?_;refine qaq ?_;refine zj (p:=¬tgtOk h.bits=true) rfl (by cases tgtOk h.bits<;>rfl) (fun ht23=>?_) (fun ht23=>?_)
  ·
   refine qam ?_
   exact zb rfl rfl (za rfl (by unfold headLevel;rw [if_neg (fun hc=>ht23 hc.1)]))
  ·
   refine CSQQR ?_;refine qaZ ?_;refine A0 zbU ?_;refine CN ?_;refine Cf (p:=h.height=0) (fun ht26=>?_) (fun ht26=>?_)
   ·
    refine qam ?_
    exact zb rfl rfl (za rfl (by unfold headLevel;rw [if_pos ⟨Classical.not_not.1 ht23,Classical.not_not.1 g20⟩,if_pos ht26]))
   ·
    refine CS ?_;refine qa0 ?_;refine G0 (oLs rfl rfl rfl zao) ?_;refine G0 (oCl (zdf h) rfl fn_51 ⟨(zd rfl),trivial⟩) ?_;refine G0 (oLs rfl rfl rfl zZ) ?_;refine G0 (oCl (rlevelW_ok (headId h) (tgtW h.bits)) rfl fn_93 ⟨(zd rfl),(zd rfl),trivial⟩) ?_;refine qa3 ?_
    exact zb rfl rfl (za rfl (by unfold headLevel;rw [if_pos ⟨Classical.not_not.1 ht23,Classical.not_not.1 g20⟩,if_neg ht26]))
theorem may_eq {h:Head}:decide (0≤headLevel h)=headMay h:=by
  have h2:-1≤headLevel h:=by
    unfold headLevel
    split
    · split
      · decide
      · unfold levelW;omega
    · omega
  unfold headMay
  by_cases c:headLevel h = -1
  · rw [c];rfl
  · rw [decide_eq_true (by omega:0≤headLevel h),decide_eq_false c];rfl
theorem rheadMay_ok (h:Head):Tells P 64 [.val headT h] (.val boolT (headMay h)):=by
 refine zc Tryz.func64 rfl rfl rfl (fun ext w hext=>?_)
 refine qad ?_;refine qai ?_;refine qb1 ?_;refine A0 (oCl (ze7 h) rfl fn_52 ⟨(zd rfl),trivial⟩) ?_;refine A0 zez ?_;refine qab ?_
 exact zb rfl rfl (za rfl may_eq)
set_option maxRecDepth 20000
def withL (c:Coin):Bool→List Coin→List Coin
  | d,[]=>if d=true then [] else [c]
  | d,x::l=>if ordIn c.inn x.inn<0∧¬d=true then c::x::withL c true l else x::withL c d l
theorem withL_true {c:Coin}:∀{l:List Coin},withL c true l=l
  | []=>rfl
  | x::l=>by rw [withL,if_neg (by simp),withL_true]
theorem withL_in {c x:Coin} {d:Bool} {p:List Coin} {k:Nat} (hx:p[k]?=some x) (h:ordIn c.inn x.inn<0) (hd:d=false):withL c d (p.drop k)=c::x::withL c true (p.drop (k+1)):=by
  obtain ⟨hk,rfl⟩:=List.getElem?_eq_some_iff.1 hx
  rw [List.drop_eq_getElem_cons hk,withL,if_pos ⟨h,by simp [hd]⟩]
theorem withL_on {c x:Coin} {d:Bool} {p:List Coin} {k:Nat} (hx:p[k]?=some x) (h:¬(ordIn c.inn x.inn<0∧d=false)):withL c d (p.drop k)=x::withL c d (p.drop (k+1)):=by
  obtain ⟨hk,rfl⟩:=List.getElem?_eq_some_iff.1 hx
  rw [List.drop_eq_getElem_cons hk,withL,if_neg (by simpa using h)]
theorem withL_len {c:Coin}:∀{d:Bool} {l:List Coin},(withL c d l).length≤l.length+1
  | d,[]=>by unfold withL;split<;>simp
  | d,x::l=>by
    unfold withL
    split
    · rw [withL_true];simp
    · have:=withL_len (c:=c) (d:=d) (l:=l);simp;omega
theorem withL_perm {c:Coin}:∀{l:List Coin},(withL c false l).Perm (l++[c])
  | []=>List.Perm.refl _
  | x::l=>by
    unfold withL
    split
    · rw [withL_true]
      exact (List.perm_append_singleton c (x::l)).symm
    · rw [List.cons_append]
      exact List.Perm.cons _ withL_perm
theorem withL_sorted {c:Coin}:∀{l:List Coin},Sorted l→(∀x∈l,ordIn c.inn x.inn≠0)→Sorted (withL c false l)
  | [],_,_=>List.pairwise_singleton _ _
  | x::l,h,ha=>by
    have hl:=List.pairwise_cons.1 h
    unfold withL
    split
    · rename_i h0
      rw [withL_true]
      refine List.pairwise_cons.2 ⟨fun y hy=>?_,h⟩
      rcases List.mem_cons.1 hy with e|hy
      · rw [e];exact h0.1
      · exact zdg h0.1 (hl.1 y hy)
    · rename_i h0
      have hx:ordIn x.inn c.inn<0:=by
        have h1:=ha x List.mem_cons_self
        have h2:=zbr c.inn x.inn
        have h3:¬ordIn c.inn x.inn<0:=fun h=>h0 ⟨h,by simp⟩
        omega
      refine List.pairwise_cons.2 ⟨fun y hy=>?_,withL_sorted hl.2 fun y hy=>ha y (List.mem_cons_of_mem _ hy)⟩
      rcases List.mem_append.1 (withL_perm.mem_iff.1 hy) with hy|hy
      · exact hl.1 y hy
      · simp at hy;rw [hy];exact hx
def withs (p:List Coin) (id:Ab.Id) (outs:List Out) (k:Nat):List Coin:=(newN id outs k).foldl (fun p c=>withL c false p) p
theorem withs_succ {p:List Coin} {id:Ab.Id} {outs:List Out} {k:Nat} {o:Out} (h:outs[k]?=some o):withL ⟨⟨id,(k:Int)⟩,o⟩ false (withs p id outs k)=withs p id outs (k+1):=by
  unfold withs
  have:=newN_succ (id:=id) h []
  simp only [List.nil_append] at this
  rw [←this,List.foldl_append]
  rfl
theorem withs_len {p:List Coin} {id:Ab.Id} {outs:List Out}:∀{k:Nat},k≤outs.length→(withs p id outs k).length≤p.length+k
  | 0,_=>by unfold withs newN;simp
  | k+1,h=>by
    have:=withs_len (p:=p) (id:=id) (outs:=outs) (k:=k) (by omega)
    rw [←withs_succ (List.getElem?_eq_getElem (show k<outs.length by omega))]
    have:=withL_len (c:=⟨⟨id,(k:Int)⟩,outs[k]⟩) (d:=false) (l:=withs p id outs k)
    omega
theorem withs_good {p:List Coin} {id:Ab.Id} {outs:List Out} (hs:Sorted p) (hn:(p.any fun c=>decide (c.inn.tx=id))=false):∀{k:Nat},k≤outs.length→(withs p id outs k).Perm (p++newN id outs k)∧Sorted (withs p id outs k)
  | 0,_=>by unfold withs newN;simp;exact hs
  | k+1,h=>by
    have ho:=List.getElem?_eq_getElem (show k<outs.length by omega)
    obtain ⟨h1,h2⟩:=withs_good (outs:=outs) hs hn (k:=k) (by omega)
    have hap:=apart_new (id:=id) (outs:=outs) (k:=k+1) (Sorted.apart hs) hn
    rw [←newN_succ ho p] at hap ⊢
    rw [←withs_succ ho]
    refine ⟨withL_perm.trans (List.Perm.append_right _ h1),withL_sorted h2 fun x hx=>?_⟩
    have h3:=(List.pairwise_append.1 hap).2.2 x (h1.mem_iff.1 hx) ⟨⟨id,(k:Int)⟩,outs[k]⟩ (by simp)
    have h4:=zbr x.inn (⟨⟨id,(k:Int)⟩,outs[k]⟩:Coin).inn
    omega
theorem withs_made {p:List Coin} {t:Tx} (hs:Sorted p) (hm:(madeOf p t).2=0):withs p (idOf t) t.outs t.outs.length=(madeOf p t).1:=by
  unfold madeOf at hm ⊢
  split
  · rename_i e;rw [if_pos e] at hm;exact absurd hm (by decide)
  · rename_i h
    have hn:(p.any fun c=>decide (c.inn.tx=idOf t))=false:=by simpa using h
    obtain ⟨h1,h2⟩:=withs_good (outs:=t.outs) hs hn (Nat.le_refl _)
    refine sort_unique (apart_new (Sorted.apart hs) hn) h1 ?_
    exact List.Pairwise.imp (fun {a b} h=>by have:=zbr a.inn b.inn;omega) h2
theorem zej {p:List Coin} {t:Tx}:(madeOf p t).2=if (p.any fun c=>decide (c.inn.tx=idOf t))=true then 10 else 0:=by unfold madeOf;split<;>rfl
theorem rwith_ok (p:List Coin) (c:Coin) (hp:p.length≤1000):Tells P 233 [.val (bsl coinT) p,.val coinT c] (.fresh 200 coinT (withL c false p)):=by
 refine zc Tryz.func233 rfl rfl rfl (fun ext w hext=>?_)
 refine ze (d:=0) rfl zi (fun hsl0=>?_)
 refine qbi ?_;refine CNQR ?_;refine A0 aL ?_;refine CNQR ?_;refine qbr ?_;refine za0 (T:=coinT) (d:=5) 200 rfl ?_
 refine Lp (ι:=Nat×List Coin×Bool) 2 (fun (i:Nat×List Coin×Bool)=>match i with|(k,out,d)=>(((((Fr.none).set 0 (.val (bsl coinT) p)).set 3 (.ptr 0 0)).set 5 (.own 1)).set 6 (.val boolT d)).set 7 (.val i64T (k:Int))) (fun (i:Nat×List Coin×Bool)=>match i with|(k,out,d)=>((Hp.none).set 0 (.box 200 coinT c)).set 1 (.row 200 coinT out)) (fun (i:Nat×List Coin×Bool)=>match i with|(k,out,d)=>k≤p.length∧out.length≤2*k∧out++withL c d (p.drop k)=withL c false p) (fun (i:Nat×List Coin×Bool)=>match i with|(k,out,d)=>p.length-k) ((0,[],false)) (⟨Nat.zero_le _,by simp,rfl⟩) ?_
 intro ⟨k,out,d⟩ hinv
 dsimp only at hinv
 refine qbg ?_;refine qcg ?_;refine qaz ?_;refine Cf (p:=k<p.length) (fun ht12=>?_) (fun ht12=>?_)
 ·
  obtain ⟨x,hx⟩:∃x,p[k]?=some x:=⟨_,List.getElem?_eq_getElem ht12⟩
  refine qa4 ?_;refine qa0 ?_;refine G0 (oLs rfl rfl rfl zdq) ?_;refine qaF ?_;refine G0 (zm (i:=k) rfl rfl rfl (by omega) zcP (by assumption)) ?_;refine G0 (zf rfl rfl zdq) ?_;refine G0 (oCl (rbefore_ok _ _) rfl fn_230 ⟨(zd rfl),(by first|exact zq rfl|exact zC rfl|exact zy rfl rfl|exact zA rfl|exact zr rfl|exact zL rfl rfl|exact zB rfl),trivial⟩) ?_
  refine zab (d:=20) (p:=ordIn c.inn x.inn<0) rfl (by first|rfl|(rw [decide_eq_decide];simp only [IntL.toI,id_eq];omega)|(simp [IntL.toI];done)|(simp [IntL.toI];omega)) (fun g20=>?_) (fun g20=>?_)
  ·
   refine qa3 ?_;refine qbg ?_;refine A1 mV ?_;refine A1 oN ?_;refine zaa (d:=24) (p:=d=false) rfl (by cases d<;>rfl) (fun g24=>?_) (fun g24=>?_)
   ·
    refine qaq ?_;refine Ct ?_;refine CQR ?_;refine A0 mO ?_;refine A0 (oLs rfl rfl rfl zdq) ?_;refine A0 (zo (T:=coinT) (xs:=[_]) rfl zcP zcS ⟨rfl,rfl,trivial⟩ rfl rfl) ?_;refine zn rfl rfl rfl rfl rfl rfl rfl zcS (by simp only [List.length_append,List.length_cons,List.length_nil];omega) ?_;refine A0 aO ?_;refine CNR ?_;refine qb2 ?_;refine A0 mO ?_;refine qag ?_;refine A0 (zm (i:=k) rfl rfl rfl (by omega) zcP (by assumption)) ?_;refine A0 (zf rfl rfl zdq) ?_;refine A0 (zo (T:=coinT) (xs:=[_]) rfl zcP zcS ⟨rfl,rfl,trivial⟩ rfl rfl) ?_
    refine zn rfl rfl rfl rfl rfl rfl rfl zcS (by simp only [List.length_append,List.length_cons,List.length_nil];omega) ?_;refine A0 aO ?_;refine qaR ?_;refine zaB 3 1 4 rfl rfl rfl rfl rfl rfl ?_
    exact Nx ((k+1,out++[c]++[x],true)) (by first|exact ⟨by omega,by simp;omega,by rw [←hinv.2.2,withL_in hx g20 g24];simp⟩|exact ⟨by omega,by simp;omega,by rw [←hinv.2.2,withL_on hx (fun h=>g24 h.2)];simp⟩|exact ⟨by omega,by simp;omega,by rw [←hinv.2.2,withL_on hx (fun h=>g20 h.1)];simp⟩) (by show _<p.length-k;simp only [];omega)
   ·
    refine qaq ?_;refine Cg ?_;refine CS ?_;refine CR ?_;refine A0 mO ?_;refine qag ?_;refine A0 (zm (i:=k) rfl rfl rfl (by omega) zcP (by assumption)) ?_;refine A0 (zf rfl rfl zdq) ?_;refine A0 (zo (T:=coinT) (xs:=[_]) rfl zcP zcS ⟨rfl,rfl,trivial⟩ rfl rfl) ?_;refine zn rfl rfl rfl rfl rfl rfl rfl zcS (by simp only [List.length_append,List.length_cons,List.length_nil];omega) ?_;refine A0 aO ?_;refine qaR ?_;refine zaB 2 1 3 rfl rfl rfl rfl rfl rfl ?_
    exact Nx ((k+1,out++[x],d)) (by first|exact ⟨by omega,by simp;omega,by rw [←hinv.2.2,withL_in hx g20 g24];simp⟩|exact ⟨by omega,by simp;omega,by rw [←hinv.2.2,withL_on hx (fun h=>g24 h.2)];simp⟩|exact ⟨by omega,by simp;omega,by rw [←hinv.2.2,withL_on hx (fun h=>g20 h.1)];simp⟩) (by show _<p.length-k;simp only [];omega)
  ·
   refine qa3 ?_;refine qbg ?_;refine qcc ?_;refine Cg ?_;refine CS ?_;refine CR ?_;refine A0 mO ?_;refine qag ?_;refine A0 (zm (i:=k) rfl rfl rfl (by omega) zcP (by assumption)) ?_;refine A0 (zf rfl rfl zdq) ?_;refine A0 (zo (T:=coinT) (xs:=[_]) rfl zcP zcS ⟨rfl,rfl,trivial⟩ rfl rfl) ?_;refine zn rfl rfl rfl rfl rfl rfl rfl zcS (by simp only [List.length_append,List.length_cons,List.length_nil];omega) ?_;refine A0 aO ?_;refine qaR ?_;refine zaB 2 1 3 rfl rfl rfl rfl rfl rfl ?_
   exact Nx ((k+1,out++[x],d)) (by first|exact ⟨by omega,by simp;omega,by rw [←hinv.2.2,withL_in hx g20 g24];simp⟩|exact ⟨by omega,by simp;omega,by rw [←hinv.2.2,withL_on hx (fun h=>g24 h.2)];simp⟩|exact ⟨by omega,by simp;omega,by rw [←hinv.2.2,withL_on hx (fun h=>g20 h.1)];simp⟩) (by show _<p.length-k;simp only [];omega)
 ·
  refine CE ?_;refine qa9 ?_;refine qaE ?_;refine zj (p:=d=false) rfl (by cases d<;>rfl) (fun ht38=>?_) (fun ht38=>?_)
  ·
   refine CR ?_;refine A0 mO ?_;refine A0 (oLs rfl rfl rfl zdq) ?_;refine A0 (zo (T:=coinT) (xs:=[_]) rfl zcP zcS ⟨rfl,rfl,trivial⟩ rfl rfl) ?_;refine zn rfl rfl rfl rfl rfl rfl rfl zcS (by simp only [List.length_append,List.length_cons,List.length_nil];omega) ?_;refine qaT ?_;refine qbe ?_
   exact zb rfl rfl (zg rfl rfl (by rw [←hinv.2.2,List.drop_of_length_le (by omega)];simp [withL,ht38]))
  ·
   refine CSQR ?_;refine A0 mO ?_;refine qbe ?_
   exact zb rfl rfl (zg rfl rfl (by rw [←hinv.2.2,List.drop_of_length_le (by omega)];simp [withL,ht38]))
theorem rmade_ok (p:List Coin) (t:Tx) (hp:p.length≤100) (ht:t.outs.length≤100):Tells P 207 [.val (sl coinT) p,.val txT t] (.val (sl coinT) (withs p (idOf t) t.outs t.outs.length)):=by
 refine zc Tryz.func207 rfl rfl rfl (fun ext w hext=>?_)
 refine ze (d:=0) rfl zi (fun hsl0=>?_)
 refine qbi ?_;refine CNQR ?_;refine qbd ?_;refine A0 (oCl (rid_ok _) rfl fn_205 ⟨(zd rfl),trivial⟩) ?_;refine qa8 ?_;refine qap ?_;refine qax ?_;refine zp (d:=0) (y:=withs p (idOf t) t.outs 0) rfl (by unfold withs newN;simp) ?_;refine Lp (ι:=Nat) 2 (fun (k:Nat)=>((((Fr.none).set 0 (.val (sl coinT) (withs p (idOf t) t.outs k))).set 3 (.ptr 0 0)).set 5 (.ptr 1 0)).set 6 (.val i64T (k:Int))) (fun (k:Nat)=>((Hp.none).set 0 (.box 140 txT t)).set 1 (.box 32 idT (idOf t))) (fun (k:Nat)=>k≤t.outs.length) (fun (k:Nat)=>t.outs.length-k) (0) (Nat.zero_le _) ?_
 intro k hinv
 refine qa9 ?_;refine qaD ?_;refine qaz ?_;refine Cf (p:=k<t.outs.length) (fun ht13=>?_) (fun ht13=>?_)
 ·
  obtain ⟨o,ho⟩:∃o,t.outs[k]?=some o:=⟨_,List.getElem?_eq_getElem ht13⟩
  refine qa4 ?_;refine CD mixed ?_;refine G0 mV ?_;refine G0 (oLs rfl rfl rfl zM) ?_;refine G0 mV ?_;refine G0 (zV rfl ze_193 bd_193 (.cons zb6 zdm zM rfl (.cons za3 zdD ty_3 rfl .nil)) rfl) ?_;refine G0 (oFp zbf) ?_;refine G0 (oLb zaU zc9) ?_;refine G0 mV ?_;refine G0 (zm (i:=k) rfl rfl rfl (by omega) zdV (by assumption)) ?_;refine G0 (zf rfl rfl zdU) ?_;refine G0 (zV rfl ze_200 bd_200 (.cons zaX zaq zbi rfl (.cons zcB zbq zdU rfl .nil)) rfl) ?_
  refine G0 (oCl (zs (rwith_ok (withs p (idOf t) t.outs k) ⟨⟨idOf t,(k:Int)⟩,o⟩ (by have:=withs_len (p:=p) (id:=idOf t) hinv;omega))) rfl fn_233 ⟨(zd rfl),(zd rfl),trivial⟩) ?_;refine qa3 ?_;refine CI ?_;refine CR ?_;refine qaj ?_;refine zp (d:=0) rfl (withs_succ ho) ?_
  exact Nx (k+1) (by omega) (by omega)
 ·
  obtain rfl:k=t.outs.length:=(by omega)
  refine CE ?_;refine qb8 ?_
  exact zb rfl rfl (za rfl rfl)
theorem halves_at {p:List Coin} {x:In} {k:Nat} {c:Coin} (hs:Sorted p) (hc:p[k]?=some c) (hx:c.inn=x) (lo hi:Nat) (h1:lo≤k) (h2:k≤hi) (h3:hi≤p.length):halves (fun c=>ordIn c.inn x) p lo hi=k:=by
  obtain ⟨hk,hk2⟩:=List.getElem?_eq_some_iff.1 hc
  rw [halves]
  split
  · rename_i hlt
    have hm:(lo+hi)/2<p.length:=by omega
    rw [List.getElem?_eq_getElem hm]
    simp only []
    split
    · rename_i h0
      refine halves_at hs hc hx _ _ ?_ h2 h3
      rcases Nat.lt_trichotomy ((lo+hi)/2) k with h|h|h
      · omega
      · simp only [h,hk2,hx] at h0
        have:=zbm.2 (rfl:x=x);omega
      · have:=List.pairwise_iff_getElem.1 hs k _ hk hm h
        rw [hk2,hx] at this
        have:=zbr x (p[(lo+hi)/2]).inn;omega
    · rename_i h0
      refine halves_at hs hc hx _ _ h1 ?_ (by omega)
      rcases Nat.lt_trichotomy ((lo+hi)/2) k with h|h|h
      · have:=List.pairwise_iff_getElem.1 hs _ k hm hk h
        rw [hk2,hx] at this
        exact absurd this h0
      · omega
      · omega
  · omega
termination_by hi-lo
theorem takeIns_at {p:List Coin} {x:In} {l:List In} {n:Int} {k:Nat} {c:Coin} (hs:Sorted p) (hc:p[k]?=some c) (hx:c.inn=x):takeIns p n (x::l)=takeIns (p.take k++p.drop (k+1)) (IntKind.i64.wrap (n+c.out.v)) l:=by
  have hk:=(List.getElem?_eq_some_iff.1 hc).1
  have hp:placeOf p x=k:=halves_at hs hc hx _ _ (Nat.zero_le _) (Nat.le_of_lt hk) (Nat.le_refl _)
  rw [takeIns.eq_2,hp,hc]
  simp only []
  rw [if_pos (zbm.2 hx)]
theorem takeIns_not {p:List Coin} {x:In} {l:List In} {n:Int} (h:∀c∈p,c.inn≠x):takeIns p n (x::l)=none:=by
  rw [takeIns.eq_2]
  split
  · rfl
  · rename_i c hc
    rw [if_neg fun e=>h c (List.mem_of_getElem? hc) (zbm.1 e)]
theorem spendOf_none {p:List Coin} {t:Tx} (hp:mayCoins p=true) (ht:mayTx t=true) (hne:t.ins≠[]) (h:takeIns p 0 t.ins=none):spendOf p t=(p,0,8):=by
  unfold spendOf
  rw [if_neg (Classical.not_not.2 ⟨hp,ht,hne⟩),h]
theorem ze4 {p rest:List Coin} {t:Tx} {n:Int} (hp:mayCoins p=true) (ht:mayTx t=true) (hne:t.ins≠[]) (h:takeIns p 0 t.ins=some (rest,n)):spendOf p t=if n<worthF (·.v) t.outs then (p,0,8) else if (rest.any fun c=>decide (c.inn.tx=idOf t))=true then (p,0,10) else if 48<(madeOf rest t).1.length then (p,0,11) else ((madeOf rest t).1,n-worthF (·.v) t.outs,0):=by
  obtain ⟨h1,h2,h3⟩:=zO.1 hp
  have hT:=zc0 h1 h3
  have h4:=ze3 h h1 h3 (Int.le_refl _) (by omega)
  have hr:=tot_pos (f:=fun c:Coin=>c.out.v) (l:=rest) fun c hc=>(zeX h1 c ((zdr h).subset hc)).1
  have ho:=outs_tot ht
  rw [←ho.1] at ho
  have e:IntKind.i64.wrap (n-worthF (·.v) t.outs)=n-worthF (·.v) t.outs:=zai (by omega)
  unfold spendOf
  rw [if_neg (Classical.not_not.2 ⟨hp,ht,hne⟩),h]
  simp only []
  rw [e,zej]
  by_cases c1:n<worthF (·.v) t.outs
  · rw [if_pos (by omega),if_pos c1]
  · rw [if_neg (by omega),if_neg c1]
    by_cases c2:(rest.any fun c=>decide (c.inn.tx=idOf t))=true
    · simp only [if_pos c2];rfl
    · simp only [if_neg c2,if_true]
theorem rspend_ok (p:List Coin) (t:Tx):Tells P 202 [.val (sl coinT) p,.val txT t] (.tup3 (.val (sl coinT) (spendOf p t).1) (.val i64T (spendOf p t).2.1) (.val i64T (spendOf p t).2.2)):=by
 refine zc Tryz.func202 rfl rfl rfl (fun ext w hext=>?_)
 refine ze (d:=0) rfl zi (fun hsl0=>?_)
 refine ze (d:=1) rfl fact_txl (fun htl=>?_)
 refine qbi ?_;refine A0 aV ?_;refine qa7 ?_;refine A0 (oCl (rmay_ok _) rfl fn_201 ⟨(zd rfl),trivial⟩) ?_;refine qai ?_;refine qbd ?_;refine A0 (oCl (rmayTx_ok _) rfl fn_203 ⟨(zd rfl),trivial⟩) ?_;refine qah ?_;refine A0 oN ?_;refine zaa (d:=20) (p:=¬mayCoins p=true) rfl (by simp) (fun g20=>?_) (fun g20=>?_)
 ·
  refine qar ?_;refine A2 ?_;refine A2 ?_;refine qak ?_;refine CN ?_;refine Ct ?_;refine qa2 ?_;refine A0 aV ?_;refine qaY ?_
  have hS:spendOf p t=(p,0,1):=by unfold spendOf;rw [if_pos (fun h=>g20 h.1)]
  exact zap rfl rfl (za rfl (by rw [hS])) (za rfl (by rw [hS])) (za rfl (by rw [hS]))
 ·
  refine qar ?_;refine A1 mV ?_;refine A1 oN ?_;refine zaa (d:=23) (p:=¬mayTx t=true) rfl (by simp) (fun g23=>?_) (fun g23=>?_)
  ·
   refine qak ?_;refine CN ?_;refine Ct ?_;refine qa2 ?_;refine A0 aV ?_;refine qaY ?_
   have hS:spendOf p t=(p,0,1):=by unfold spendOf;rw [if_pos (fun h=>g23 h.2.1)]
   exact zap rfl rfl (za rfl (by rw [hS])) (za rfl (by rw [hS])) (za rfl (by rw [hS]))
  ·
   refine qaw ?_;refine A1 (oFp zbg) ?_;refine A1 (oLb zbD zda) ?_;refine A1 (zah rfl rfl zcb) ?_;refine A1 zbU ?_;refine Sp (d:=29) (p:=t.ins.length=0) (fun g29=>?_) (fun g29=>?_)
   ·
    refine qaq ?_;refine Ct ?_;refine qa2 ?_;refine A0 aV ?_;refine qaY ?_
    have hS:spendOf p t=(p,0,1):=by unfold spendOf;rw [if_pos (fun h=>h.2.2 (List.eq_nil_of_length_eq_zero g29))]
    exact zap rfl rfl (za rfl (by rw [hS])) (za rfl (by rw [hS])) (za rfl (by rw [hS]))
   ·
    have hmp:=Classical.not_not.1 g20
    have hmt:=Classical.not_not.1 g23
    have hpl:=zbV hmp
    have hne:t.ins≠[]:=fun e=>g29 (by rw [e];rfl)
    have hlens:=zci hmt
    refine qaq ?_;refine Cg ?_;refine qbG ?_;refine zcN rfl rfl rfl rfl rfl rfl zcS (by (try simp only [List.length_append,List.length_take,List.length_drop]);omega) ?_;refine A0 aO ?_;refine CNQR ?_;refine qbr ?_;refine aw_pub (d:=9) rfl rfl ?_
    refine Lp (ι:=Nat×List Coin×Int) 1 (fun (i:Nat×List Coin×Int)=>match i with|(k,rest,n)=>(((((Fr.none).set 0 (.val (sl coinT) p)).set 3 (.ptr 0 0)).set 9 (.val (sl coinT) rest)).set 10 (.val i64T n)).set 11 (.val i64T (k:Int))) (fun (i:Nat×List Coin×Int)=>match i with|(k,rest,n)=>(Hp.none).set 0 (.box 140 txT t)) (fun (i:Nat×List Coin×Int)=>match i with|(k,rest,n)=>k≤t.ins.length∧Sorted rest∧rest.length≤48∧takeIns p 0 t.ins=takeIns rest n (t.ins.drop k)) (fun (i:Nat×List Coin×Int)=>match i with|(k,rest,n)=>t.ins.length-k) ((0,p,0)) (⟨Nat.zero_le _,(zO.1 hmp).2.1,hpl,rfl⟩) ?_
    intro ⟨k,rest,n⟩ hinv
    dsimp only at hinv
    refine qa9 ?_;refine qa1 ?_;refine qaz ?_;refine Cf (p:=k<t.ins.length) (fun ht38=>?_) (fun ht38=>?_)
    ·
     obtain ⟨x,hx⟩:∃x,t.ins[k]?=some x:=⟨_,List.getElem?_eq_getElem ht38⟩
     have hdr:t.ins.drop k=x::t.ins.drop (k+1):=by rw [List.drop_eq_getElem_cons ht38];congr 1;exact (List.getElem?_eq_some_iff.1 hx).2
     refine qaL ?_;refine qbV ?_;refine qar ?_;refine A0 (zm (i:=k) rfl rfl rfl (by omega) zdt (by assumption)) ?_;refine A0 (zf rfl rfl zbi) ?_;refine A0 (oCl (rfind_ok _ _) rfl fn_231 ⟨(zd rfl),(by first|exact zq rfl|exact zC rfl|exact zy rfl rfl|exact zA rfl|exact zr rfl|exact zL rfl rfl|exact zB rfl),trivial⟩) ?_;refine qah ?_;refine qaz ?_;refine Cf (p:=findC rest x<0) (fun ht49=>?_) (fun ht49=>?_)
     ·
      refine qa2 ?_;refine A0 aV ?_;refine qaY ?_
      have hS:spendOf p t=(p,0,8):=by exact spendOf_none hmp hmt hne (by rw [hinv.2.2.2,hdr];exact takeIns_not (findC_none ht49))
      exact zap rfl rfl (za rfl (by rw [hS])) (za rfl (by rw [hS])) (za rfl (by rw [hS]))
     ·
      obtain ⟨c,hc,hcx,_⟩:=findC_some (Int.not_lt.1 ht49)
      obtain ⟨i,hi⟩:∃i:Nat,findC rest x=i:=⟨_,(Int.toNat_of_nonneg (Int.not_lt.1 ht49)).symm⟩
      rw [hi,Int.toNat_natCast] at hc
      have hil:=(List.getElem?_eq_some_iff.1 hc).1
      refine zp (d:=12) (y:=(i:Int)) rfl hi ?_;refine qcl ?_;refine qar ?_;refine A0 (zm (i:=i) rfl rfl rfl (by omega) zcP (by assumption)) ?_;refine A0 (oFr zcB zbq) ?_;refine A0 (oFr zbL zcI) ?_;refine qb6 ?_;refine A0 zaG ?_;refine qab ?_;refine zx [some 1,some 1,some 1,none,some 2,some 2,some 2,some 2,none,some 1] mixed (by decide +kernel) ?_;refine qaP ?_;refine X0 (by first|exact zbt rfl rfl rfl (by first|rfl|omega) zcP|exact zdy rfl rfl rfl zcP (by first|assumption|omega|(simp;omega))) ?_
      refine XK.e (fun fr' hfr kk H=>by exact zcN rfl rfl rfl rfl rfl ((hfr 61 (by decide +kernel)).trans rfl) zcS (by (try simp only [List.length_append,List.length_take,List.length_drop]);omega) (zz H)) ?_;refine XK.g2 (g_mv (.inl rfl) rfl) (g_mv (.inl rfl) rfl) rfl rfl rfl ?_;refine XK.g2 (g_mv (.inl rfl) rfl) (g_mv (.inl rfl) rfl) rfl rfl rfl ?_;refine XK.g2 (by first|exact g_add rfl rfl rfl (zai (by first|omega|(simp;omega)))|exact g_add rfl rfl rfl rfl) (by first|exact g_add rfl rfl rfl (zai (by first|omega|(simp;omega)))|exact g_add rfl rfl rfl rfl) rfl rfl rfl ?_
      refine XK.g2 (zeP rfl rfl rfl zcP (by first|assumption|omega|(simp;omega))) (zeP rfl rfl rfl zcP (by first|assumption|omega|(simp;omega))) rfl rfl rfl ?_;refine XK.e (fun fr' hfr kk H=>by exact zn rfl rfl rfl rfl ((hfr 62 (by decide +kernel)).trans rfl) rfl ((hfr 66 (by decide +kernel)).trans rfl) zcS (by (try simp only [List.length_append,List.length_take,List.length_drop]);omega) (zz H)) ?_;refine X0 aO ?_;refine qaQ ?_;refine qaj ?_;refine aw_pub (d:=9) rfl rfl ?_
      exact Nx ((k+1,rest.take i++rest.drop (i+1),IntKind.i64.wrap (n+c.out.v))) (⟨by omega,del_sorted _ hinv.2.1,by simp;omega,by rw [hinv.2.2.2,hdr,takeIns_at hinv.2.1 hc hcx]⟩) (by show _<t.ins.length-k;simp only [];omega)
    ·
     obtain rfl:k=t.ins.length:=(by omega)
     have htk:takeIns p 0 t.ins=some (rest,n):=by rw [hinv.2.2.2,List.drop_of_length_le (Nat.le_refl _)];rfl
     refine CE ?_;refine CQQR ?_;refine qbd ?_;refine A0 (oCl (rworth_ok _) rfl fn_206 ⟨(zd rfl),trivial⟩) ?_;refine qar ?_;refine qcb ?_;refine Cf (p:=n<worthF (·.v) t.outs) (fun ht71=>?_) (fun ht71=>?_)
     ·
      refine qa2 ?_;refine A0 aV ?_;refine qaY ?_
      have hS:spendOf p t=(p,0,8):=by rw [ze4 hmp hmt hne htk];rw [if_pos ht71]
      exact zap rfl rfl (za rfl (by rw [hS])) (za rfl (by rw [hS])) (za rfl (by rw [hS]))
     ·
      refine qbG ?_;refine qbd ?_;refine A0 (oCl (rid_ok _) rfl fn_205 ⟨(zd rfl),trivial⟩) ?_;refine A0 (oCl (rthere_ok _ _) rfl fn_204 ⟨(zd rfl),(zd rfl),trivial⟩) ?_;refine qah ?_;refine CN ?_;refine zj (p:=(rest.any fun c=>decide (c.inn.tx=idOf t))=true) rfl (Bool.decide_eq_true.symm) (fun ht77=>?_) (fun ht77=>?_)
      ·
       refine qa2 ?_;refine A0 aV ?_;refine qaY ?_
       have hS:spendOf p t=(p,0,10):=by rw [ze4 hmp hmt hne htk];rw [if_neg ht71,if_pos ht77]
       exact zap rfl rfl (za rfl (by rw [hS])) (za rfl (by rw [hS])) (za rfl (by rw [hS]))
      ·
       have hz:(madeOf rest t).2=0:=by rw [zej,if_neg ht77]
       obtain ⟨hm1,hm2,hm3⟩:=zO.1 hmp
       have hT:=zc0 hm1 hm3
       have hTt:=ze3 htk hm1 hm3 (Int.le_refl _) (by omega)
       have hTo:=outs_tot hmt
       rw [←hTo.1] at hTo
       have hTr:=tot_pos (f:=fun c:Coin=>c.out.v) (l:=rest) fun c hc=>(zeX hm1 c ((zdr htk).subset hc)).1
       refine qbG ?_;refine qbd ?_;refine A0 (oCl (rmade_ok rest t (by omega) (by omega)) rfl fn_207 ⟨(zd rfl),(zd rfl),trivial⟩) ?_;refine zp (d:=81) (y:=(madeOf rest t).1) rfl (withs_made hinv.2.1 hz) ?_;refine qah ?_;refine qcg ?_;refine qcb ?_;refine Cf (p:=48<(madeOf rest t).1.length) (fun ht84=>?_) (fun ht84=>?_)
       ·
        refine qa2 ?_;refine A0 aV ?_;refine qaY ?_
        have hS:spendOf p t=(p,0,11):=by rw [ze4 hmp hmt hne htk];rw [if_neg ht71,if_neg ht77,if_pos ht84]
        exact zap rfl rfl (za rfl (by rw [hS])) (za rfl (by rw [hS])) (za rfl (by rw [hS]))
       ·
        refine qcl ?_;refine qbd ?_;refine A0 (oCl (rworth_ok _) rfl fn_206 ⟨(zd rfl),trivial⟩) ?_;refine A0 zay ?_;refine A0 aV ?_;refine qaY ?_
        have hS:spendOf p t=((madeOf rest t).1,n-worthF (·.v) t.outs,0):=by rw [ze4 hmp hmt hne htk];rw [if_neg ht71,if_neg ht77,if_neg ht84]
        exact zap rfl rfl (za rfl (by rw [hS])) (za rfl (by rw [hS])) (za rfl (by rw [hS]))
theorem rapply_ok (p:List Coin) (l:List Tx):Tells P 158 [.val (sl coinT) p,.val (sl txT) l] (.tup2 (.val (sl coinT) (applyOf p l).1) (.val i64T (applyOf p l).2)):=by
 refine zc Tryz.func158 rfl rfl rfl (fun ext w hext=>?_)
 refine ze (d:=0) rfl zi (fun hsl0=>?_)
 refine ze (d:=1) rfl zi (fun hsl1=>?_)
 refine qay ?_;refine qa7 ?_;refine A0 (oCl (rmay_ok _) rfl fn_201 ⟨(zd rfl),trivial⟩) ?_;refine qah ?_;refine qaE ?_;refine zj (p:=¬mayCoins p=true) rfl (by simp) (fun ht18=>?_) (fun ht18=>?_)
 ·
  refine qa2 ?_;refine qaY ?_
  have hS:applyOf p l=(p,1):=by unfold applyOf;rw [if_pos ht18]
  exact z7 rfl rfl (za rfl (by rw [hS])) (za rfl (by rw [hS]))
 ·
  have hmp:=Classical.not_not.1 ht18
  have hpl:=zbV hmp
  have hT:=zc0 (zO.1 hmp).1 (zO.1 hmp).2.2
  refine qbO ?_;refine qbq ?_;refine qcb ?_;refine Cf (p:=4<l.length) (fun ht22=>?_) (fun ht22=>?_)
  ·
   refine qa2 ?_;refine qaY ?_
   have hS:applyOf p l=(p,3):=by unfold applyOf;rw [if_neg (Classical.not_not.2 hmp),if_pos ht22]
   exact z7 rfl rfl (za rfl (by rw [hS])) (za rfl (by rw [hS]))
  ·
   refine qbG ?_;refine qai ?_;refine qbr ?_
   refine Lp (ι:=Nat×List Coin×Int) 0 (fun (i:Nat×List Coin×Int)=>match i with|(k,out,left)=>(((((Fr.none).set 0 (.val (sl coinT) p)).set 1 (.val (sl txT) l)).set 7 (.val (sl coinT) out)).set 8 (.val i64T left)).set 9 (.val i64T (k:Int))) (fun (i:Nat×List Coin×Int)=>match i with|(k,out,left)=>Hp.none) (fun (i:Nat×List Coin×Int)=>match i with|(k,out,left)=>k≤l.length∧mayCoins out=true∧runTxs p 50 (remTxs l 0)=runTxs out (50+left) (remTxs l k)∧0≤left∧tot (·.out.v) out+left=tot (·.out.v) p) (fun (i:Nat×List Coin×Int)=>match i with|(k,out,left)=>l.length-k) ((0,p,0)) (⟨Nat.zero_le _,hmp,rfl,Int.le_refl _,by simp⟩) ?_
   intro ⟨k,out,left⟩ hinv
   dsimp only at hinv
   refine qbg ?_;refine qbq ?_;refine qaz ?_;refine Cf (p:=k<l.length) (fun ht28=>?_) (fun ht28=>?_)
   ·
    obtain ⟨t,hx⟩:∃t,l[k]?=some t:=⟨_,List.getElem?_eq_getElem ht28⟩
    obtain ⟨t0,ht0⟩:∃t0,l[0]?=some t0:=⟨_,List.getElem?_eq_getElem (by omega)⟩
    have hif:=isFirst_at ht0
    refine qa4 ?_;refine qa9 ?_;refine A0 zbU ?_;refine Sp (d:=32) (p:=k=0) (fun g32=>?_) (fun g32=>?_)
    ·
     refine qar ?_;refine A1 mV ?_;refine A1 (zm (i:=0) rfl rfl rfl (by omega) zec (by assumption)) ?_;refine A1 (oFr zbg zbD) ?_;refine A1 (zf rfl rfl zda) ?_;refine A1 (by first|exact zah rfl rfl zcb|exact zaY rfl rfl rfl zcb|exact zbu rfl rfl zcb) ?_;refine A1 zbU ?_;refine Sp (d:=39) (p:=t0.ins.length=0) (fun g39=>?_) (fun g39=>?_)
     ·
      refine qaq ?_;refine Ct ?_;refine CE ?_;refine CR ?_;refine qaj ?_
      exact Nx ((k+1,out,left)) (by first|exact ⟨by omega,hinv.2.1,by rw [hinv.2.2.1,g32,zcK (by rw [hif];exact decide_eq_true g39)],hinv.2.2.2⟩|exact ⟨by omega,hsm,hinv.2.2.1.trans hgo,by omega,by omega⟩) (by show _<l.length-k;simp only [];omega)
     ·
      have hnf:¬(isFirst l=true∧k=0):=fun h=>g39 (by have:=h.1;rw [hif] at this;exact of_decide_eq_true this)
      refine qaq ?_;refine Cg ?_;refine qcl ?_;refine qar ?_;refine A0 (zm (i:=k) rfl rfl rfl (by omega) zec (by assumption)) ?_;refine qbT ?_;refine A0 (oCl (rspend_ok out t) rfl fn_202 ⟨(zd rfl),(by first|exact zq rfl|exact zC rfl|exact zy rfl rfl|exact zA rfl|exact zr rfl|exact zL rfl rfl|exact zB rfl),trivial⟩) ?_;refine A0 mX ?_;refine A0 (by first|exact zW rfl rfl|exact zU rfl rfl) ?_;refine A0 (by first|exact zY rfl rfl|exact zX rfl rfl) ?_;refine qcn ?_;refine qah ?_;refine qaB ?_
      refine zj (p:=¬(spendOf out t).2.2=0) rfl (by simp [IntL.toI]) (fun ht52=>?_) (fun ht52=>?_)
      ·
       refine CQR ?_;refine qag ?_;refine qaY ?_
       have hS:applyOf p l=(p,(spendOf out t).2.2):=by unfold applyOf;rw [if_neg (Classical.not_not.2 hmp),if_neg ht22];rw [hinv.2.2.1,ze6 hnf hx ht52]
       exact z7 rfl rfl (za rfl (by rw [hS])) (za rfl (by rw [hS]))
      ·
       have hs:=spendOf_tot (t:=t) hinv.2.1
       have hsm:=zdc (t:=t) hinv.2.1
       have hsc:=zc0 (zO.1 hsm).1 (zO.1 hsm).2.2
       have hgo:=zdY (room:=50+left) hnf hx (Classical.not_not.1 ht52)
       have hw:IntKind.i64.wrap (50+left+(spendOf out t).2.1)=50+(left+(spendOf out t).2.1):=by rw [zai (by omega)];omega
       rw [hw] at hgo
       refine qbG ?_;refine qb2 ?_;refine qag ?_;refine A0 zaG ?_;refine A0 aV ?_;refine qaR ?_
       exact Nx ((k+1,(spendOf out t).1,left+(spendOf out t).2.1)) (by first|exact ⟨by omega,hinv.2.1,by rw [hinv.2.2.1,g32,zcK (by rw [hif];exact decide_eq_true g39)],hinv.2.2.2⟩|exact ⟨by omega,hsm,hinv.2.2.1.trans hgo,by omega,by omega⟩) (by show _<l.length-k;simp only [];omega)
    ·
     have hnf:¬(isFirst l=true∧k=0):=fun h=>g32 h.2
     refine qar ?_;refine qac ?_;refine qbA ?_;refine Cg ?_;refine qcl ?_;refine qar ?_;refine A0 (zm (i:=k) rfl rfl rfl (by omega) zec (by assumption)) ?_;refine qbT ?_;refine A0 (oCl (rspend_ok out t) rfl fn_202 ⟨(zd rfl),(by first|exact zq rfl|exact zC rfl|exact zy rfl rfl|exact zA rfl|exact zr rfl|exact zL rfl rfl|exact zB rfl),trivial⟩) ?_;refine A0 mX ?_;refine A0 (by first|exact zW rfl rfl|exact zU rfl rfl) ?_;refine A0 (by first|exact zY rfl rfl|exact zX rfl rfl) ?_;refine qcn ?_;refine qah ?_;refine qaB ?_
     refine zj (p:=¬(spendOf out t).2.2=0) rfl (by simp [IntL.toI]) (fun ht52=>?_) (fun ht52=>?_)
     ·
      refine CQR ?_;refine qag ?_;refine qaY ?_
      have hS:applyOf p l=(p,(spendOf out t).2.2):=by unfold applyOf;rw [if_neg (Classical.not_not.2 hmp),if_neg ht22];rw [hinv.2.2.1,ze6 hnf hx ht52]
      exact z7 rfl rfl (za rfl (by rw [hS])) (za rfl (by rw [hS]))
     ·
      have hs:=spendOf_tot (t:=t) hinv.2.1
      have hsm:=zdc (t:=t) hinv.2.1
      have hsc:=zc0 (zO.1 hsm).1 (zO.1 hsm).2.2
      have hgo:=zdY (room:=50+left) hnf hx (Classical.not_not.1 ht52)
      have hw:IntKind.i64.wrap (50+left+(spendOf out t).2.1)=50+(left+(spendOf out t).2.1):=by rw [zai (by omega)];omega
      rw [hw] at hgo
      refine qbG ?_;refine qb2 ?_;refine qag ?_;refine A0 zaG ?_;refine A0 aV ?_;refine qaR ?_
      exact Nx ((k+1,(spendOf out t).1,left+(spendOf out t).2.1)) (by first|exact ⟨by omega,hinv.2.1,by rw [hinv.2.2.1,g32,zcK (by rw [hif];exact decide_eq_true g39)],hinv.2.2.2⟩|exact ⟨by omega,hsm,hinv.2.2.1.trans hgo,by omega,by omega⟩) (by show _<l.length-k;simp only [];omega)
   ·
    have hrun:runTxs p 50 (remTxs l 0) = .inr (out,50+left):=by rw [hinv.2.2.1,remTxs_end k (by omega)];rfl
    have hoc:=zc0 (zO.1 hinv.2.1).1 (zO.1 hinv.2.1).2.2
    have hol:=zbV hinv.2.1
    refine CE ?_;refine qa9 ?_;refine qbq ?_;refine A0 zbU ?_;refine Sp (d:=61) (p:=l.length=0) (fun g61=>?_) (fun g61=>?_)
    ·
     refine qar ?_;refine qac ?_;refine qbA ?_;refine Ct ?_;refine qa2 ?_;refine qaY ?_
     have hS:applyOf p l=(out,0):=by unfold applyOf;rw [if_neg (Classical.not_not.2 hmp),if_neg ht22];rw [hrun];simp only [zfe (show ¬0<l.length by omega)];rfl
     exact z7 rfl rfl (za rfl (by rw [hS])) (za rfl (by rw [hS]))
    ·
     obtain ⟨t0,ht0⟩:∃t0,l[0]?=some t0:=⟨_,List.getElem?_eq_getElem (by omega)⟩
     have hif:=isFirst_at ht0
     refine qar ?_;refine A1 mV ?_;refine A1 (zm (i:=0) rfl rfl rfl (by omega) zec (by assumption)) ?_;refine A1 (oFr zbg zbD) ?_;refine A1 (zf rfl rfl zda) ?_;refine A1 (by first|exact zah rfl rfl zcb|exact zaY rfl rfl rfl zcb|exact zbu rfl rfl zcb) ?_;refine A1 zbb ?_;refine Sp (d:=68) (p:=0<t0.ins.length) (fun g68=>?_) (fun g68=>?_)
     ·
      refine qaq ?_;refine Ct ?_;refine qa2 ?_;refine qaY ?_
      have hS:applyOf p l=(out,0):=by unfold applyOf;rw [if_neg (Classical.not_not.2 hmp),if_neg ht22];rw [hrun];simp only [show isFirst l=false by rw [hif];exact decide_eq_false (by omega)];rfl
      exact z7 rfl rfl (za rfl (by rw [hS])) (za rfl (by rw [hS]))
     ·
      have hf:isFirst l=true:=by rw [hif];exact decide_eq_true (by omega)
      refine qaq ?_;refine Cg ?_;refine qbG ?_;refine A0 (zm (i:=0) rfl rfl rfl (by omega) zec (by assumption)) ?_;refine qbT ?_;refine A0 (oCl (rmayTx_ok _) rfl fn_203 ⟨(by first|exact zq rfl|exact zC rfl|exact zy rfl rfl|exact zA rfl|exact zr rfl|exact zL rfl rfl|exact zB rfl),trivial⟩) ?_;refine qah ?_;refine qaE ?_;refine zj (p:=¬mayTx t0=true) rfl (by simp) (fun ht76=>?_) (fun ht76=>?_)
      ·
       refine qa2 ?_;refine qaY ?_
       have hS:applyOf p l=(p,1):=by unfold applyOf;rw [if_neg (Classical.not_not.2 hmp),if_neg ht22];rw [hrun];simp only [if_pos hf,ht0];rw [if_pos ht76]
       exact z7 rfl rfl (za rfl (by rw [hS])) (za rfl (by rw [hS]))
      ·
       have hmt:=Classical.not_not.1 ht76
       refine qcl ?_;refine A0 (zm (i:=0) rfl rfl rfl (by omega) zec (by assumption)) ?_;refine qbT ?_;refine A0 (oCl (rid_ok _) rfl fn_205 ⟨(by first|exact zq rfl|exact zC rfl|exact zy rfl rfl|exact zA rfl|exact zr rfl|exact zL rfl rfl|exact zB rfl),trivial⟩) ?_;refine A0 (oCl (rthere_ok _ _) rfl fn_204 ⟨(zd rfl),(zd rfl),trivial⟩) ?_;refine qah ?_;refine CN ?_;refine zj (p:=(out.any fun c=>decide (c.inn.tx=idOf t0))=true) rfl (Bool.decide_eq_true.symm) (fun ht84=>?_) (fun ht84=>?_)
       ·
        refine qa2 ?_;refine qaY ?_
        have hS:applyOf p l=(p,10):=by unfold applyOf;rw [if_neg (Classical.not_not.2 hmp),if_neg ht22];rw [hrun];simp only [if_pos hf,ht0];rw [if_neg (Classical.not_not.2 hmt),zej,if_pos ht84,if_pos (by decide)]
        exact z7 rfl rfl (za rfl (by rw [hS])) (za rfl (by rw [hS]))
       ·
        have hz:(madeOf out t0).2=0:=by rw [zej,if_neg ht84]
        refine qbO ?_;refine A0 (zm (i:=0) rfl rfl rfl (by omega) zec (by assumption)) ?_;refine qbT ?_;refine A0 (oCl (rworth_ok _) rfl fn_206 ⟨(by first|exact zq rfl|exact zC rfl|exact zy rfl rfl|exact zA rfl|exact zr rfl|exact zL rfl rfl|exact zB rfl),trivial⟩) ?_;refine qar ?_;refine A0 zaG ?_;refine qcb ?_;refine Cf (p:=50+left<worthF (·.v) t0.outs) (fun ht92=>?_) (fun ht92=>?_)
        ·
         refine qa2 ?_;refine qaY ?_
         have hS:applyOf p l=(p,8):=by unfold applyOf;rw [if_neg (Classical.not_not.2 hmp),if_neg ht22];rw [hrun];simp only [if_pos hf,ht0];rw [if_neg (Classical.not_not.2 hmt),if_neg (by rw [hz];simp),if_pos ht92]
         exact z7 rfl rfl (za rfl (by rw [hS])) (za rfl (by rw [hS]))
        ·
         refine qcl ?_;refine A0 (zm (i:=0) rfl rfl rfl (by omega) zec (by assumption)) ?_;refine qbT ?_;refine A0 (oCl (rmade_ok out t0 (by omega) (by have:=zci hmt;omega)) rfl fn_207 ⟨(zd rfl),(by first|exact zq rfl|exact zC rfl|exact zy rfl rfl|exact zA rfl|exact zr rfl|exact zL rfl rfl|exact zB rfl),trivial⟩) ?_;refine zp (d:=98) (y:=(madeOf out t0).1) rfl (withs_made (zO.1 hinv.2.1).2.1 hz) ?_;refine qah ?_;refine qcg ?_;refine qcb ?_;refine Cf (p:=48<(madeOf out t0).1.length) (fun ht101=>?_) (fun ht101=>?_)
         ·
          refine qa2 ?_;refine qaY ?_
          have hS:applyOf p l=(p,11):=by unfold applyOf;rw [if_neg (Classical.not_not.2 hmp),if_neg ht22];rw [hrun];simp only [if_pos hf,ht0];rw [if_neg (Classical.not_not.2 hmt),if_neg (by rw [hz];simp),if_neg ht92,if_pos ht101]
          exact z7 rfl rfl (za rfl (by rw [hS])) (za rfl (by rw [hS]))
         ·
          refine qbG ?_;refine qaY ?_
          have hS:applyOf p l=((madeOf out t0).1,0):=by unfold applyOf;rw [if_neg (Classical.not_not.2 hmp),if_neg ht22];rw [hrun];simp only [if_pos hf,ht0];rw [if_neg (Classical.not_not.2 hmt),if_neg (by rw [hz];simp),if_neg ht92,if_neg ht101]
          exact z7 rfl rfl (za rfl (by rw [hS])) (za rfl (by rw [hS]))
set_option maxRecDepth 20000
def smallTrial (x:Trial):Prop:=smallTip x.t∧x.b.t.length≤4000000000000
def sizeE (x:Trial):Int:=if 48≤x.b.h.height then 3 else 0
def prevE (x:Trial):Int:=if ¬behindH x.b.h=behindH x.want then 5 else 0
def linkE (x:Trial):Int:=if ¬x.b.h.links=x.want.links∨¬x.b.l=linksT x.t then 6 else 0
def rootE (x:Trial):Int:=if ¬x.b.h=x.want then 7 else 0
def workE (x:Trial):Int:=if ¬headMay x.b.h=true then 4 else 0
def coinsE (x:Trial):Int:=(applyOf x.t.c x.b.t).2
def coinsX (x:Trial):Trial:={ x with c:=(applyOf x.t.c x.b.t).1 }
def askOf (f:Option Nat) (x:Trial):Int:=if f=some 111 then sizeE x else if f=some 112 then prevE x else if f=some 113 then linkE x else if f=some 114 then rootE x else if f=some 115 then workE x else coinsE x
def askX (f:Option Nat) (x:Trial):Trial:=if f=some 116 then coinsX x else x
def firstE:List (Option Nat)→Trial→Int
  | [],_=>0
  | f::l,x=>if askOf f x=0 then firstE l (askX f x) else askOf f x
def firstX:List (Option Nat)→Trial→Trial
  | [],x=>x
  | f::l,x=>if askOf f x=0 then firstX l (askX f x) else askX f x
def Asks (f:Option Nat):Prop:=f=some 111∨f=some 112∨f=some 113∨f=some 114∨f=some 115∨f=some 116
theorem zbo {l:List (Option Nat)} {k:Nat} {f:Option Nat} {x:Trial} (h:l[k]?=some f) (h0:askOf f x=0):firstE (l.drop k) x=firstE (l.drop (k+1)) (askX f x)∧firstX (l.drop k) x=firstX (l.drop (k+1)) (askX f x):=by
  obtain ⟨hk,rfl⟩:=List.getElem?_eq_some_iff.1 h
  rw [List.drop_eq_getElem_cons hk,firstE,firstX,if_pos h0,if_pos h0]
  exact ⟨rfl,rfl⟩
theorem zaz {l:List (Option Nat)} {k:Nat} {f:Option Nat} {x:Trial} (h:l[k]?=some f) (h0:¬askOf f x=0):firstE (l.drop k) x=askOf f x∧firstX (l.drop k) x=askX f x:=by
  obtain ⟨hk,rfl⟩:=List.getElem?_eq_some_iff.1 h
  rw [List.drop_eq_getElem_cons hk,firstE,firstX,if_neg h0,if_neg h0]
  exact ⟨rfl,rfl⟩
theorem first_end {l:List (Option Nat)} {k:Nat} {x:Trial} (h:l.length≤k):firstE (l.drop k) x=0∧firstX (l.drop k) x=x:=by
  rw [List.drop_of_length_le h];exact ⟨rfl,rfl⟩
theorem zb1 {f:Option Nat} {x:Trial} (h:smallTrial x):smallTrial (askX f x):=by unfold askX;split<;>exact h
theorem ask_size (x:Trial):Tells P 111 [.rptr trialT x] (.val i64T (sizeE x)):=by
 refine zc Tryz.func111 rfl rfl rfl (fun ext w hext=>?_)
 refine CQR ?_;refine qbB ?_;refine A0 mR ?_;refine A0 (zbW rfl rfl) ?_;refine A0 (oFr zdL zc7) ?_;refine A0 (oFr zan zE) ?_;refine A0 (oFr zbH zS) ?_;refine qb6 ?_;refine qbk ?_;refine Cf (p:=48≤x.b.h.height) (fun ht9=>?_) (fun ht9=>?_)
 ·
  refine qam ?_
  exact zb rfl rfl (za rfl (by unfold sizeE;rw [if_pos (ht9)]))
 ·
  refine CSQR ?_;refine qab ?_
  exact zb rfl rfl (za rfl (by unfold sizeE;rw [if_neg (ht9)]))
theorem ask_prev (x:Trial):Tells P 112 [.rptr trialT x] (.val i64T (prevE x)):=by
 refine zc Tryz.func112 rfl rfl rfl (fun ext w hext=>?_)
 refine CQR ?_;refine qaA ?_;refine qa0 ?_;refine G0 mR ?_;refine G0 (zbW rfl rfl) ?_;refine G0 (oFr zdL zc7) ?_;refine qbs ?_;refine G0 (oCl (behindH_ok _) rfl fn_167 ⟨(by first|exact zq rfl|exact zC rfl|exact zy rfl rfl|exact zA rfl|exact zr rfl|exact zL rfl rfl|exact zB rfl),trivial⟩) ?_;refine G0 mR ?_;refine G0 (zbW rfl rfl) ?_;refine G0 (oFr fd_151_2 zdC) ?_;refine G0 (zf rfl rfl zao) ?_
 refine G0 (oCl (behindH_ok _) rfl fn_167 ⟨(by first|exact zq rfl|exact zC rfl|exact zy rfl rfl|exact zA rfl|exact zr rfl|exact zL rfl rfl|exact zB rfl),trivial⟩) ?_;refine G0 (zbQ rfl rfl rfl (eqt_38)) ?_;refine GK.nil ?_;refine zj (p:=¬behindH x.b.h=behindH x.want) rfl (by simp) (fun ht14=>?_) (fun ht14=>?_)
 ·
  refine qam ?_
  exact zb rfl rfl (za rfl (by unfold prevE;rw [if_pos (ht14)]))
 ·
  refine CSQR ?_;refine qab ?_
  exact zb rfl rfl (za rfl (by unfold prevE;rw [if_neg (ht14)]))
theorem ask_link (x:Trial) (hx:smallTrial x):Tells P 113 [.rptr trialT x] (.val i64T (linkE x)):=by
 refine zc Tryz.func113 rfl rfl rfl (fun ext w hext=>?_)
 refine CQR ?_;refine qaA ?_;refine qa0 ?_;refine G0 mR ?_;refine G0 (zbW rfl rfl) ?_;refine G0 (oFr zdL zc7) ?_;refine G0 (oFr zan zE) ?_;refine G0 (oFr zcW zaC) ?_;refine qb4 ?_;refine G0 mR ?_;refine G0 (zbW rfl rfl) ?_;refine G0 (oFr fd_151_2 zdC) ?_;refine G0 (oFr zcW zaC) ?_;refine qb4 ?_;refine G0 (zbQ rfl rfl rfl (zbJ)) ?_;refine zab (d:=14) (p:=¬x.b.h.links=x.want.links) rfl (by simp) (fun g14=>?_) (fun g14=>?_)
 ·
  refine G0 mV ?_;refine qaa ?_;refine qaa ?_;refine qaK ?_;refine Ct ?_;refine qam ?_
  exact zb rfl rfl (za rfl (by unfold linkE;rw [if_pos (.inl g14)]))
 ·
  refine G0 mV ?_;refine G1 mR ?_;refine G1 (zbW rfl rfl) ?_;refine G1 (oFr zdL zc7) ?_;refine G1 (oFr zbR zaH) ?_;refine G1 (zf rfl rfl zbj) ?_;refine G1 mR ?_;refine G1 (zbW rfl rfl) ?_;refine G1 (oFr fd_151_0 L_Trial_t) ?_;refine G1 (zf rfl rfl zaM) ?_;refine G1 (oCl (zs (linksT_ok x.t)) rfl fn_166 ⟨(by first|exact zq rfl|exact zC rfl|exact zy rfl rfl|exact zA rfl|exact zr rfl|exact zL rfl rfl|exact zB rfl),trivial⟩) ?_
  refine G1 (oCl (equalId _ _) rfl fn_39 ⟨(by first|exact zq rfl|exact zC rfl|exact zy rfl rfl|exact zA rfl|exact zr rfl|exact zL rfl rfl|exact zB rfl),(zd rfl),trivial⟩) ?_;refine G1 oN ?_;refine qaK ?_;refine zj (p:=¬x.b.l=linksT x.t) rfl (by simp) (fun ht28=>?_) (fun ht28=>?_)
  ·
   refine qam ?_
   exact zb rfl rfl (za rfl (by unfold linkE;rw [if_pos (.inr ht28)]))
  ·
   refine CSQR ?_;refine qab ?_
   exact zb rfl rfl (za rfl (by unfold linkE;rw [if_neg (fun h=>h.elim g14 ht28)]))
theorem ask_root (x:Trial):Tells P 114 [.rptr trialT x] (.val i64T (rootE x)):=by
 refine zc Tryz.func114 rfl rfl rfl (fun ext w hext=>?_)
 refine CQR ?_;refine qaA ?_;refine qa0 ?_;refine G0 mR ?_;refine G0 (zbW rfl rfl) ?_;refine G0 (oFr zdL zc7) ?_;refine qbs ?_;refine G0 mR ?_;refine G0 (zbW rfl rfl) ?_;refine G0 (oFr fd_151_2 zdC) ?_;refine G0 (zf rfl rfl zao) ?_;refine G0 (zbQ rfl rfl rfl (eqt_38)) ?_;refine GK.nil ?_;refine zj (p:=¬x.b.h=x.want) rfl (by simp) (fun ht12=>?_) (fun ht12=>?_)
 ·
  refine qam ?_
  exact zb rfl rfl (za rfl (by unfold rootE;rw [if_pos (ht12)]))
 ·
  refine CSQR ?_;refine qab ?_
  exact zb rfl rfl (za rfl (by unfold rootE;rw [if_neg (ht12)]))
theorem ask_work (x:Trial):Tells P 115 [.rptr trialT x] (.val i64T (workE x)):=by
 refine zc Tryz.func115 rfl rfl rfl (fun ext w hext=>?_)
 refine CQR ?_;refine qbB ?_;refine A0 mR ?_;refine A0 (zbW rfl rfl) ?_;refine A0 (oFr zdL zc7) ?_;refine A0 (oFr zan zE) ?_;refine A0 (zf rfl rfl zao) ?_;refine A0 (oCl (headMay_ok _) rfl fn_76 ⟨(by first|exact zq rfl|exact zC rfl|exact zy rfl rfl|exact zA rfl|exact zr rfl|exact zL rfl rfl|exact zB rfl),trivial⟩) ?_;refine qaE ?_;refine zj (p:=¬headMay x.b.h=true) rfl (by simp) (fun ht9=>?_) (fun ht9=>?_)
 ·
  refine qam ?_
  exact zb rfl rfl (za rfl (by unfold workE;rw [if_pos (ht9)]))
 ·
  refine CSQR ?_;refine qab ?_
  exact zb rfl rfl (za rfl (by unfold workE;rw [if_neg (ht9)]))
theorem ask_coins (x:Trial) (hx:smallTrial x):TellsM P 116 (.box 151 trialT x) [.ptr 0 0] (.val i64T (coinsE x)) (.box 151 trialT (coinsX x)):=by
 refine fnm_of_aw trivial Tryz.func116 rfl rfl ⟨Nat.one_pos,trivial⟩ (fun ext pg w hext hgr=>?_)
 refine CQR ?_;refine qbF ?_;refine G0 mP ?_;refine G0 (g_nc rfl rfl) ?_;refine G0 (oFp fd_151_0) ?_;refine G0 (oFp fd_64_2) ?_;refine G0 (oLb (L_Trial_t.comp L_Tip_c) ty_62) ?_;refine G0 mP ?_;refine G0 (g_nc rfl rfl) ?_;refine G0 (oFp zdL) ?_;refine G0 (oFp zd5) ?_;refine G0 (oLb (zc7.comp zcw) ty_58) ?_;refine G0 (oCl (zcg (apply_ok x.t.c x.b.t (by have:=hx.1.2.2;omega))) rfl fn_168 ⟨(zd rfl),(zd rfl),trivial⟩) ?_;refine G0 mX ?_;refine G0 (by first|exact zW rfl rfl|exact zU rfl rfl) ?_;refine G0 (by first|exact zY rfl rfl|exact zX rfl rfl) ?_
 refine G0 aV ?_;refine qa3 ?_;refine CQR ?_;refine A0 mP ?_;refine qar ?_;refine A0 (g_nc rfl rfl) ?_;refine A0 (oFp fd_151_3) ?_;refine zh rfl rfl rfl rfl rfl L_Trial_c ty_62 rfl ?_;refine qbx ?_;refine qab ?_
 exact zdM rfl rfl rfl rfl rfl (zbs rfl rfl) (zex (zbs (x:=coinsX x) rfl rfl) rfl rfl)
theorem first_ok (x0:Trial) (l:List (Option Nat)) (hx0:smallTrial x0) (hl:∀f∈l,Asks f):TellsM P 117 (.box 151 trialT x0) [.ptr 0 0,.val (bsl fnoT) l] (.val i64T (firstE l x0)) (.box 151 trialT (firstX l x0)):=by
 refine fnm_of_aw trivial Tryz.func117 rfl rfl ⟨Nat.one_pos,⟨trivial,trivial⟩⟩ (fun ext pg w hext hgr=>?_)
 refine ze (d:=1) rfl zi (fun hsl1=>?_)
 refine CQR ?_;refine qah ?_;refine A0 (zah rfl rfl isl_155) ?_;refine qaI ?_;refine Lp (ι:=Nat×Trial) 1 (fun (i:Nat×Trial)=>match i with|(k,x)=>((((Fr.none).set 0 (.ptr 0 0)).set 8 (.val (bsl fnoT) l)).set 9 (.val i64T (l.length:Int))).set 10 (.val i64T (k:Int))) (fun (i:Nat×Trial)=>match i with|(k,x)=>(Hp.none).set 0 (.box 151 trialT x)) (fun (i:Nat×Trial)=>match i with|(k,x)=>k≤l.length∧smallTrial x∧firstE l x0=firstE (l.drop k) x∧firstX l x0=firstX (l.drop k) x) (fun (i:Nat×Trial)=>match i with|(k,x)=>l.length-k) ((0,x0)) (⟨Nat.zero_le _,hx0,rfl,rfl⟩) ?_
 intro ⟨k,x⟩ hinv
 dsimp only at hinv
 refine qao ?_;refine Cf (p:=k<l.length) (fun ht11=>?_) (fun ht11=>?_)
 ·
  obtain ⟨f,hf⟩:∃f,l[k]?=some f:=⟨_,List.getElem?_eq_getElem ht11⟩
  have hask:=hl f (List.mem_of_getElem? hf)
  rcases hask with he|he|he|he|he|he
  ·
   refine qaC ?_;refine zp (d:=14) rfl he ?_;refine zdN (d:=14) (f:=111) rfl ?_;refine A0 mP ?_;refine A0 (zeA (As:=[_]) (Cs:=[]) (ask_size x) rfl rfl fn_111 ⟨(by first|exact zfu rfl rfl (Lens.self _)|exact zev rfl rfl),trivial⟩ (by intro n hn;cases hn) trivial rfl) ?_;refine qbp ?_;refine zj (p:=¬askOf f x=0) rfl (by simp [askOf,he,IntL.toI]) (fun ht18=>?_) (fun ht18=>?_)
   ·
    refine qbK ?_;refine zD (n:=0) (y:=askX f x) rfl (by rw [he];rfl) ?_
    exact zdM rfl rfl rfl rfl rfl (zbs rfl (hinv.2.2.2.trans (zaz hf ht18).2).symm) (zex (zbs rfl (hinv.2.2.2.trans (zaz hf ht18).2).symm) rfl (by rw [hinv.2.2.1,(zaz hf ht18).1,he];rfl))
   ·
    refine qbn ?_;refine zD (n:=0) (y:=askX f x) rfl (by rw [he];rfl) ?_
    exact Nx ((k+1,askX f x)) (⟨by omega,zb1 hinv.2.1,hinv.2.2.1.trans (zbo hf (Classical.not_not.1 ht18)).1,hinv.2.2.2.trans (zbo hf (Classical.not_not.1 ht18)).2⟩) (by show l.length-(k+1)<l.length-k;omega)
  ·
   refine qaC ?_;refine zp (d:=14) rfl he ?_;refine zdN (d:=14) (f:=112) rfl ?_;refine A0 mP ?_;refine A0 (zeA (As:=[_]) (Cs:=[]) (ask_prev x) rfl rfl fn_112 ⟨(by first|exact zfu rfl rfl (Lens.self _)|exact zev rfl rfl),trivial⟩ (by intro n hn;cases hn) trivial rfl) ?_;refine qbp ?_;refine zj (p:=¬askOf f x=0) rfl (by simp [askOf,he,IntL.toI]) (fun ht18=>?_) (fun ht18=>?_)
   ·
    refine qbK ?_;refine zD (n:=0) (y:=askX f x) rfl (by rw [he];rfl) ?_
    exact zdM rfl rfl rfl rfl rfl (zbs rfl (hinv.2.2.2.trans (zaz hf ht18).2).symm) (zex (zbs rfl (hinv.2.2.2.trans (zaz hf ht18).2).symm) rfl (by rw [hinv.2.2.1,(zaz hf ht18).1,he];rfl))
   ·
    refine qbn ?_;refine zD (n:=0) (y:=askX f x) rfl (by rw [he];rfl) ?_
    exact Nx ((k+1,askX f x)) (⟨by omega,zb1 hinv.2.1,hinv.2.2.1.trans (zbo hf (Classical.not_not.1 ht18)).1,hinv.2.2.2.trans (zbo hf (Classical.not_not.1 ht18)).2⟩) (by show l.length-(k+1)<l.length-k;omega)
  ·
   refine qaC ?_;refine zp (d:=14) rfl he ?_;refine zdN (d:=14) (f:=113) rfl ?_;refine A0 mP ?_;refine A0 (zeA (As:=[_]) (Cs:=[]) (ask_link x hinv.2.1) rfl rfl fn_113 ⟨(by first|exact zfu rfl rfl (Lens.self _)|exact zev rfl rfl),trivial⟩ (by intro n hn;cases hn) trivial rfl) ?_;refine qbp ?_;refine zj (p:=¬askOf f x=0) rfl (by simp [askOf,he,IntL.toI]) (fun ht18=>?_) (fun ht18=>?_)
   ·
    refine qbK ?_;refine zD (n:=0) (y:=askX f x) rfl (by rw [he];rfl) ?_
    exact zdM rfl rfl rfl rfl rfl (zbs rfl (hinv.2.2.2.trans (zaz hf ht18).2).symm) (zex (zbs rfl (hinv.2.2.2.trans (zaz hf ht18).2).symm) rfl (by rw [hinv.2.2.1,(zaz hf ht18).1,he];rfl))
   ·
    refine qbn ?_;refine zD (n:=0) (y:=askX f x) rfl (by rw [he];rfl) ?_
    exact Nx ((k+1,askX f x)) (⟨by omega,zb1 hinv.2.1,hinv.2.2.1.trans (zbo hf (Classical.not_not.1 ht18)).1,hinv.2.2.2.trans (zbo hf (Classical.not_not.1 ht18)).2⟩) (by show l.length-(k+1)<l.length-k;omega)
  ·
   refine qaC ?_;refine zp (d:=14) rfl he ?_;refine zdN (d:=14) (f:=114) rfl ?_;refine A0 mP ?_;refine A0 (zeA (As:=[_]) (Cs:=[]) (ask_root x) rfl rfl fn_114 ⟨(by first|exact zfu rfl rfl (Lens.self _)|exact zev rfl rfl),trivial⟩ (by intro n hn;cases hn) trivial rfl) ?_;refine qbp ?_;refine zj (p:=¬askOf f x=0) rfl (by simp [askOf,he,IntL.toI]) (fun ht18=>?_) (fun ht18=>?_)
   ·
    refine qbK ?_;refine zD (n:=0) (y:=askX f x) rfl (by rw [he];rfl) ?_
    exact zdM rfl rfl rfl rfl rfl (zbs rfl (hinv.2.2.2.trans (zaz hf ht18).2).symm) (zex (zbs rfl (hinv.2.2.2.trans (zaz hf ht18).2).symm) rfl (by rw [hinv.2.2.1,(zaz hf ht18).1,he];rfl))
   ·
    refine qbn ?_;refine zD (n:=0) (y:=askX f x) rfl (by rw [he];rfl) ?_
    exact Nx ((k+1,askX f x)) (⟨by omega,zb1 hinv.2.1,hinv.2.2.1.trans (zbo hf (Classical.not_not.1 ht18)).1,hinv.2.2.2.trans (zbo hf (Classical.not_not.1 ht18)).2⟩) (by show l.length-(k+1)<l.length-k;omega)
  ·
   refine qaC ?_;refine zp (d:=14) rfl he ?_;refine zdN (d:=14) (f:=115) rfl ?_;refine A0 mP ?_;refine A0 (zeA (As:=[_]) (Cs:=[]) (ask_work x) rfl rfl fn_115 ⟨(by first|exact zfu rfl rfl (Lens.self _)|exact zev rfl rfl),trivial⟩ (by intro n hn;cases hn) trivial rfl) ?_;refine qbp ?_;refine zj (p:=¬askOf f x=0) rfl (by simp [askOf,he,IntL.toI]) (fun ht18=>?_) (fun ht18=>?_)
   ·
    refine qbK ?_;refine zD (n:=0) (y:=askX f x) rfl (by rw [he];rfl) ?_
    exact zdM rfl rfl rfl rfl rfl (zbs rfl (hinv.2.2.2.trans (zaz hf ht18).2).symm) (zex (zbs rfl (hinv.2.2.2.trans (zaz hf ht18).2).symm) rfl (by rw [hinv.2.2.1,(zaz hf ht18).1,he];rfl))
   ·
    refine qbn ?_;refine zD (n:=0) (y:=askX f x) rfl (by rw [he];rfl) ?_
    exact Nx ((k+1,askX f x)) (⟨by omega,zb1 hinv.2.1,hinv.2.2.1.trans (zbo hf (Classical.not_not.1 ht18)).1,hinv.2.2.2.trans (zbo hf (Classical.not_not.1 ht18)).2⟩) (by show l.length-(k+1)<l.length-k;omega)
  ·
   refine qaC ?_;refine zp (d:=14) rfl he ?_;refine zdN (d:=14) (f:=116) rfl ?_;refine A0 mP ?_;refine aw_calluv (ask_coins x hinv.2.1) rfl rfl fn_116 rfl trivial trivial rfl ⟨(by first|exact zbz rfl|exact zby rfl|exact zaS rfl|exact zbC rfl|exact zbA rfl|exact zbB rfl|exact zbx rfl rfl (by decide)),trivial⟩ rfl rfl rfl ?_;refine qbp ?_;refine zj (p:=¬askOf f x=0) rfl (by simp [askOf,he,IntL.toI]) (fun ht18=>?_) (fun ht18=>?_)
   ·
    refine qbK ?_;refine zD (n:=0) (y:=askX f x) rfl (by rw [he];rfl) ?_
    exact zdM rfl rfl rfl rfl rfl (zbs rfl (hinv.2.2.2.trans (zaz hf ht18).2).symm) (zex (zbs rfl (hinv.2.2.2.trans (zaz hf ht18).2).symm) rfl (by rw [hinv.2.2.1,(zaz hf ht18).1,he];rfl))
   ·
    refine qbn ?_;refine zD (n:=0) (y:=askX f x) rfl (by rw [he];rfl) ?_
    exact Nx ((k+1,askX f x)) (⟨by omega,zb1 hinv.2.1,hinv.2.2.1.trans (zbo hf (Classical.not_not.1 ht18)).1,hinv.2.2.2.trans (zbo hf (Classical.not_not.1 ht18)).2⟩) (by show l.length-(k+1)<l.length-k;omega)
 ·
  refine qbE ?_
  exact zdM rfl rfl rfl rfl rfl (zbs rfl (hinv.2.2.2.trans (first_end (by omega)).2).symm) (zex (zbs rfl (hinv.2.2.2.trans (first_end (by omega)).2).symm) rfl (hinv.2.2.1.trans (first_end (by omega)).1).symm)
set_option maxRecDepth 20000
def pushE (t:Tip) (b:Block):Int :=
  if 48≤b.h.height then 3 else if ¬behindH b.h=behindH (nextH t b.t b.h.nonce) then 5 else
  if ¬b.h.links=(nextH t b.t b.h.nonce).links∨¬b.l=linksT t then 6 else if ¬b.h=nextH t b.t b.h.nonce then 7 else
  if ¬headMay b.h=true then 4 else (applyOf t.c b.t).2
def pushT (t:Tip) (b:Block):Tip:=if pushE t b=0 then ⟨b,mmrAppend t.p (leafH b.h),(applyOf t.c b.t).1⟩ else t
def mineBE (t:Tip) (l:List Tx) (nonce:UInt64) (tries:Int):Int :=
  if 48≤(nextH t l nonce).height then 3 else if ¬(applyOf t.c l).2=0 then (applyOf t.c l).2 else if (mineOf (nextH t l nonce) tries).isSome=true then 0 else 4
def mineB (t:Tip) (l:List Tx) (nonce:UInt64) (tries:Int):Block :=
  if mineBE t l nonce tries=0 then ⟨(mineOf (nextH t l nonce) tries).getD (nextH t l nonce),linksT t,l⟩ else zBlock
theorem ask_two {x:Trial}:firstE [some 111,some 116] x=if 48≤x.b.h.height then 3 else (applyOf x.t.c x.b.t).2:=by
  show (if sizeE x=0 then (if coinsE x=0 then 0 else coinsE x) else sizeE x)=_
  unfold sizeE coinsE
  by_cases h:48≤x.b.h.height
  · rw [if_pos h,if_pos h,if_neg (by decide)]
  · rw [if_neg h,if_neg h,if_pos rfl];split<;>simp_all
theorem ite_stop {p:Prop} [Decidable p] {e r:Int} (he:e≠0):(if (if p then e else 0)=0 then r else (if p then e else 0))=if p then e else r:=by
  by_cases h:p
  · rw [if_pos h,if_pos h,if_neg he]
  · rw [if_neg h,if_neg h,if_pos rfl]
theorem ask_all {t:Tip} {b:Block} {c:List Coin}:firstE [some 111,some 112,some 113,some 114,some 115,some 116] ⟨t,b,nextH t b.t b.h.nonce,c⟩=pushE t b:=by
  obtain ⟨x,hx⟩:∃x:Trial,x=⟨t,b,nextH t b.t b.h.nonce,c⟩:=⟨_,rfl⟩
  have e:pushE t b=pushE x.t x.b:=by rw [hx]
  have hw:x.want=nextH x.t x.b.t x.b.h.nonce:=by rw [hx]
  rw [e,←hx]
  show (if sizeE x=0 then (if prevE x=0 then (if linkE x=0 then (if rootE x=0 then (if workE x=0 then (if coinsE x=0 then 0 else coinsE x) else workE x) else rootE x) else linkE x) else prevE x) else sizeE x)=_
  have hc:(if coinsE x=0 then 0 else coinsE x)=coinsE x:=by split<;>simp_all
  rw [hc]
  unfold sizeE prevE linkE rootE workE coinsE pushE
  rw [ite_stop (by decide),ite_stop (by decide),ite_stop (by decide),ite_stop (by decide),ite_stop (by decide),hw]
theorem ask_allX {t:Tip} {b:Block} {c:List Coin} (h:pushE t b=0):(firstX [some 111,some 112,some 113,some 114,some 115,some 116] ⟨t,b,nextH t b.t b.h.nonce,c⟩).c=(applyOf t.c b.t).1:=by
  obtain ⟨x,hx⟩:∃x:Trial,x=⟨t,b,nextH t b.t b.h.nonce,c⟩:=⟨_,rfl⟩
  have hw:x.want=nextH x.t x.b.t x.b.h.nonce:=by rw [hx]
  have h:pushE x.t x.b=0:=by rw [hx];exact h
  have e:(applyOf t.c b.t).1=(applyOf x.t.c x.b.t).1:=by rw [hx]
  rw [e,←hx]
  show (if sizeE x=0 then (if prevE x=0 then (if linkE x=0 then (if rootE x=0 then (if workE x=0 then (if coinsE x=0 then coinsX x else coinsX x) else x) else x) else x) else x) else x).c=_
  unfold pushE at h
  rw [←hw] at h
  by_cases h1:48≤x.b.h.height
  · rw [if_pos h1] at h;exact absurd h (by decide)
  rw [if_neg h1] at h
  by_cases h2:¬behindH x.b.h=behindH x.want
  · rw [if_pos h2] at h;exact absurd h (by decide)
  rw [if_neg h2] at h
  by_cases h3:¬x.b.h.links=x.want.links∨¬x.b.l=linksT x.t
  · rw [if_pos h3] at h;exact absurd h (by decide)
  rw [if_neg h3] at h
  by_cases h4:¬x.b.h=x.want
  · rw [if_pos h4] at h;exact absurd h (by decide)
  rw [if_neg h4] at h
  by_cases h5:¬headMay x.b.h=true
  · rw [if_pos h5] at h;exact absurd h (by decide)
  rw [if_neg h5] at h
  unfold sizeE prevE linkE rootE workE coinsE
  rw [if_neg h1,if_neg h2,if_neg h3,if_neg h4,if_neg h5,if_pos rfl,if_pos rfl,if_pos rfl,if_pos rfl,if_pos rfl,if_pos h]
  rfl
theorem asks_all:∀f∈([some 111,some 112,some 113,some 114,some 115,some 116]:List (Option Nat)),Asks f:=by intro f hf;simp at hf;unfold Asks;exact hf
theorem asks_two:∀f∈([some 111,some 116]:List (Option Nat)),Asks f:=by intro f hf;simp at hf;unfold Asks;rcases hf with h|h<;>simp [h]
theorem mineBE_err {t:Tip} {l:List Tx} {nonce:UInt64} {tries:Int} (h:¬(if 48≤(nextH t l nonce).height then 3 else (applyOf t.c l).2)=0):mineBE t l nonce tries=(if 48≤(nextH t l nonce).height then 3 else (applyOf t.c l).2):=by
  unfold mineBE
  split
  · rfl
  · rename_i h1;rw [if_neg h1] at h;rw [if_pos h]
theorem mineBE_work {t:Tip} {l:List Tx} {nonce:UInt64} {tries:Int} (h:(if 48≤(nextH t l nonce).height then 3 else (applyOf t.c l).2)=0) (h2:¬(mineOf (nextH t l nonce) tries).isSome=true):mineBE t l nonce tries=4:=by
  unfold mineBE
  split
  · rename_i h1;rw [if_pos h1] at h;exact absurd h (by decide)
  · rename_i h1;rw [if_neg h1] at h;simp only [h,h2,not_true_eq_false,if_false]
theorem mineBE_ok {t:Tip} {l:List Tx} {nonce:UInt64} {tries:Int} (h:(if 48≤(nextH t l nonce).height then 3 else (applyOf t.c l).2)=0) (h2:(mineOf (nextH t l nonce) tries).isSome=true):mineBE t l nonce tries=0:=by
  unfold mineBE
  split
  · rename_i h1;rw [if_pos h1] at h;exact absurd h (by decide)
  · rename_i h1;rw [if_neg h1] at h;simp only [h,h2,not_true_eq_false,if_false]
theorem push_ok (t:Tip) (b:Block) (ht:smallTip t) (hb:smallB b):Tells P 66 [.val tipT t,.val blockT b] (.tup2 (.val tipT (pushT t b)) (.val i64T (pushE t b))):=by
 have hbt:=hb.2.1
 have htp:=ht.2.1
 refine zc Tryz.func66 rfl rfl rfl (fun ext w hext=>?_)
 refine qav ?_;refine qbm ?_;refine qaA ?_;refine zx [some 1,some 1,some 1,some 1,some 1,some 1,some 1,some 1,some 1,some 1,none,some 1] mixed (by decide +kernel) ?_;refine X0 (oLs rfl rfl rfl zaM) ?_;refine X0 (oLs rfl rfl rfl zb8) ?_;refine X0 (oLs rfl rfl rfl zaM) ?_;refine X0 (oFp zd5) ?_;refine X0 (oLb zcw ty_58) ?_;refine X0 (oFp zan) ?_;refine X0 (oFp zeC) ?_;refine X0 (oLb (zE.comp zbG) zav) ?_;refine X0 (oCl (nextH_ok t b.t b.h.nonce (by omega) (by omega)) rfl fn_110 ⟨(zd rfl),(zd rfl),(zd rfl),trivial⟩) ?_
 refine X0 (zV rfl ze_151 bd_151 (.cons fd_151_0 L_Trial_t zaM rfl (.cons zdL zc7 zb8 rfl (.cons fd_151_2 zdC zao rfl .nil))) rfl) ?_;refine XK.e (fun fr' hfr kk H=>by exact aw_box rfl rfl rfl rfl ((hfr 18 (by decide +kernel)).trans rfl) (zz H)) ?_;refine X0 aP ?_;refine XK.nil' ?_;refine CQR ?_;refine A0 (g_buildF (xs:=[_,_,_,_,_,_]) rfl ar_153 ze_153 ⟨rfl,⟨_,rfl,rfl⟩,rfl,⟨_,rfl,rfl⟩,rfl,⟨_,rfl,rfl⟩,rfl,⟨_,rfl,rfl⟩,rfl,⟨_,rfl,rfl⟩,rfl,⟨_,rfl,rfl⟩,trivial⟩ rfl) ?_;refine zI ze_153 rfl rfl rfl rfl ?_
 refine zh rfl rfl rfl rfl rfl (Lens.self _) ty_153 rfl ?_;refine CNQ ?_;refine CQ ?_;refine zbe (d:=7) rfl rfl (Lens.self _) ?_;refine CR ?_;refine A0 mP ?_;refine A0 (zae rfl rfl ar_153 rfl rfl) ?_
 refine aw_callu (first_ok ⟨t,b,nextH t b.t b.h.nonce,[]⟩ [some 111,some 112,some 113,some 114,some 115,some 116] ⟨ht,by show b.t.length≤4000000000000;omega⟩ asks_all) rfl fn_117 rfl trivial trivial rfl ⟨(by first|exact zbz rfl|exact zby rfl|exact zaS rfl|exact zbC rfl|exact zbA rfl|exact zbB rfl|exact zbx rfl rfl (by decide)),(by first|exact zbz rfl|exact zby rfl|exact zaS rfl|exact zbC rfl|exact zbA rfl|exact zbB rfl|exact zbx rfl rfl (by decide)),trivial⟩ rfl rfl rfl ?_;refine zp (d:=23) rfl ask_all ?_;refine qa7 ?_
 refine qaB ?_;refine zj (p:=¬pushE t b=0) rfl (by simp [IntL.toI]) (fun ht25=>?_) (fun ht25=>?_)
 ·
  refine CQR ?_;refine A0 (oLs rfl rfl rfl zaM) ?_;refine A0 (oCl (own_ok t ht) rfl fn_118 ⟨(zd rfl),trivial⟩) ?_;refine qar ?_;refine qan ?_;refine qab ?_
  exact zF rfl rfl (zw rfl rfl zaM (by unfold pushT;rw [if_neg ht25])) (zac (za rfl (rfl)))
 ·
  refine CS ?_;refine CQ ?_;refine zx [some 1,some 1,some 1,some 1,some 1,some 1,some 1,some 1,some 1,some 1,some 1,some 1,some 1,none,some 1] mixed (by decide +kernel) ?_;refine X0 (oLs rfl rfl rfl zb8) ?_;refine X0 (oCl (copied_ok b hb) rfl fn_119 ⟨(zd rfl),trivial⟩) ?_;refine X0 (oFp zeB) ?_;refine X0 (oLb zeH ty_61) ?_;refine X0 (oFp zan) ?_;refine X0 (oLb zE zao) ?_;refine X0 (oCl (leafH_ok _) rfl fn_75 ⟨(zd rfl),trivial⟩) ?_;refine X0 (oCl (zs (mmrAppend_ok t.p (leafH b.h) (by omega))) rfl fn_74 ⟨(zd rfl),(zd rfl),trivial⟩) ?_;refine X0 mP ?_
  refine X0 (g_nc rfl rfl) ?_;refine X0 (oFp fd_151_3) ?_;refine X0 (oLb L_Trial_c ty_62) ?_;refine X0 (zV rfl ze_64 bd_64 (.cons zcH za6 zb8 rfl (.cons zeB zeH ty_61 rfl (.cons fd_64_2 L_Tip_c ty_62 rfl .nil))) rfl) ?_;refine XK.e (x:=.idk) (fun fr' hfr kk H=>by exact zh rfl rfl rfl ((hfr 4 (by decide +kernel)).trans rfl) rfl (Lens.self _) zaM ((hfr 41 (by decide +kernel)).trans rfl) (zz H)) ?_;refine X0 aV ?_;refine XK.nil' ?_
  exact zF rfl rfl (zw rfl rfl zaM (by unfold pushT;rw [if_pos (Classical.not_not.1 ht25),ask_allX (Classical.not_not.1 ht25)])) (zac (za rfl ((Classical.not_not.1 ht25).symm)))
theorem mineB_ok (t:Tip) (l:List Tx) (nonce:UInt64) (tries:Int) (ht:smallTip t) (hl:smallL l):Tells P 121 [.val tipT t,.val (sl txT) l,.val u64T nonce,.val i64T tries] (.tup2 (.val blockT (mineB t l nonce tries)) (.val i64T (mineBE t l nonce tries))):=by
 have hbt:=hl.1
 have htp:=ht.2.1
 refine zc Tryz.func121 rfl rfl rfl (fun ext w hext=>?_)
 refine ze (d:=1) rfl zi (fun hsl1=>?_)
 refine ze (d:=3) rfl zQ (fun hin3=>?_)
 refine qad ?_;refine zI ze_60 rfl rfl rfl rfl ?_;refine qai ?_;refine A0 (oLs rfl rfl rfl zaM) ?_;refine qag ?_;refine A0 (oCl (nextH_ok t l nonce (by omega) (by omega)) rfl fn_110 ⟨(zd rfl),(zd rfl),(zd rfl),trivial⟩) ?_;refine qaM ?_;refine CNQR ?_;refine A0 (oLs rfl rfl rfl zaM) ?_;refine qb1 ?_;refine qar ?_;refine A0 (zV rfl ze_60 bd_60 (.cons zan zE zao rfl (.cons zd5 zcw ty_58 rfl .nil)) rfl) ?_;refine qb1 ?_
 refine A0 (zV rfl ze_151 bd_151 (.cons fd_151_0 L_Trial_t zaM rfl (.cons zdL zc7 zb8 rfl (.cons fd_151_2 zdC zao rfl .nil))) rfl) ?_;refine aw_box rfl rfl rfl rfl rfl ?_;refine A0 aP ?_;refine CNQQR ?_;refine A0 mP ?_;refine A0 (g_bslF (xs:=[_,_]) rfl sl_155 row_155 ⟨rfl,⟨_,rfl,rfl⟩,rfl,⟨_,rfl,rfl⟩,trivial⟩ rfl rfl) ?_
 refine aw_callu (first_ok ⟨t,⟨nextH t l nonce,[],l⟩,nextH t l nonce,[]⟩ [some 111,some 116] ⟨ht,by show l.length≤4000000000000;omega⟩ asks_two) rfl fn_117 rfl trivial trivial rfl ⟨(by first|exact zbz rfl|exact zby rfl|exact zaS rfl|exact zbC rfl|exact zbA rfl|exact zbB rfl|exact zbx rfl rfl (by decide)),(by first|exact zbz rfl|exact zby rfl|exact zaS rfl|exact zbC rfl|exact zbA rfl|exact zbB rfl|exact zbx rfl rfl (by decide)),trivial⟩ rfl rfl rfl ?_;refine zp (d:=27) rfl ask_two ?_;refine qa7 ?_;refine qaB ?_
 refine zj (p:=¬(if 48≤(nextH t l nonce).height then 3 else (applyOf t.c l).2)=0) rfl (by simp [IntL.toI]) (fun ht29=>?_) (fun ht29=>?_)
 ·
  have hE:mineBE t l nonce tries=(if 48≤(nextH t l nonce).height then 3 else (applyOf t.c l).2):=mineBE_err ht29
  refine CQR ?_;refine A0 (zV rfl ze_60 bd_60 .nil rfl) ?_;refine qar ?_;refine qbv ?_;refine qab ?_
  exact zF rfl rfl (zw rfl rfl zb8 (by unfold mineB;rw [hE,if_neg ht29])) (zac (za rfl (hE.symm)))
 ·
  refine CSQR ?_;refine qb1 ?_;refine qar ?_;refine A0 (oCl (mine_ok (nextH t l nonce) tries) rfl fn_177 ⟨(zd rfl),(zd rfl),trivial⟩) ?_;refine A0 mX ?_;refine A0 (by first|exact zW rfl rfl|exact zU rfl rfl) ?_;refine A0 (by first|exact zY rfl rfl|exact zX rfl rfl) ?_;refine zh rfl rfl rfl rfl rfl (Lens.self _) zao rfl ?_;refine qah ?_;refine qaE ?_;refine zj (p:=¬(mineOf (nextH t l nonce) tries).isSome=true) rfl (by cases (mineOf (nextH t l nonce) tries).isSome<;>rfl) (fun ht39=>?_) (fun ht39=>?_)
  ·
   have hE:mineBE t l nonce tries=4:=mineBE_work (Classical.not_not.1 ht29) ht39
   refine CQR ?_;refine A0 (zV rfl ze_60 bd_60 .nil rfl) ?_;refine qbv ?_;refine qab ?_
   exact zF rfl rfl (zw rfl rfl zb8 (by unfold mineB;rw [hE];rfl)) (zac (za rfl (hE.symm)))
  ·
   have hE:mineBE t l nonce tries=0:=mineBE_ok (Classical.not_not.1 ht29) (Classical.not_not.1 ht39)
   refine CS ?_;refine CQ ?_;refine zx [some 1,some 1,some 1,some 1,some 1,some 1,none,some 1] mixed (by decide +kernel) ?_;refine X0 (oLs rfl rfl rfl zao) ?_;refine X0 (oLs rfl rfl rfl zaM) ?_;refine X0 (oCl (zs (linksT_ok t)) rfl fn_166 ⟨(zd rfl),trivial⟩) ?_;refine X0 mV ?_;refine X0 (oCl (zs (txs_ok l hl)) rfl fn_170 ⟨(zd rfl),trivial⟩) ?_;refine X0 (zV rfl ze_60 bd_60 (.cons zan zE zao rfl (.cons zbR zaH zbj rfl (.cons zd5 zcw ty_58 rfl .nil))) rfl) ?_
   refine XK.e (x:=.idk) (fun fr' hfr kk H=>by exact zh rfl rfl rfl ((hfr 8 (by decide +kernel)).trans rfl) rfl (Lens.self _) zb8 ((hfr 46 (by decide +kernel)).trans rfl) (zz H)) ?_;refine X0 aV ?_;refine XK.nil' ?_
   exact zF rfl rfl (zw rfl rfl zb8 (by unfold mineB;rw [hE,if_pos rfl])) (zac (za rfl (hE.symm)))
set_option maxRecDepth 20000
theorem rpush_prev {h w:Head}:behindH h=behindH w↔h.height=w.height∧h.prev=w.prev∧h.bits=w.bits:=by
  unfold behindH
  constructor
  · intro e
    injection e with e1 e2 e3 e4 e5 e6 e7 e8
    exact ⟨e1,e2,e7⟩
  · rintro ⟨e1,e2,e3⟩
    rw [e1,e2,e3]
theorem rpush_root {t : Tip} {b : Block} (h1 : b.h.height = (nextH t b.t b.h.nonce).height ∧ b.h.prev = (nextH t b.t b.h.nonce).prev ∧ b.h.bits = (nextH t b.t b.h.nonce).bits) (h2 : b.h.links = (nextH t b.t b.h.nonce).links) :
    b.h=nextH t b.t b.h.nonce↔b.h.txs=(nextH t b.t b.h.nonce).txs∧b.h.past=(nextH t b.t b.h.nonce).past∧b.h.work=(nextH t b.t b.h.nonce).work:=by
  obtain ⟨w,hw⟩:∃w,w=nextH t b.t b.h.nonce:=⟨_,rfl⟩
  have hn:b.h.nonce=w.nonce:=by rw [hw];rfl
  rw [←hw] at h1 h2 ⊢
  obtain ⟨e1,e2,e3⟩:=h1
  constructor
  · intro e;rw [e];exact ⟨rfl,rfl,rfl⟩
  · rintro ⟨f1,f2,f3⟩
    generalize b.h=x at *
    cases x;cases w
    simp only at *
    subst e1 e2 e3 h2 f1 f2 f3 hn
    rfl
theorem za1 {t : Tip} {b : Block} {w : Head} (hw : w = nextH t b.t b.h.nonce) : pushE t b =
    if 48≤b.h.height then 3 else if ¬(b.h.height=w.height∧b.h.prev=w.prev∧b.h.bits=w.bits) then 5 else
    if ¬b.h.links=w.links∨¬b.l=linksT t then 6 else if ¬(b.h.txs=w.txs∧b.h.past=w.past∧b.h.work=w.work) then 7 else
    if ¬headMay b.h=true then 4 else (applyOf t.c b.t).2:=by
  subst hw
  unfold pushE
  simp only [rpush_prev]
  by_cases h1:48≤b.h.height
  · rw [if_pos h1,if_pos h1]
  rw [if_neg h1,if_neg h1]
  by_cases h2:b.h.height=(nextH t b.t b.h.nonce).height∧b.h.prev=(nextH t b.t b.h.nonce).prev∧b.h.bits=(nextH t b.t b.h.nonce).bits
  · have h2':¬¬(b.h.height=(nextH t b.t b.h.nonce).height∧b.h.prev=(nextH t b.t b.h.nonce).prev∧b.h.bits=(nextH t b.t b.h.nonce).bits):=fun h=>h h2
    rw [if_neg h2',if_neg h2']
    by_cases h3:¬b.h.links=(nextH t b.t b.h.nonce).links∨¬b.l=linksT t
    · rw [if_pos h3,if_pos h3]
    rw [if_neg h3,if_neg h3]
    have h3':b.h.links=(nextH t b.t b.h.nonce).links:=Classical.not_not.1 fun h=>h3 (.inl h)
    simp only [rpush_root h2 h3']
  · rw [if_pos h2,if_pos h2]
theorem zb9 {t:Tip} {b:Block} {e:Int} (h:pushE t b=e) (he:e≠0):t=pushT t b:=by unfold pushT;rw [h,if_neg he]
theorem rpush_ok0 {t:Tip} {b:Block} (h:pushE t b=0):(⟨b,mmrAppend t.p (leafH b.h),(applyOf t.c b.t).1⟩:Tip)=pushT t b:=by unfold pushT;rw [if_pos h]
theorem rleafH_ok (h:Head):Tells P 106 [.val headT h] (.val totalT (leafH h)):=by
 refine zc Tryz.func106 rfl rfl rfl (fun ext w hext=>?_)
 refine qad ?_;refine qbt ?_;refine CNQ ?_;refine zx [some 1,some 1,some 1,some 1,some 1,none] mixed (by decide +kernel) ?_;refine X0 (oLs rfl rfl rfl zao) ?_;refine X0 (oCl (zdf h) rfl fn_51 ⟨(zd rfl),trivial⟩) ?_;refine X0 (oLs rfl rfl rfl zao) ?_;refine X0 (oCl (rheadWork_ok h) rfl fn_163 ⟨(zd rfl),trivial⟩) ?_;refine X0 (oCl (rmleaf_ok (headId h) (headWork h)) rfl fn_162 ⟨(zd rfl),(zd rfl),trivial⟩) ?_
 refine XK.e (x:=.idk) (fun fr' hfr kk H=>by exact zh rfl rfl rfl ((hfr 2 (by decide +kernel)).trans rfl) rfl (Lens.self _) zaI ((hfr 7 (by decide +kernel)).trans rfl) (zz H)) ?_;refine XK.nil' ?_
 exact zu rfl rfl rfl rfl zaI (rfl)
theorem rfirstTip_ok (bits:UInt32):Tells P 61 [.val u32T bits] (.tup2 (.val tipT (firstTip bits)) (.val boolT (tgtOk bits))):=by
 refine zc Tryz.func61 rfl rfl rfl (fun ext w hext=>?_)
 refine CQR ?_;refine qbm ?_;refine qa7 ?_;refine A0 (oCl (rtarget_ok bits) rfl fn_92 ⟨(zd rfl),trivial⟩) ?_;refine A0 mX ?_;refine A0 (by first|exact zW rfl rfl|exact zU rfl rfl) ?_;refine A0 (by first|exact zY rfl rfl|exact zX rfl rfl) ?_;refine qcm ?_;refine qah ?_;refine qaE ?_;refine zj (p:=¬tgtOk bits=true) rfl (by cases tgtOk bits<;>rfl) (fun ht13=>?_) (fun ht13=>?_)
 ·
  refine CQR ?_;refine A0 (zV rfl ze_64 bd_64 .nil rfl) ?_;refine qan ?_;refine qab ?_
  exact zF rfl rfl (zw rfl rfl zaM (by unfold firstTip;rw [if_neg ht13])) (zac (za rfl (by simpa using ht13)))
 ·
  refine CSQR ?_;refine A0 (oCl (zdu [] (by decide)) rfl fn_53 ⟨(by first|exact zq rfl|exact zC rfl|exact zy rfl rfl|exact zA rfl|exact zr rfl|exact zL rfl rfl|exact zB rfl),trivial⟩) ?_;refine A0 (oCl (rtxRoot_ok [] (by decide)) rfl fn_103 ⟨(by first|exact zq rfl|exact zC rfl|exact zy rfl rfl|exact zA rfl|exact zr rfl|exact zL rfl rfl|exact zB rfl),trivial⟩) ?_
  refine A0 (oCl (rmmrRoot_ok [] (by decide)) rfl fn_104 ⟨(by first|exact zq rfl|exact zC rfl|exact zy rfl rfl|exact zA rfl|exact zr rfl|exact zL rfl rfl|exact zB rfl),trivial⟩) ?_;refine A0 (g_field rfl rfl zcC zb0 zM) ?_;refine qar ?_;refine A0 (zV rfl ze_38 bd_38 (.cons zcW zaC zM rfl (.cons zeE zcm zM rfl (.cons zeD zbY zM rfl (.cons zbk zad z8 rfl .nil)))) rfl) ?_;refine qaM ?_;refine CNQ ?_
  refine zx [some 1,some 1,some 1,some 1,some 1,some 1,none,some 1] mixed (by decide +kernel) ?_;refine X0 (oLs rfl rfl rfl zao) ?_;refine X0 (zV rfl ze_60 bd_60 (.cons zan zE zao rfl .nil) rfl) ?_;refine X0 (oLs rfl rfl rfl zao) ?_;refine X0 (oCl (rleafH_ok (firstH bits)) rfl fn_106 ⟨(zd rfl),trivial⟩) ?_;refine X0 (oCl (rmmrAppend_ok [] (leafH (firstH bits)) (by decide)) rfl fn_105 ⟨(by first|exact zq rfl|exact zC rfl|exact zy rfl rfl|exact zA rfl|exact zr rfl|exact zL rfl rfl|exact zB rfl),(zd rfl),trivial⟩) ?_
  refine X0 (zV rfl ze_64 bd_64 (.cons zcH za6 zb8 rfl (.cons zeB zeH ty_61 rfl .nil)) rfl) ?_;refine XK.e (x:=.idk) (fun fr' hfr kk H=>by exact zh rfl rfl rfl ((hfr 2 (by decide +kernel)).trans rfl) rfl (Lens.self _) zaM ((hfr 26 (by decide +kernel)).trans rfl) (zz H)) ?_;refine X0 aV ?_;refine XK.nil' ?_
  exact zF rfl rfl (zw rfl rfl zaM (by unfold firstTip;rw [if_pos (Classical.not_not.1 ht13)];rfl)) (zac (za rfl ((Classical.not_not.1 ht13).symm)))
theorem rlinksT_ok (t:Tip):Tells P 157 [.val tipT t] (.fresh 32 idT (linksT t)):=by
 refine zc Tryz.func157 rfl rfl rfl (fun ext w hext=>?_)
 refine qbi ?_;refine CNQ ?_;refine zx [some 1,some 1,some 1,some 1,some 1,some 1,some 1,some 1,some 1,some 1,some 1,none,some 1] mixed (by decide +kernel) ?_;refine X0 (oFp zcH) ?_;refine X0 (oFp zbR) ?_;refine X0 (oLb (za6.comp zaH) zbj) ?_;refine qbu ?_;refine X0 (oLb (za6.comp zE) zao) ?_;refine X0 (oCl (zdf t.b.h) rfl fn_51 ⟨(zd rfl),trivial⟩) ?_;refine qbu ?_;refine X0 (oLb (za6.comp zE) zao) ?_;refine X0 (oCl (ze7 t.b.h) rfl fn_52 ⟨(zd rfl),trivial⟩) ?_
 refine XK.e (fun fr' hfr kk H=>by exact zaE (rlinkNext_ok t.b.l (headId t.b.h) (headLevel t.b.h)) rfl fn_200 ⟨(zd ((hfr 5 (by decide +kernel)).trans rfl)),(zd ((hfr 9 (by decide +kernel)).trans rfl)),(zd ((hfr 13 (by decide +kernel)).trans rfl)),trivial⟩ rfl rfl rfl (zz H)) ?_;refine X0 aO ?_;refine XK.nil' ?_
 exact zb rfl rfl (zg rfl rfl rfl)
theorem rnextH_ok (t:Tip) (l:List Tx) (nonce:UInt64) (hl:l.length≤4000000000000) (hp:t.p.length≤1000000):Tells P 156 [.val tipT t,.val (bsl txT) l,.val u64T nonce] (.val headT (nextH t l nonce)):=by
 have hlk:(linksT t).length≤64:=linkNext_len
 refine zc Tryz.func156 rfl rfl rfl (fun ext w hext=>?_)
 refine ze (d:=1) rfl zi (fun hsl1=>?_)
 refine qad ?_;refine zI ze_38 rfl rfl rfl rfl ?_;refine CNQR ?_;refine A0 (oFp zeB) ?_;refine A0 (oLb zeH ty_61) ?_;refine A0 (oCl (rmmrRoot_ok t.p hp) rfl fn_104 ⟨(zd rfl),trivial⟩) ?_;refine qbt ?_;refine qaH ?_;refine CNQ ?_;refine zx [some 1,some 1,some 1,some 1,some 1,some 1,some 1,some 1,some 1,some 1,some 1,some 1,some 1,some 1,some 1,some 1,some 1,some 1,some 1,some 1,some 1,some 1,some 1,some 1,none] mixed (by decide +kernel) ?_;refine qbu ?_;refine X0 (oFp zbH) ?_;refine X0 (oLb ((za6.comp zE).comp zS) ty_3) ?_;refine X0 zaG ?_
 refine qbu ?_;refine X0 (oLb (za6.comp zE) zao) ?_;refine X0 (oCl (zdf t.b.h) rfl fn_51 ⟨(zd rfl),trivial⟩) ?_;refine X0 (oLs rfl rfl rfl zaM) ?_;refine X0 (oCl (zs (rlinksT_ok t)) rfl fn_157 ⟨(zd rfl),trivial⟩) ?_;refine X0 (oCl (zdu (linksT t) (by omega)) rfl fn_53 ⟨(zd rfl),trivial⟩) ?_;refine X0 mV ?_;refine X0 (oCl (rtxRoot_ok l hl) rfl fn_103 ⟨(zd rfl),trivial⟩) ?_;refine X0 (oFp zcC) ?_;refine X0 (oLb zb0 zM) ?_;refine X0 (oFp zfk) ?_;refine X0 (oLb zeb zZ) ?_;refine qbu ?_;refine X0 (oFp zbk) ?_
 refine X0 (oLb ((za6.comp zE).comp zad) z8) ?_;refine X0 mV ?_;refine X0 (zV rfl ze_38 bd_38 (.cons zbH zS ty_3 rfl (.cons zcX zaO zM rfl (.cons zcW zaC zM rfl (.cons zeE zcm zM rfl (.cons zeD zbY zM rfl (.cons fd_38_5 zcJ zZ rfl (.cons zbk zad z8 rfl (.cons zeC zbG zav rfl .nil)))))))) rfl) ?_
 refine XK.e (x:=.idk) (fun fr' hfr kk H=>by exact zh rfl rfl rfl ((hfr 6 (by decide +kernel)).trans rfl) rfl (Lens.self _) zao ((hfr 34 (by decide +kernel)).trans rfl) (zz H)) ?_;refine XK.nil' ?_
 exact zu rfl rfl rfl rfl zao (rfl)
theorem rpush_ok (t:Tip) (b:Block) (hbt:b.t.length≤4000000000000) (htp:t.p.length≤1000000):Tells P 102 [.val tipT t,.val blockT b] (.tup2 (.val tipT (pushT t b)) (.val i64T (pushE t b))):=by
 obtain ⟨q,hw⟩:∃q,q=nextH t b.t b.h.nonce:=⟨_,rfl⟩
 have hN:=rnextH_ok t b.t b.h.nonce hbt htp
 rw [←hw] at hN
 refine zc Tryz.func102 rfl rfl rfl (fun ext w hext=>?_)
 refine qav ?_;refine qbm ?_;refine qai ?_;refine A0 (oLs rfl rfl rfl zaM) ?_;refine qbX ?_;refine A0 (oFp zan) ?_;refine A0 (oFp zeC) ?_;refine A0 (oLb (zE.comp zbG) zav) ?_;refine A0 (oCl (hN) rfl fn_156 ⟨(zd rfl),(zd rfl),(zd rfl),trivial⟩) ?_;refine qaM ?_;refine CNQQR ?_;refine A0 (oFp zan) ?_;refine A0 (oFp zbH) ?_;refine A0 (oLb (zE.comp zS) ty_3) ?_;refine qbk ?_;refine zj (p:=48≤b.h.height) rfl (by simp [IntL.toI]) (fun ht21=>?_) (fun ht21=>?_)
 ·
  refine qaG ?_
  exact zF rfl rfl (zw rfl rfl zaM (zb9 (e:=3) (by rw [za1 hw,if_pos ht21]) (by decide))) (zac (za rfl (Eq.symm (a:=pushE t b) (by rw [za1 hw,if_pos ht21]))))
 ·
  refine CSQQR ?_;refine A0 (oFp zan) ?_;refine A0 (oFp zbH) ?_;refine A0 (oLb (zE.comp zS) ty_3) ?_;refine qaZ ?_;refine A0 zd2 ?_;refine qar ?_;refine zaa (d:=29) (p:=¬b.h.height=q.height) rfl (by simp [IntL.toI]) (fun g29=>?_) (fun g29=>?_)
  ·
   refine qac ?_;refine qbf ?_;refine qbA ?_;refine Ct ?_;refine qaG ?_
   exact zF rfl rfl (zw rfl rfl zaM (zb9 (e:=5) (by rw [za1 hw,if_neg ht21,if_pos (fun h=>g29 h.1)]) (by decide))) (zac (za rfl (Eq.symm (a:=pushE t b) (by rw [za1 hw,if_neg ht21,if_pos (fun h=>g29 h.1)]))))
  ·
   refine A1 (oFp zan) ?_;refine A1 (oFp zcX) ?_;refine A1 (oLb (zE.comp zaO) zM) ?_;refine A1 (oFp zcX) ?_;refine A1 (oLb zaO zM) ?_;refine A1 (zbQ rfl rfl rfl (zbJ)) ?_;refine qaw ?_;refine zaa (d:=37) (p:=¬b.h.prev=q.prev) rfl (by simp) (fun g37=>?_) (fun g37=>?_)
   ·
    refine qac ?_;refine qbA ?_;refine Ct ?_;refine qaG ?_
    exact zF rfl rfl (zw rfl rfl zaM (zb9 (e:=5) (by rw [za1 hw,if_neg ht21,if_pos (fun h=>g37 h.2.1)]) (by decide))) (zac (za rfl (Eq.symm (a:=pushE t b) (by rw [za1 hw,if_neg ht21,if_pos (fun h=>g37 h.2.1)]))))
   ·
    refine A1 (oFp zan) ?_;refine A1 (oFp zbk) ?_;refine A1 (oLb (zE.comp zad) z8) ?_;refine A1 (oFp zbk) ?_;refine A1 (oLb zad z8) ?_;refine A1 zd2 ?_;refine qaq ?_;refine zj (p:=¬b.h.bits=q.bits) rfl (by have e:IntL.toI u32T b.h.bits=IntL.toI u32T q.bits↔b.h.bits=q.bits:=⟨fun h=>UInt32.toNat_inj.1 (Int.ofNat_inj.1 h),fun h=>by rw [h]⟩;simp [e]) (fun ht44=>?_) (fun ht44=>?_)
    ·
     refine qaG ?_
     exact zF rfl rfl (zw rfl rfl zaM (zb9 (e:=5) (by rw [za1 hw,if_neg ht21,if_pos (fun h=>ht44 h.2.2)]) (by decide))) (zac (za rfl (Eq.symm (a:=pushE t b) (by rw [za1 hw,if_neg ht21,if_pos (fun h=>ht44 h.2.2)]))))
    ·
     refine CS ?_;refine qa0 ?_;refine G0 (oFp zbR) ?_;refine G0 (oLb zaH zbj) ?_;refine G0 (oLs rfl rfl rfl zaM) ?_;refine G0 (oCl (zs (rlinksT_ok t)) rfl fn_157 ⟨(zd rfl),trivial⟩) ?_;refine G0 (oCl (refIds_ok b.l (linksT t)) rfl fn_16 ⟨(zd rfl),(zd rfl),trivial⟩) ?_;refine qa3 ?_;refine qa9 ?_;refine A0 oN ?_;refine qar ?_;refine zaa (d:=53) (p:=¬b.l=linksT t) rfl (by simp) (fun g53=>?_) (fun g53=>?_)
     ·
      refine qac ?_;refine qbA ?_;refine Ct ?_;refine qaG ?_
      exact zF rfl rfl (zw rfl rfl zaM (zb9 (e:=6) (by rw [za1 hw,if_neg ht21,if_neg (fun h=>h ⟨Classical.not_not.1 g29,Classical.not_not.1 g37,Classical.not_not.1 ht44⟩),if_pos (.inr g53)]) (by decide))) (zac (za rfl (Eq.symm (a:=pushE t b) (by rw [za1 hw,if_neg ht21,if_neg (fun h=>h ⟨Classical.not_not.1 g29,Classical.not_not.1 g37,Classical.not_not.1 ht44⟩),if_pos (.inr g53)]))))
     ·
      refine A1 (oFp zan) ?_;refine A1 (oFp zcW) ?_;refine A1 (oLb (zE.comp zaC) zM) ?_;refine A1 (oFp zcW) ?_;refine A1 (oLb zaC zM) ?_;refine A1 (zbQ rfl rfl rfl (zbJ)) ?_;refine qaq ?_;refine zj (p:=¬b.h.links=q.links) rfl (by simp) (fun ht60=>?_) (fun ht60=>?_)
      ·
       refine qaG ?_
       exact zF rfl rfl (zw rfl rfl zaM (zb9 (e:=6) (by rw [za1 hw,if_neg ht21,if_neg (fun h=>h ⟨Classical.not_not.1 g29,Classical.not_not.1 g37,Classical.not_not.1 ht44⟩),if_pos (.inl ht60)]) (by decide))) (zac (za rfl (Eq.symm (a:=pushE t b) (by rw [za1 hw,if_neg ht21,if_neg (fun h=>h ⟨Classical.not_not.1 g29,Classical.not_not.1 g37,Classical.not_not.1 ht44⟩),if_pos (.inl ht60)]))))
      ·
       refine CSQQR ?_;refine A0 (oFp zan) ?_;refine A0 (oFp zeE) ?_;refine A0 (oLb (zE.comp zcm) zM) ?_;refine A0 (oFp zeE) ?_;refine A0 (oLb zcm zM) ?_;refine A0 (zbQ rfl rfl rfl (zbJ)) ?_;refine qar ?_;refine zaa (d:=68) (p:=¬b.h.txs=q.txs) rfl (by simp) (fun g68=>?_) (fun g68=>?_)
       ·
        refine qac ?_;refine qbf ?_;refine qbA ?_;refine Ct ?_;refine qaG ?_
        exact zF rfl rfl (zw rfl rfl zaM (zb9 (e:=7) (by rw [za1 hw,if_neg ht21,if_neg (fun h=>h ⟨Classical.not_not.1 g29,Classical.not_not.1 g37,Classical.not_not.1 ht44⟩),if_neg (fun h=>h.elim ht60 g53),if_pos (fun h=>g68 h.1)]) (by decide))) (zac (za rfl (Eq.symm (a:=pushE t b) (by rw [za1 hw,if_neg ht21,if_neg (fun h=>h ⟨Classical.not_not.1 g29,Classical.not_not.1 g37,Classical.not_not.1 ht44⟩),if_neg (fun h=>h.elim ht60 g53),if_pos (fun h=>g68 h.1)]))))
       ·
        refine A1 (oFp zan) ?_;refine A1 (oFp zeD) ?_;refine A1 (oLb (zE.comp zbY) zM) ?_;refine A1 (oFp zeD) ?_;refine A1 (oLb zbY zM) ?_;refine A1 (zbQ rfl rfl rfl (zbJ)) ?_;refine qaw ?_;refine zaa (d:=76) (p:=¬b.h.past=q.past) rfl (by simp) (fun g76=>?_) (fun g76=>?_)
        ·
         refine qac ?_;refine qbA ?_;refine Ct ?_;refine qaG ?_
         exact zF rfl rfl (zw rfl rfl zaM (zb9 (e:=7) (by rw [za1 hw,if_neg ht21,if_neg (fun h=>h ⟨Classical.not_not.1 g29,Classical.not_not.1 g37,Classical.not_not.1 ht44⟩),if_neg (fun h=>h.elim ht60 g53),if_pos (fun h=>g76 h.2.1)]) (by decide))) (zac (za rfl (Eq.symm (a:=pushE t b) (by rw [za1 hw,if_neg ht21,if_neg (fun h=>h ⟨Classical.not_not.1 g29,Classical.not_not.1 g37,Classical.not_not.1 ht44⟩),if_neg (fun h=>h.elim ht60 g53),if_pos (fun h=>g76 h.2.1)]))))
        ·
         refine A1 (oFp zan) ?_;refine A1 (oFp fd_38_5) ?_;refine A1 (oLb (zE.comp zcJ) zZ) ?_;refine A1 (oFp fd_38_5) ?_;refine A1 (oLb zcJ zZ) ?_;refine A1 (zbQ rfl rfl rfl (eqt_35)) ?_;refine qaq ?_;refine zj (p:=¬b.h.work=q.work) rfl (by simp) (fun ht83=>?_) (fun ht83=>?_)
         ·
          refine qaG ?_
          exact zF rfl rfl (zw rfl rfl zaM (zb9 (e:=7) (by rw [za1 hw,if_neg ht21,if_neg (fun h=>h ⟨Classical.not_not.1 g29,Classical.not_not.1 g37,Classical.not_not.1 ht44⟩),if_neg (fun h=>h.elim ht60 g53),if_pos (fun h=>ht83 h.2.2)]) (by decide))) (zac (za rfl (Eq.symm (a:=pushE t b) (by rw [za1 hw,if_neg ht21,if_neg (fun h=>h ⟨Classical.not_not.1 g29,Classical.not_not.1 g37,Classical.not_not.1 ht44⟩),if_neg (fun h=>h.elim ht60 g53),if_pos (fun h=>ht83 h.2.2)]))))
         ·
          refine CSQR ?_;refine A0 (oFp zan) ?_;refine A0 (oLb zE zao) ?_;refine A0 (oCl (rheadMay_ok b.h) rfl fn_64 ⟨(zd rfl),trivial⟩) ?_;refine qah ?_;refine qaE ?_;refine zj (p:=¬headMay b.h=true) rfl (by cases headMay b.h<;>rfl) (fun ht89=>?_) (fun ht89=>?_)
          ·
           refine qaG ?_
           exact zF rfl rfl (zw rfl rfl zaM (zb9 (e:=4) (by rw [za1 hw,if_neg ht21,if_neg (fun h=>h ⟨Classical.not_not.1 g29,Classical.not_not.1 g37,Classical.not_not.1 ht44⟩),if_neg (fun h=>h.elim ht60 g53),if_neg (fun h=>h ⟨Classical.not_not.1 g68,Classical.not_not.1 g76,Classical.not_not.1 ht83⟩),if_pos ht89]) (by decide))) (zac (za rfl (Eq.symm (a:=pushE t b) (by rw [za1 hw,if_neg ht21,if_neg (fun h=>h ⟨Classical.not_not.1 g29,Classical.not_not.1 g37,Classical.not_not.1 ht44⟩),if_neg (fun h=>h.elim ht60 g53),if_neg (fun h=>h ⟨Classical.not_not.1 g68,Classical.not_not.1 g76,Classical.not_not.1 ht83⟩),if_pos ht89]))))
          ·
           refine CSQR ?_;refine A0 (oFp fd_64_2) ?_;refine A0 (oLb L_Tip_c ty_62) ?_;refine qbX ?_;refine A0 (oCl (rapply_ok t.c b.t) rfl fn_158 ⟨(zd rfl),(zd rfl),trivial⟩) ?_;refine A0 mX ?_;refine A0 (by first|exact zW rfl rfl|exact zU rfl rfl) ?_;refine A0 (by first|exact zY rfl rfl|exact zX rfl rfl) ?_;refine A0 aV ?_;refine qah ?_;refine qaB ?_;refine zj (p:=¬(applyOf t.c b.t).2=0) rfl (by simp [IntL.toI]) (fun ht100=>?_) (fun ht100=>?_)
           ·
            refine CQR ?_;refine A0 (oLs rfl rfl rfl zaM) ?_;refine qar ?_;refine qan ?_;refine qab ?_
            exact zF rfl rfl (zw rfl rfl zaM (zb9 (e:=(applyOf t.c b.t).2) (by rw [za1 hw,if_neg ht21,if_neg (fun h=>h ⟨Classical.not_not.1 g29,Classical.not_not.1 g37,Classical.not_not.1 ht44⟩),if_neg (fun h=>h.elim ht60 g53),if_neg (fun h=>h ⟨Classical.not_not.1 g68,Classical.not_not.1 g76,Classical.not_not.1 ht83⟩),if_neg ht89]) ht100)) (zac (za rfl (Eq.symm (a:=pushE t b) (by rw [za1 hw,if_neg ht21,if_neg (fun h=>h ⟨Classical.not_not.1 g29,Classical.not_not.1 g37,Classical.not_not.1 ht44⟩),if_neg (fun h=>h.elim ht60 g53),if_neg (fun h=>h ⟨Classical.not_not.1 g68,Classical.not_not.1 g76,Classical.not_not.1 ht83⟩),if_neg ht89]))))
           ·
            refine CS ?_;refine CQ ?_;refine zx [some 1,some 1,some 1,some 1,some 1,some 1,some 1,some 1,some 1,none,some 1] mixed (by decide +kernel) ?_;refine X0 (oLs rfl rfl rfl zb8) ?_;refine X0 (oFp zeB) ?_;refine X0 (oLb zeH ty_61) ?_;refine X0 (oFp zan) ?_;refine X0 (oLb zE zao) ?_;refine X0 (oCl (rleafH_ok b.h) rfl fn_106 ⟨(zd rfl),trivial⟩) ?_;refine X0 (oCl (rmmrAppend_ok t.p (leafH b.h) htp) rfl fn_105 ⟨(zd rfl),(zd rfl),trivial⟩) ?_;refine X0 mV ?_
            refine X0 (zV rfl ze_64 bd_64 (.cons zcH za6 zb8 rfl (.cons zeB zeH ty_61 rfl (.cons fd_64_2 L_Tip_c ty_62 rfl .nil))) rfl) ?_;refine XK.e (x:=.idk) (fun fr' hfr kk H=>by exact zh rfl rfl rfl ((hfr 4 (by decide +kernel)).trans rfl) rfl (Lens.self _) zaM ((hfr 111 (by decide +kernel)).trans rfl) (zz H)) ?_;refine X0 aV ?_;refine XK.nil' ?_
            exact zF rfl rfl (zw rfl rfl zaM (rpush_ok0 (by rw [za1 hw,if_neg ht21,if_neg (fun h=>h ⟨Classical.not_not.1 g29,Classical.not_not.1 g37,Classical.not_not.1 ht44⟩),if_neg (fun h=>h.elim ht60 g53),if_neg (fun h=>h ⟨Classical.not_not.1 g68,Classical.not_not.1 g76,Classical.not_not.1 ht83⟩),if_neg ht89,Classical.not_not.1 ht100]))) (zac (za rfl (Eq.symm (a:=pushE t b) (by rw [za1 hw,if_neg ht21,if_neg (fun h=>h ⟨Classical.not_not.1 g29,Classical.not_not.1 g37,Classical.not_not.1 ht44⟩),if_neg (fun h=>h.elim ht60 g53),if_neg (fun h=>h ⟨Classical.not_not.1 g68,Classical.not_not.1 g76,Classical.not_not.1 ht83⟩),if_neg ht89,Classical.not_not.1 ht100]))))
set_option maxRecDepth 20000
def s2:Ab.Id:=[219,193,180,201,0,255,228,141,87,91,93,165,198,56,4,1,37,246,93,176,254,62,36,73,75,118,234,152,100,87,217,134]
def s4:Ab.Id:=[229,45,156,80,140,80,35,71,52,77,140,7,173,145,203,214,6,138,252,117,255,98,146,240,98,160,156,163,129,200,158,113]
def id0:Ab.Id:=[204,117,100,156,217,35,11,173,35,93,199,149,159,68,227,45,148,39,20,174,85,27,122,223,187,132,2,33,173,199,16,195]
def lk0:Ab.Id:=[191,122,202,251,39,175,213,3,220,82,240,192,217,1,99,0,242,60,209,156,152,127,176,94,46,148,67,11,109,16,112,47]
def easyH:Head:=⟨0,zId,s2,s2,s4,zWide,545259519,0⟩
def easyN (n:UInt64):Head:=⟨1,id0,lk0,s2,id0,[2,0,0,0],545259519,n⟩
theorem sum_s2:shaSum [2]=s2:=by kernel_rfl
theorem sum_s4:shaSum [4]=s4:=by kernel_rfl
theorem root_nil:rootOf []=s2:=by rw [rootOf,if_pos (show ([]:List Ab.Id).length=0 from rfl),sum_s2]
theorem root_one (x:Ab.Id):rootOf [x]=x:=by rw [rootOf,if_neg (show ¬[x].length=0 by simp),dif_pos (show [x].length≤1 by simp)];rfl
theorem easy_first:firstH 545259519=easyH:=by
  have e1:linkRoot []=s2:=root_nil
  have e2:txRoot []=s2:=root_nil
  have e3:(mmrRoot []).h=s4:=sum_s4
  unfold firstH;rw [e1,e2,e3];rfl
theorem easy_id:headId easyH=id0:=by kernel_rfl
theorem easy_work:headWork easyH=[2,0,0,0]:=by kernel_rfl
theorem easy_level:headLevel easyH=31:=by kernel_rfl
theorem easy_ok:tgtOk 545259519=true:=by kernel_rfl
theorem easy_lk:leafOf id0=lk0:=by kernel_rfl
theorem easy_may0:headMay (easyN 0)=false:=by kernel_rfl
theorem easy_may1:headMay (easyN 1)=true:=by kernel_rfl
set_option maxRecDepth 20000
def few (t:Tx):Bool:=decide (t.ins.length≤6∧t.outs.length≤6)
theorem few_ok (t:Tx):Tells P 89 [.val txT t] (.val boolT (few t)):=by
 refine zc Tryz.func89 rfl rfl rfl (fun ext w hext=>?_)
 refine qad ?_;refine qai ?_;refine qa1 ?_;refine A0 zey ?_;refine Sp (d:=6) (p:=t.ins.length≤6) (fun g6=>?_) (fun g6=>?_)
 ·
  refine qar ?_;refine qaO ?_;refine A1 zey ?_;refine qaW ?_
  exact zb rfl rfl (za rfl (by unfold few;symm;first|(rw [decide_eq_decide];simp only [IntL.toI,id_eq];omega)|(apply decide_eq_false;omega)|(simp [g6];done)|(simp [g6];omega)))
 ·
  refine qar ?_;refine qaJ ?_;refine qaW ?_
  exact zb rfl rfl (za rfl (by unfold few;symm;first|(rw [decide_eq_decide];simp only [IntL.toI,id_eq];omega)|(apply decide_eq_false;omega)|(simp [g6];done)|(simp [g6];omega)))
theorem fewAll_ok (l:List Tx) (m:Int):Tells P 50 [.val (bsl txT) l,.val i64T m] (.val boolT (l.all few&&decide ((l.length:Int)≤m))):=by
 refine zc Tryz.func50 rfl rfl rfl (fun ext w hext=>?_)
 refine ze (d:=0) rfl zi (fun hsl0=>?_)
 refine ze (d:=1) rfl zQ (fun hin1=>?_)
 refine CQR ?_;refine qbr ?_;refine Lp (ι:=Nat) 0 (fun (k:Nat)=>(((Fr.none).set 0 (.val (bsl txT) l)).set 1 (.val i64T m)).set 5 (.val i64T (k:Int))) (fun (k:Nat)=>Hp.none) (fun (k:Nat)=>k≤l.length∧(l.take k).all few=true) (fun (k:Nat)=>l.length-k) (0) (⟨Nat.zero_le _,rfl⟩) ?_
 intro k hinv
 refine qbg ?_;refine qbq ?_;refine qaz ?_;refine Cf (p:=k<l.length) (fun ht10=>?_) (fun ht10=>?_)
 ·
  obtain ⟨t,ht⟩:∃t,l[k]?=some t:=⟨_,List.getElem?_eq_getElem ht10⟩
  refine CSQBQR ?_;refine qag ?_;refine A0 (zaQ rfl rfl rfl zec (by assumption)) ?_;refine qbT ?_;refine A0 (oCl (few_ok _) rfl fn_89 ⟨(by first|exact zq rfl|exact zC rfl|exact zy rfl rfl|exact zA rfl|exact zr rfl|exact zL rfl rfl|exact zB rfl),trivial⟩) ?_;refine qa7 ?_;refine qaE ?_;refine zj (p:=¬few t=true) rfl (by simp) (fun ht19=>?_) (fun ht19=>?_)
  ·
   refine qam ?_
   exact zb rfl rfl (za rfl (by symm;rw [Bool.and_eq_false_iff];left;rw [List.all_eq_false];exact ⟨t,List.mem_of_getElem? ht,ht19⟩))
  ·
   refine qb3 ?_
   exact Nx (k+1) (⟨by omega,by rw [List.take_add_one,ht,List.all_append,hinv.2];simp [Classical.not_not.1 ht19]⟩) (by omega)
 ·
  refine CE ?_;refine qa2 ?_;refine qbq ?_;refine qar ?_;refine A0 zey ?_;refine qab ?_
  exact zb rfl rfl (za rfl (by rw [List.take_of_length_le (by omega)] at hinv;rw [hinv.2,Bool.true_and];rfl))
set_option maxRecDepth 20000
def leaf0:Total:=leafT id0 [2,0,0,0]
def easyTip:Tip:=⟨⟨easyH,[],[]⟩,[leaf0],[]⟩
def easyB:Block:=⟨easyN 1,[id0],[]⟩
def leaf1:Total:=leafH (easyN 1)
def easyTip2:Tip:=⟨easyB,mmrAppend [leaf0] leaf1,[]⟩
theorem easy_leaf:leafH easyH=leaf0:=by unfold leafH leaf0;rw [easy_id,easy_work]
theorem easy_tip:firstTip 545259519=easyTip:=by unfold firstTip;rw [if_pos easy_ok,easy_first,easy_leaf];rfl
theorem easy_links:linksT easyTip=[id0]:=by
  show linkNext [] (headId easyH) (headLevel easyH)=_
  rw [easy_id];unfold linkNext;rw [if_neg (show ¬32<([]:List Ab.Id).length by decide),if_pos (show ([]:List Ab.Id).length=0 from rfl)]
theorem easy_next (n:UInt64):nextH easyTip [] n=easyN n:=by
  have e1:linkRoot [id0]=lk0:=(root_one _).trans easy_lk
  have e2:txRoot []=s2:=root_nil
  unfold nextH
  rw [easy_links,e1,e2]
  show (⟨_,headId easyH,_,_,_,_,_,_⟩:Head)=_
  rw [easy_id];rfl
theorem easy_mine:mineOf (easyN 0) 200=some (easyN 1):=by
  unfold mineOf
  rw [mineFrom_step (by decide) (by rw [easy_may0];decide)]
  exact mineFrom_yes (by decide) easy_may1
theorem apply_nil:applyOf [] []=([],0):=by kernel_rfl
theorem easy_mineE:mineBE easyTip [] 0 200=0:=by
  unfold mineBE
  rw [easy_next,if_neg (by decide),show (applyOf easyTip.c []).2=0 from congrArg (·.2) apply_nil,if_neg (by decide),easy_mine];rfl
theorem easy_mineB:mineB easyTip [] 0 200=easyB:=by
  unfold mineB
  rw [easy_mineE,if_pos rfl,easy_next,easy_mine,easy_links];rfl
theorem easy_pushE:pushE easyTip easyB=0:=by
  unfold pushE
  have e:nextH easyTip easyB.t easyB.h.nonce=easyB.h:=easy_next 1
  rw [e,if_neg (by decide),if_neg (by simp),if_neg (by rw [easy_links];simp [easyB]),if_neg (by simp),if_neg (by rw [show headMay easyB.h=true from easy_may1];simp)]
  exact congrArg (·.2) apply_nil
theorem easy_pushT:pushT easyTip easyB=easyTip2:=by
  unfold pushT
  rw [easy_pushE,if_pos rfl,show (applyOf easyTip.c easyB.t).1=[] from congrArg (·.1) apply_nil];rfl
theorem small_easyB:smallB easyB:=by refine ⟨by decide,by decide,fun t ht=>by cases ht⟩
def fewB (b:Block):Bool:=(b.t.all few&&decide ((b.t.length:Int)≤6))&&decide (b.l.length≤40)
theorem few_small {l:List Tx} (h:(l.all few&&decide ((l.length:Int)≤6))=true):smallL l:=by
  rw [Bool.and_eq_true,decide_eq_true_eq] at h
  refine ⟨by omega,fun t ht=>?_⟩
  have:=List.all_eq_true.1 h.1 t ht
  unfold few at this
  rw [decide_eq_true_eq] at this
  exact ⟨by omega,by omega⟩
theorem fewB_small {b:Block} (h:fewB b=true):smallB b:=by
  unfold fewB at h
  rw [Bool.and_eq_true,decide_eq_true_eq] at h
  exact ⟨by omega,few_small h.1⟩
set_option maxRecDepth 20000
theorem eq_u32 {x y:UInt32}:decide (IntL.toI u32T x=IntL.toI u32T y)=decide (x=y):=by rw [decide_eq_decide];show ((x.toNat:Nat):Int)=((y.toNat:Nat):Int)↔_;rw [Int.ofNat_inj,UInt32.toNat_inj]
theorem pushR_len:∀(r:List Total) (x:Total),(pushR r x).length≤r.length+1
  | [],_=>Nat.le_refl _
  | y::r,x=>by
    rw [pushR]
    split
    · have:=pushR_len r (joinT y x);rw [List.length_cons];omega
    · rw [List.length_cons];omega
theorem mmrAppend_len {p:List Total} {x:Total}:(mmrAppend p x).length≤p.length+1:=by
  unfold mmrAppend
  have:=pushR_len p.reverse x
  rw [List.length_reverse] at this ⊢;exact this
theorem apply_may {p:List Coin} {l:List Tx} (h:(applyOf p l).2=0):mayCoins p=true:=by
  refine Classical.byContradiction fun hn=>?_
  unfold applyOf at h
  rw [if_pos hn] at h
  exact absurd h (show ¬(1:Int)=0 by decide)
theorem push_iff {t:Tip} {b:Block}:pushE t b=0↔b.h.height<48∧b.h=nextH t b.t b.h.nonce∧b.l=linksT t∧headMay b.h=true∧(applyOf t.c b.t).2=0:=by
  constructor
  · intro h
    unfold pushE at h
    by_cases h1:48≤b.h.height
    · rw [if_pos h1] at h;exact absurd h (by decide)
    rw [if_neg h1] at h
    by_cases h2:¬behindH b.h=behindH (nextH t b.t b.h.nonce)
    · rw [if_pos h2] at h;exact absurd h (by decide)
    rw [if_neg h2] at h
    by_cases h3:¬b.h.links=(nextH t b.t b.h.nonce).links∨¬b.l=linksT t
    · rw [if_pos h3] at h;exact absurd h (by decide)
    rw [if_neg h3] at h
    by_cases h4:¬b.h=nextH t b.t b.h.nonce
    · rw [if_pos h4] at h;exact absurd h (by decide)
    rw [if_neg h4] at h
    by_cases h5:¬headMay b.h=true
    · rw [if_pos h5] at h;exact absurd h (by decide)
    rw [if_neg h5] at h
    exact ⟨by omega,Classical.not_not.1 h4,Classical.not_not.1 fun hc=>h3 (.inr hc),Classical.not_not.1 h5,h⟩
  · rintro ⟨h1,h2,h3,h4,h5⟩
    unfold pushE
    rw [if_neg (by omega),if_neg (Classical.not_not.2 (congrArg behindH h2)),if_neg (fun h=>h.elim (fun h=>h (congrArg (·.links) h2)) fun h=>h h3),if_neg (Classical.not_not.2 h2),if_neg (Classical.not_not.2 h4)]
    exact h5
theorem zfi {a:UInt32} (h:tgtOk a=true):firstTip a=⟨⟨firstH a,[],[]⟩,[leafH (firstH a)],[]⟩:=by unfold firstTip;rw [if_pos h];rfl
set_option maxRecDepth 20000
theorem pushT_eq {t:Tip} {b:Block} (h:pushE t b=0):pushT t b=⟨b,mmrAppend t.p (leafH b.h),(applyOf t.c b.t).1⟩:=by unfold pushT;rw [if_pos h]
end Go.Proofs.YtjldddonpfopaaaGreat
