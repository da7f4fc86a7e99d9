/- Parts of the proof: the layer that reads Go values as data, and what the functions of the program tell. -/
import Derived.Test.YtjjlfapfjjkomaaGreatK8
set_option linter.unusedVariables false
set_option linter.unusedSimpArgs false
set_option maxRecDepth 20000
namespace Go.Proofs.YtjjlfapfjjkomaaGreat
open Go.Ab Go.RowKit
def idK (M:List UInt8) (k:Nat):List UInt8:=M.take k++List.replicate (32-k) 0
theorem zvS (M:List UInt8):idK M 0=List.replicate 32 0:=by unfold idK;simp
theorem zvT {M:List UInt8} {k:Nat} {x:UInt8} (hx:M[k]?=some x) (hk:k<32):(idK M k).set k x=idK M (k+1):=by
  have hkl:=(ul.1 hx).1;have hl:(M.take k).length=k:=yb7;unfold idK;rw[List.set_append_right _ _ ya,hl,Nat.sub_self,show 32-k=(32-(k+1))+1 by omega,List.replicate_succ,List.set_cons_zero,un,hx,List.append_assoc];rfl
theorem idK_all {M:List UInt8} (h:M.length=32):idK M 32=M:=by
  unfold idK;rw[uc ya];simp
theorem idK_len {M:List UInt8} (h:M.length=32) {k:Nat} (hk:k≤32):(idK M k).length=32:=by
  unfold idK;rw[ue,um,List.length_replicate];omega
theorem rget4 {b:List UInt8} {i:Nat} (h:i+4≤b.length):getU b (i:Int) 4=valU ((b.drop i).take 4):=by
  rw[zgT (by unfold zdy;rw[uj];omega)];rfl
theorem rget8 {b:List UInt8} {i:Nat} (h:i+8≤b.length):getU b (i:Int) 8=valU ((b.drop i).take 8):=by
  rw[zgT (by unfold zdy;rw[uj];omega)];rfl
theorem rref_is {b:List UInt8} (hl:b.length=176) {x:Head} (h1:x.height=IntKind.i64.wrap (IntL.toI u64T (getU b 0 4))) (h2:x.prev=(b.drop 4).take 32) (h3:x.links=(b.drop 36).take 32) (h4:x.txs=(b.drop 68).take 32) (h5:x.past=(b.drop 100).take 32)
    (h6:x.work=ze8 ((b.drop 132).take 32)) (h7:x.bits=zd8 (IntL.toI u64T (getU b 164 4))) (h8:x.nonce=getU b 168 8):x=zaI b:=by
  have g1:getU b 0 4=valU (b.take 4):=rget4 (i:=0) ya;have g7:getU b 164 4=valU ((b.drop 164).take 4):=rget4 (i:=164) ya;have g8:getU b 168 8=valU ((b.drop 168).take 8):=rget8 (i:=168) ya;rw[g1,zfG yb7] at h1;rw[g7,u32_of yb7] at h7;rw[g8] at h8;exact head_mk (h1.trans yaG) (h2.trans yaG) (h3.trans yaG) (h4.trans yaG) (h5.trans yaG) (h6.trans yaG) (h7.trans yaG) (h8.trans yaG)
theorem rget_h {b:List UInt8} (hl:b.length=176):(getU b 0 4).toNat=(valU (b.take 4)).toNat:=by rw[show getU b 0 4=valU (b.take 4) from rget4 (i:=0) ya]
theorem zkA (b:List UInt8) (p:Nat) (h:p+32≤b.length):Tells P 151 [.val (bsl u8T) b,.val i64T (p:Int)] (.val idT ((b.drop p).take 32)):=by
 obtain⟨M,hM⟩:∃M,M=(b.drop p).take 32:=⟨_,rfl⟩;have hml:M.length=32:=ycF;refine zc Tryz.func151 rfl rfl rfl (fun ext w hext=>?_);refine ze (d:=0) rfl zi (fun hsl0=>?_);refine ze (d:=1) rfl zu (fun hin1=>?_);refine qbD ?_;refine qaB ?_;refine qaw ?_;refine zJ (n:=1) (y:=idK M 0) rfl (by rw[zvS];rfl) ?_;refine Lp (ι:=Nat) 2 (fun (k:Nat)=>(((((Fr.none).set 0 (.val (bsl u8T) b)).set 1 (.val i64T (p:Int))).set 4 (.ptr 0 0)).set 5 (.ptr 1 0)).set 6 (.val i64T (k:Int))) (fun (k:Nat)=>((Hp.none).set 0 (.box 46 idT zId)).set 1 (.box 46 idT (idK M k))) (fun (k:Nat)=>k≤32) (fun (k:Nat)=>32-k) (0) (uf _) ?_;intro k hinv;refine qaF ?_;refine qav ?_;refine Cf (p:=k<32) (fun ht8=>?_) (fun ht8=>?_)
 ·
  obtain⟨x,hx⟩:∃x,M[k]?=some x:=yq;have hbx:b[p+k]?=some x:=by rw[hM,List.getElem?_take,ut ya,List.getElem?_drop] at hx;exact hx
  have hkl:=idK_len hml (Nat.le_of_lt ht8);refine qa8 ?_;refine CR ?_;refine qad ?_;refine qad ?_;refine A0 (zo9 rfl rfl rfl (show _=(((p+k:Nat):Int):Int) from(zah ya).trans ya)) ?_;refine A0 (zr (i:=p+k) rfl rfl rfl ya zb4 yh) ?_;refine A0 (zh rfl rfl ty_5) ?_;refine A0 (zG (i:=k) rfl rfl rfl yi zfj ya) ?_;refine zg rfl rfl rfl rfl rfl (Lens.elem (i:=k) ya u8T) ty_5 rfl ?_;refine qaK ?_;refine zJ (n:=1) (y:=idK M (k+1)) rfl (zvT hx ht8) ?_;exact Nx (k+1) ya ya
 refine qdl ?_;refine qb4 ?_;refine qaq ?_;exact zF rfl rfl rfl rfl zab (by rw[show k=32 by omega,idK_all hml,hM])
theorem zsp (b:List UInt8):Tells P 98 [.val (bsl u8T) b] (.tup2 (.val zbx (zg3 b)) (.val zs (zbi b))):=by
 refine zc Tryz.func98 rfl rfl rfl (fun ext w hext=>?_);refine ze (d:=0) rfl zi (fun hsl0=>?_);refine CQR ?_;refine qcm ?_;refine qaj ?_;refine qcr ?_;refine qaO ?_;refine zq (p:=¬b.length=176) rfl y9 (fun ht12=>?_) (fun ht12=>?_)
 ·
  have hno:¬zbi b=true:=by unfold zbi;rw[uk,uj];exact fun h=>ht12 h.1
  refine CQR ?_;refine A0 (zB rfl znd zpc .nil rfl) ?_;refine qaH ?_;refine qac ?_;exact zn rfl rfl (zt rfl rfl zaM ((zmL hno).symm)) (zS (za rfl ((Bool.eq_false_iff.2 hno).symm)))
 have hl:b.length=176:=ua ht12;refine qbw ?_;refine A0 (oCl (znL b 0 4) rfl fn_96 yz) ?_;refine qb1 ?_;refine qbT ?_;refine zq (p:=1048576<(getU b 0 4).toNat) rfl (by rw[uo];show((1048576:Int)<((getU b 0 4).toNat:Int))↔_;omega) (fun ht20=>?_) (fun ht20=>?_)
 ·
  have hno:¬zbi b=true:=fun h=>by unfold zbi at h;rw[uk,uj,uj] at h;have:=rget_h hl;omega
  refine CQR ?_;refine A0 (zB rfl znd zpc .nil rfl) ?_;refine qaH ?_;refine qac ?_;exact zn rfl rfl (zt rfl rfl zaM ((zmL hno).symm)) (zS (za rfl ((Bool.eq_false_iff.2 hno).symm)))
 have hyes:zbi b=true:=by unfold zbi;rw[uk,uj,uj];exact⟨hl,by have:=rget_h hl;omega⟩
 refine qbw ?_;refine A0 (oCl (znL b 164 4) rfl fn_96 yz) ?_;refine qa6 ?_;refine A0 aV ?_;refine qaA ?_;refine A0 (oCl (znL b 168 8) rfl fn_96 yz) ?_;refine qa6 ?_;refine A0 aV ?_;refine qaA ?_;refine A0 (zhy rfl (ui_3) (zqs) rfl (rfl)) ?_;refine qau ?_;refine A0 (oCl (zkA b 4 ya) rfl zta ye) ?_;refine qau ?_;refine A0 (oCl (zkA b 36 ya) rfl zta ye) ?_;refine qau ?_;refine A0 (oCl (zkA b 68 ya) rfl zta ye) ?_;refine qau ?_;refine A0 (oCl (zkA b 100 ya) rfl zta ye) ?_;refine qau ?_;refine A0 (oCl (zkA b 132 ya) rfl zta ye) ?_;refine A0 (oCl (zsx _) rfl fn_152 yc) ?_;refine qau ?_;refine A0 (g_cv32 rfl (ui_50) (zqs) rfl) ?_;refine qau ?_;refine A0 (zB rfl znd zpc (.cons zc9 zap ty_3 rfl (.cons zfv zb8 zab rfl (.cons zex zbg zab rfl (.cons zfu zcF zab rfl (.cons zft zb9 zab rfl (.cons zg7 zcT zal rfl (.cons zce zaq zbp rfl (.cons zfs zbK za9 rfl .nil)))))))) rfl) ?_;refine qaH ?_;refine qac ?_;refine zJ (n:=0) (y:=zaI b) rfl (rref_is hl yb6 yb6 yb6 yb6 yb6 yb6 yb6 yb6) ?_;exact zn rfl rfl (zt rfl rfl zaM ((zkC hyes).symm)) (zS (za rfl (hyes.symm)))
set_option maxRecDepth 20000
theorem zhr {L M:List Int} (hL:L.Pairwise (· < ·)) (hM:M.Pairwise (· < ·)) (h:∀x,x∈L↔x∈M):L=M:=by
  have d1:L.Nodup:=hL.imp fun h e=>by omega
  have d2:M.Nodup:=hM.imp fun h e=>by omega
  refine((List.perm_ext_iff_of_nodup d1 d2).2 h).eq_of_pairwise (le:=fun a b=>a≤b) (fun a b _ _ h1 h2=>Int.le_antisymm h1 h2) (hL.imp fun h=>by omega) (hM.imp fun h=>by omega)
theorem mayV_step {v:List Int} {k:Nat} {y:Int} (hy:v[k]?=some y) (h:∀n∈v.take k,0≤n∧n≤31) (h0:0≤y) (h1:y≤31):∀n∈v.take (k+1),0≤n∧n≤31:=fun n hn=>by
  rw[un,hy] at hn;rcases List.mem_append.1 hn with hn|hn
  · exact h n hn
  have:n=y:=ycr
  rw[this];exact⟨h0,h1⟩
theorem mayV_no {v:List Int} {k:Nat} {y:Int} (hy:v[k]?=some y) (h:y<0∨31<y):mayV v=false:=by
  unfold mayV
  have:(v.any fun n=>decide (n<0∨31<n))=true:=List.any_eq_true.2 ⟨y,ud hy,ui h⟩
  rw[this,Bool.not_true,Bool.and_false]
theorem mayV_yes {v:List Int} {k:Nat} (h0:1≤v.length) (h1:v.length≤200) (h2:v[0]?=some 31) (hk:v.length≤k) (h:∀n∈v.take k,0≤n∧n≤31):mayV v=true:=by
  rw[uc hk] at h;unfold mayV;rw[ui ⟨by omega,h1,h2⟩,Bool.true_and,Bool.not_eq_true',List.any_eq_false];intro n hn
  have:=h n hn
  rw[uj];omega
def upA (v:List Int) (a b n:Int) (i:Nat):List Int:=((List.range i).filter fun j:Nat=>decide (a≤(j:Int)∧(j:Int)<b∧n≤v.getD j 0)).map fun j:Nat=>(j:Int)
theorem upA_yes {v:List Int} {a b n y:Int} {i:Nat} (hy:v[i]?=some y) (h1:a≤(i:Int)) (h2:(i:Int)<b) (h3:n≤y):upA v a b n (i+1)=upA v a b n i++[(i:Int)]:=by
  unfold upA;rw[List.range_succ,List.filter_append,List.map_append];have e:v.getD i 0=y:=ybH
  have:decide (a≤(i:Int)∧(i:Int)<b∧n≤v.getD i 0)=true:=ui ⟨h1,h2,by rw[e];exact h3⟩
  have hf:List.filter (fun j:Nat=>decide (a≤(j:Int)∧(j:Int)<b∧n≤v.getD j 0)) [i]=[i]:=ycH;rw[hf];rfl
theorem upA_no {v:List Int} {a b n y:Int} {i:Nat} (hy:v[i]?=some y) (h:¬(a≤(i:Int)∧(i:Int)<b∧n≤y)):upA v a b n (i+1)=upA v a b n i:=by
  unfold upA;rw[List.range_succ,List.filter_append,List.map_append];have e:v.getD i 0=y:=ybH
  have:decide (a≤(i:Int)∧(i:Int)<b∧n≤v.getD i 0)=false:=uh (by rw[e];exact h)
  have hf:List.filter (fun j:Nat=>decide (a≤(j:Int)∧(j:Int)<b∧n≤v.getD j 0)) [i]=[]:=ycH;rw[hf];simp
theorem upA_len (v:List Int) (a b n:Int) (i:Nat):(upA v a b n i).length≤i:=by
  unfold upA;rw[List.length_map];exact Nat.le_trans (List.length_filter_le _ _) yw
theorem upA_all {v:List Int} {a b n:Int} {i:Nat} (h1:i≤v.length) (h2:v.length≤i):upA v a b n i=upOf v a b n:=by
  refine zhr ?_ (ze1 v a b n) fun x=>?_
  · unfold upA
    rw[List.pairwise_map];exact(List.pairwise_lt_range.filter _).imp fun h=>by omega
  rw[zec];unfold upA;simp only[List.mem_map,List.mem_filter,List.mem_range,uj]
  constructor
  · rintro ⟨j,⟨h3,h4,h5,h6⟩,rfl⟩;exact⟨j,rfl,h4,h5,by omega,h6⟩
  rintro ⟨j,rfl,h4,h5,h3,h6⟩;exact⟨j,⟨by omega,h4,h5,h6⟩,rfl⟩
def zdD (v:List Int) (m k n:Int):Int:=if ¬mayP v m k=true then -1 else if 31<n then 0 else if ((upOf v 0 ((v.length:Int)-k) (n+1)).length:Int)<m then 0 else (upOf v 0 ((v.length:Int)-k) (n+1)).getD ((upOf v 0 ((v.length:Int)-k) (n+1)).length-m.toNat) 0
theorem zor {v:List Int} {m k n:Int} (h:¬mayP v m k=true):zdD v m k n = -1:=by unfold zdD;rw[ut h]
theorem mayP_of {v:List Int} {m k:Int} (h:mayV v=true) (h1:¬m<1) (h2:¬k<1) (h3:¬(v.length:Int)≤k):mayP v m k=true:=by unfold mayP;rw[h,Bool.true_and];exact ui ya
theorem zmU {v:List Int} {m k:Int} (h:¬mayV v=true∨m<1∨k<1∨(v.length:Int)≤k):¬mayP v m k=true:=fun hp=>by
  obtain⟨h1,h2,h3,h4⟩:=zcY hp;rcases h with h|h
  · exact h h1
  omega
theorem from_high {v:List Int} {m k n:Int} (h:mayP v m k=true) (hn:31<n):zdD v m k n=0:=by unfold zdD;rw[ur (fun c=>c h),ut hn]
theorem zkS {v L:List Int} {m k n:Int} (h:mayP v m k=true) (hn:¬31<n) (hL:L=upOf v 0 ((v.length:Int)-k) (n+1)) (hl:(L.length:Int)<m):zdD v m k n=0:=by unfold zdD;rw[ur (fun c=>c h),ur hn,←hL,ut hl]
theorem zrq {v L:List Int} {m k n c:Int} (h:mayP v m k=true) (hn:¬31<n) (hL:L=upOf v 0 ((v.length:Int)-k) (n+1)) (hl:¬(L.length:Int)<m) (hc:L[L.length-m.toNat]?=some c):zdD v m k n=c:=by
  unfold zdD;rw[ur (fun c=>c h),ur hn,←hL,ur hl];simp[hc]
theorem from_pos {v:List Int} {m k:Int} (h:mayP v m k=true):0≤zdD v m k 0:=by
  obtain⟨_,h2,_,_⟩:=zcY h;obtain⟨L,hL⟩:∃L,L=upOf v 0 ((v.length:Int)-k) (0+1):=⟨_,rfl⟩;by_cases hl:(L.length:Int)<m
  · rw[zkS h ya hL hl];exact Int.le_refl _
  obtain⟨c,hc⟩:∃c,L[L.length-m.toNat]?=some c:=yq;rw[zrq h ya hL hl hc];have hm:=ud hc;rw[hL] at hm;obtain⟨j,rfl,_⟩:=zec.1 hm;omega
theorem up_tail (v:List Int) {a b n:Int} (ha:0≤a):∃pre,upOf v 0 b n=pre++upOf v a b n∧∀x∈pre,x<a:=by
  refine⟨(upOf v 0 b n).filter fun x=>decide (x<a),?_,fun x hx=>?_⟩
  · refine zhr (ze1 ..) ?_ fun x=>?_
    · rw[List.pairwise_append]
      refine⟨(ze1 ..).filter _,ze1 ..,fun x hx y hy=>?_⟩;have h1:=of_decide_eq_true (List.mem_filter.1 hx).2;obtain⟨j,rfl,h2,_⟩:=zec.1 hy;omega
    rw[List.mem_append,List.mem_filter,zec,zec]
    constructor
    · rintro ⟨j,rfl,h1,h2⟩
      by_cases c:(j:Int)<a
      · exact .inl ⟨⟨j,rfl,h1,h2⟩,ui c⟩
      exact .inr ⟨j,rfl,by omega,h2⟩
    rintro (⟨h,_⟩|⟨j,rfl,h1,h2⟩)
    · exact h
    exact⟨j,rfl,by omega,h2⟩
  exact of_decide_eq_true (List.mem_filter.1 hx).2
theorem zp7 {v:List Int} {m k:Int} (h:mayP v m k=true):∀i:Nat,i≤32→(zaA v m k i).1=zdD v m k (31-(i:Int)+0)
  | 0,_=>by
    obtain⟨h1,h2,h3,h4⟩:=zcY h;have hL:upOf v 0 ((v.length:Int)-k) (31-((0:Nat):Int)+0+1)=[]:=by
      apply List.eq_nil_iff_forall_not_mem.2;intro x hx;obtain⟨j,rfl,_,_,h5,h6⟩:=zec.1 hx;have hv:=((zet h1).2.2.2 _ (List.getElem_mem h5)).2;rw[uq,ub h5] at h6;simp at h6;omega
    rw[zkS h ya hL.symm yy];rfl
  | i+1,hi=>by
    have ih:=zp7 h i ya;obtain⟨h1,h2,h3,h4⟩:=zcY h;have hc:=(zjr h i ya).1;have hcut:=ztq (v:=v) h4 h2 i;obtain⟨a,ha⟩:∃a,a=(zaA v m k i).1:=⟨_,rfl⟩;rw[←ha] at ih hc hcut;obtain⟨n,hn⟩:∃n:Int,n=31-(i:Int):=⟨_,rfl⟩;obtain⟨L,hL⟩:∃L,L=upOf v a ((v.length:Int)-k) n:=⟨_,rfl⟩;have hL':L=upOf v (zaA v m k i).1 ((v.length:Int)-k) (31-(i:Int)):=by rw[hL,ha,hn]
    obtain⟨A,hA⟩:∃A,A=upOf v 0 ((v.length:Int)-k) (31-((i+1:Nat):Int)+0+1):=⟨_,rfl⟩;have hA':A=upOf v 0 ((v.length:Int)-k) n:=by rw[hA];congr 1;omega
    obtain⟨pre,hp1,hp2⟩:=up_tail v (b:=(v.length:Int)-k) (n:=n) hc.1;rw[←hA',←hL] at hp1;have hlen:A.length=pre.length+L.length:=by rw[hp1,ue]
    obtain⟨B,hB⟩:∃B,B=upOf v 0 ((v.length:Int)-k) (31-(i:Int)+0+1):=⟨_,rfl⟩;have hz:v.getD 0 0=31:=by rw[uq,(zet h1).2.2.1];rfl
    have hca:a=0∨(m≤B.length∧B[B.length-m.toNat]?=some a):=by
      by_cases q:(B.length:Int)<m
      · left;rw[ih,zkS h ya hB q]
      obtain⟨c,hcc⟩:∃c,B[B.length-m.toNat]?=some c:=yq
      right
      exact⟨by omega,by rw[ih,zrq h ya hB q hcc];exact hcc⟩
    have haL:a∈L:=by
      rw[hL,zec];refine⟨a.toNat,by omega,by omega,by omega,by omega,?_⟩;rcases hca with e|⟨_,e⟩
      · rw[e];show n≤v.getD 0 0;rw[hz];omega
      have:=ud e
      rw[hB] at this;obtain⟨j,hj,_,_,_,h9⟩:=zec.1 this;rw[show a.toNat=j by omega];omega
    have hL0:L[0]?=some a:=by
      obtain⟨j,hj⟩:=List.getElem?_of_mem haL;by_cases e:j=0
      · rw[←e];exact hj
      have hjl:=(ul.1 hj).1;obtain⟨x,hx⟩:∃x,L[0]?=some x:=yq;have g1:=(zdm (by rw[hL];exact ze1 ..) hx hj).2 ya;have g2:=ud hx;rw[hL] at g2;obtain⟨s,rfl,g3,_⟩:=zec.1 g2;omega
    have hat:∀c,m≤(L.length:Int)→L[L.length-m.toNat]?=some c→zdD v m k (31-((i+1:Nat):Int)+0)=c:=fun c q hcc =>
      zrq h ya hA ya (by rw[hp1,List.getElem?_append_right (by rw[ue];omega),ue,show pre.length+L.length-m.toNat-pre.length=L.length-m.toNat by omega];exact hcc)
    by_cases q:m<(L.length:Int)
    · obtain⟨c,hcc⟩:∃c,L[L.length-m.toNat]?=some c:=yq
      rw[←zdP hL' hcc q];exact(hat c ya hcc).symm
    rw[←zeC hL' q,←ha];by_cases q2:m≤(L.length:Int)
    · exact(hat a q2 (by rw[show L.length-m.toNat=0 by omega];exact hL0)).symm
    rcases hca with e|⟨e1,e2⟩
    · have hpre : pre = [] := List.eq_nil_iff_forall_not_mem.2 fun x hx => by
        have g1:=hp2 x hx;have g2:x∈A:=by rw[hp1];exact List.mem_append_left _ hx
        rw[hA'] at g2;obtain⟨j,rfl,_⟩:=zec.1 g2;omega
      rw[hpre] at hlen;rw[zkS h ya hA (by simp at hlen;omega)];exact e
    exfalso;have hbr:B.Pairwise (· < ·):=by rw[hB];exact ze1 ..
    have:=zsA (L:=L) (M:=B.drop (B.length-m.toNat)) (by rw[hL];exact ze1 ..) (hbr.sublist (List.drop_sublist _ _)) (fun x hx=>by
      have g1:=List.mem_of_mem_drop hx;rw[hB] at g1;obtain⟨j,rfl,_,g2,g3,g4⟩:=zec.1 g1;obtain⟨s,hs⟩:=List.getElem?_of_mem hx;rw[List.getElem?_drop] at hs;have g5:a≤(j:Int):=by
        by_cases e:s=0
        · subst e;rw[Nat.add_zero,e2] at hs;injection hs with hs;omega
        have:=(zdm hbr e2 hs).2 ya;omega
      rw[hL];exact zec.2 ⟨j,rfl,by omega,g2,g3,by omega⟩)
    rw[List.length_drop] at this;omega
def docP (v:List Int) (m k:Int) (i:Nat):List Int:=((List.range i).filter fun j:Nat=>decide (zdD v m k (v.getD j 0)≤(j:Int))).map fun j:Nat=>(j:Int)
theorem docP_yes {v:List Int} {m k y:Int} {i:Nat} (hy:v[i]?=some y) (h:zdD v m k y≤(i:Int)):docP v m k (i+1)=docP v m k i++[(i:Int)]:=by
  unfold docP;rw[List.range_succ,List.filter_append,List.map_append];have e:v.getD i 0=y:=ybH
  have:decide (zdD v m k (v.getD i 0)≤(i:Int))=true:=ui (by rw[e];exact h)
  have hf:List.filter (fun j:Nat=>decide (zdD v m k (v.getD j 0)≤(j:Int))) [i]=[i]:=ycH;rw[hf];rfl
theorem docP_no {v:List Int} {m k y:Int} {i:Nat} (hy:v[i]?=some y) (h:¬zdD v m k y≤(i:Int)):docP v m k (i+1)=docP v m k i:=by
  unfold docP;rw[List.range_succ,List.filter_append,List.map_append];have e:v.getD i 0=y:=ybH
  have:decide (zdD v m k (v.getD i 0)≤(i:Int))=false:=uh (by rw[e];exact h)
  have hf:List.filter (fun j:Nat=>decide (zdD v m k (v.getD j 0)≤(j:Int))) [i]=[]:=ycH;rw[hf];simp
theorem docP_len (v:List Int) (m k:Int) (i:Nat):(docP v m k i).length≤i:=by
  unfold docP;rw[List.length_map];exact Nat.le_trans (List.length_filter_le _ _) yw
theorem docP_all {v:List Int} {m k:Int} (h:mayP v m k=true) {i:Nat} (hi:(i:Int)=(v.length:Int)-k):docP v m k i=(zai v m k).1:=by
  obtain⟨h1,h2,h3,h4⟩:=zcY h;refine zhr ?_ (zhW v m k) fun x=>?_
  · unfold docP
    rw[List.pairwise_map];exact(List.pairwise_lt_range.filter _).imp fun h=>by omega
  rw[prefix_iff h];unfold docP;simp only[List.mem_map,List.mem_filter,List.mem_range,uj];have hlv:∀j,j<v.length→0≤v.getD j 0∧v.getD j 0≤31:=fun j hj=>by
    rw[uq,ub hj];exact(zet h1).2.2.2 _ (List.getElem_mem hj)
  have hfr:∀n:Nat,n≤31→(zaA v m k (31-n)).1=zdD v m k n:=fun n hn=>by
    rw[zp7 h (31-n) ya];congr 1;omega
  constructor
  · rintro ⟨j,⟨g1,g2⟩,rfl⟩
    have hj:=hlv j ya;refine⟨31-(v.getD j 0).toNat,by omega,zec.2 ⟨j,rfl,?_,by omega,by omega,by omega⟩⟩;rw[hfr _ ya,show(((v.getD j 0).toNat:Nat):Int)=v.getD j 0 by omega];exact g2
  rintro ⟨s,g1,g2⟩
  obtain⟨j,rfl,g3,g4,g5,g6⟩:=zec.1 g2;have hj:=hlv j g5;refine⟨j,⟨by omega,?_⟩,rfl⟩;have e:=hfr (v.getD j 0).toNat ya;rw[show(((v.getD j 0).toNat:Nat):Int)=v.getD j 0 by omega] at e;rw[←e]
  have:=ztp h s ya (31-(v.getD j 0).toNat) ya
  omega
theorem back_last {v:List Int} {i:Nat} {n:Int} (h0:v.getD 0 0=31) (hi:1≤i) (hv:i≤v.length) (hn:0<n) (hn2:n≤31):(upOf v 0 (i:Int) n)[(upOf v 0 (i:Int) n).length-1]?=some ((zbC v n (i-1):Nat):Int):=by
  obtain⟨b,hb⟩:∃b,b=zbC v n (i-1):=⟨_,rfl⟩;obtain⟨L,hL⟩:∃L,L=upOf v 0 (i:Int) n:=⟨_,rfl⟩;have hle:=zg9 v n (i-1);obtain⟨s1,s2⟩:=ztB v n (i-1);rw[←hb] at hle s1 s2;rw[←hb,←hL];have hr:L.Pairwise (· < ·):=by rw[hL];exact ze1 ..
  have hm:(b:Int)∈L:=by
    rw[hL,zec];refine⟨b,rfl,by omega,by omega,by omega,?_⟩;rcases s2 with e|e
    · rw[e,h0];exact hn2
    exact Int.not_lt.1 fun g=>e ⟨hn,g⟩
  obtain⟨j,hj⟩:=List.getElem?_of_mem hm;have hjl:=(ul.1 hj).1;obtain⟨z,hz⟩:∃z,L[L.length-1]?=some z:=yq;have hzm:=ud hz;rw[hL] at hzm;obtain⟨c,rfl,_,g2,g3,g4⟩:=zec.1 hzm;by_cases e:j=L.length-1
  · rw[←e];exact hj
  have:=(zdm hr hj hz).2 ya
  have:=(s1 c ya ya).2
  omega
structure PutIn (x:Int) (R:List Int) (k:Nat) (d:Bool) (N:List Int):Prop where
  kk:k≤R.length
  rise:N.Pairwise (· < ·)
  mem:∀y,y∈N↔y∈R.take k∨(d=true∧y=x)
  not_:d=false→∀y∈R.take k,y<x
  yes:d=true→∃y∈R.take k,x≤y
theorem putIn_nil (x:Int) (R:List Int):PutIn x R 0 false []:=⟨uf _,List.Pairwise.nil,fun y=>by simp,fun _ y hy=>by simp at hy,fun h=>by cases h⟩
theorem zqu {R:List Int} (hR:R.Pairwise (· < ·)) {k:Nat} {o:Int} (ho:R[k]?=some o):∀y∈R.take k,y<o:=fun y hy=>by
  obtain⟨j,hj⟩:=List.getElem?_of_mem hy;rw[List.getElem?_take] at hj
  split at hj
  · rename_i c;exact(zdm hR hj ho).2 c
  cases hj
theorem zhs {N:List Int} {o:Int} (h:N.Pairwise (· < ·)) (ho:∀y∈N,y<o):(N++[o]).Pairwise (· < ·):=by
  rw[List.pairwise_append];exact⟨h,List.pairwise_singleton ..,fun a ha b hb=>by rw[List.mem_singleton.1 hb];exact ho a ha⟩
theorem zcN {R:List Int} {k:Nat} {o y:Int} (ho:R[k]?=some o):y∈R.take (k+1)↔y∈R.take k∨y=o:=by
  rw[un,ho,List.mem_append];simp
section
variable {x o:Int} {R N:List Int} {k:Nat} {d:Bool}
theorem zqM (hR:R.Pairwise (· < ·)) (h:PutIn x R k false N) (ho:R[k]?=some o) (hx:x≤o) (hn:¬o=x):PutIn x R (k+1) true ((N++[x])++[o]):=by
  have h1:=zqu hR ho;have hm:∀y∈N,y<x:=fun y hy=>by
    rcases (h.mem y).1 hy with g|g
    · exact h.not_ rfl y g
    exact absurd g.1 yn
  refine⟨(ul.1 ho).1,zhs (zhs h.rise hm) fun y hy=>?_,fun y=>?_,fun c=>(by cases c),fun _=>⟨o,(zcN ho).2 (.inr rfl),hx⟩⟩
  · rcases List.mem_append.1 hy with g|g
    · have:=hm y g;omega
    rw[List.mem_singleton.1 g];omega
  rw[List.mem_append,List.mem_append,List.mem_singleton,List.mem_singleton,zcN ho,h.mem y]
  constructor
  · rintro ((g|g)|g)
    · rcases g with g|g
      · exact .inl (.inl g)
      exact absurd g.1 yn
    · exact .inr ⟨rfl,g⟩
    exact .inl (.inr g)
  rintro ((g|g)|g)
  · exact .inl (.inl (.inl g))
  · exact .inr g
  exact .inl (.inr g.2)
theorem zqL (hR:R.Pairwise (· < ·)) (h:PutIn x R k false N) (ho:R[k]?=some o) (hx:x≤o) (hn:o=x):PutIn x R (k+1) true (N++[x]):=by
  have hm:∀y∈N,y<x:=fun y hy=>by
    rcases (h.mem y).1 hy with g|g
    · exact h.not_ rfl y g
    exact absurd g.1 yn
  refine⟨(ul.1 ho).1,zhs h.rise hm,fun y=>?_,fun c=>(by cases c),fun _=>⟨o,(zcN ho).2 (.inr rfl),hx⟩⟩;rw[List.mem_append,List.mem_singleton,zcN ho,h.mem y]
  constructor
  · rintro (g|g)
    · rcases g with g|g
      · exact .inl (.inl g)
      exact absurd g.1 yn
    exact .inr ⟨rfl,g⟩
  rintro ((g|g)|g)
  · exact .inl (.inl g)
  · exact .inr (g.trans hn)
  exact .inr g.2
theorem zqK (hR:R.Pairwise (· < ·)) (h:PutIn x R k false N) (ho:R[k]?=some o) (hx:¬x≤o):PutIn x R (k+1) false (N++[o]):=by
  have h1:=zqu hR ho;refine⟨(ul.1 ho).1,zhs h.rise fun y hy=>?_,fun y=>?_,fun _ y hy=>?_,fun c=>(by cases c)⟩
  · rcases (h.mem y).1 hy with g|g
    · exact h1 y g
    exact absurd g.1 yn
  · rw[List.mem_append,List.mem_singleton,zcN ho,h.mem y]
    constructor
    · rintro (g|g)
      · rcases g with g|g
        · exact .inl (.inl g)
        exact absurd g.1 yn
      exact .inl (.inr g)
    rintro ((g|g)|g)
    · exact .inl (.inl g)
    · exact .inr g
    exact absurd g.1 yn
  rcases (zcN ho).1 hy with g|g
  · exact h.not_ rfl y g
  omega
theorem znQ (hR:R.Pairwise (· < ·)) (h:PutIn x R k true N) (ho:R[k]?=some o):¬o=x∧PutIn x R (k+1) true (N++[o]):=by
  have h1:=zqu hR ho;obtain⟨z,hz,hxz⟩:=h.yes rfl
  have:=h1 z hz
  refine⟨by omega,(ul.1 ho).1,zhs h.rise fun y hy=>?_,fun y=>?_,fun c=>(by cases c),fun _=>⟨z,(zcN ho).2 (.inl hz),hxz⟩⟩
  · rcases (h.mem y).1 hy with g|g
    · exact h1 y g
    omega
  rw[List.mem_append,List.mem_singleton,zcN ho,h.mem y]
  constructor
  · rintro ((g|g)|g)
    · exact .inl (.inl g)
    · exact .inr g
    exact .inl (.inr g)
  rintro ((g|g)|g)
  · exact .inl (.inl g)
  · exact .inr g
  exact .inl (.inr g)
def zqj (A:List Int) (i:Nat) (R:List Int):Prop:=i≤A.length∧R.Pairwise (· < ·)∧∀y,y∈R↔y∈A.take i
theorem zww {A:List Int} {i:Nat} (hA:A[i]?=some x) (hR:zqj A i R) (h:PutIn x R k d N) (hk:R.length≤k) (hd:d=true):zqj A (i+1) N:=by
  refine⟨(ul.1 hA).1,h.rise,fun y=>?_⟩;rw[h.mem y,uc hk,hR.2.2 y,zcN hA,hd];simp
theorem ztv {A:List Int} {i:Nat} (hA:A[i]?=some x) (hR:zqj A i R) (h:PutIn x R k d N) (hk:R.length≤k) (hd:d=false):zqj A (i+1) (N++[x]):=by
  have hn:=h.not_ hd;rw[uc hk] at hn;refine⟨(ul.1 hA).1,zhs h.rise fun y hy=>?_,fun y=>?_⟩
  · rcases (h.mem y).1 hy with g|g
    · rw[uc hk] at g;exact hn y g
    rw[hd] at g;exact absurd g.1 yn
  rw[List.mem_append,List.mem_singleton,h.mem y,uc hk,hR.2.2 y,zcN hA,hd];simp
end
theorem both_is {a b R:List Int} {i:Nat} (h:zqj (a++b) i R) (hi:(a++b).length≤i):R=zeN a b:=by
  refine zhr h.2.1 (zgE a b) fun y=>?_
  rw[h.2.2 y,uc hi,List.mem_append,zem]
theorem zq5 {v:List Int} (h:v.length<1∨200<v.length∨∃z,v[0]?=some z∧¬z=31):mayV v=false:=Bool.eq_false_iff.2 fun c=>by
  obtain⟨h1,h2,h3,_⟩:=zet c;rcases h with h|h|⟨z,hz,h⟩
  · omega
  · omega
  rw[h3] at hz;injection hz with hz;exact h hz.symm
theorem zqJ (v:List Int):Tells P 84 [.val (bsl i64T) v] (.val zs (mayV v)):=by
 refine zc Tryz.func84 rfl rfl rfl (fun ext w hext=>?_);refine ze (d:=0) rfl zi (fun hsl0=>?_);refine CQR ?_;refine qaj ?_;refine qbt ?_;refine A0 zbb ?_;refine Sp (d:=6) (p:=v.length<1) (fun g6=>?_) (fun g6=>?_)
 ·
  refine qau ?_;refine qab ?_;refine qbu ?_;refine Ct ?_;refine qay ?_;exact zd rfl rfl (za rfl ((zq5 (.inl g6)).symm))
 refine qbR ?_;refine A1 (zat rfl rfl zdc) ?_;refine qdo ?_;refine Sp (d:=10) (p:=200<v.length) (fun g10=>?_) (fun g10=>?_)
 ·
  refine qbu ?_;refine Ct ?_;refine qay ?_;exact zd rfl rfl (za rfl ((zq5 (.inr (.inl g10))).symm))
 obtain⟨z,hz⟩:∃z,v[0]?=some z:=yq;refine qbA ?_;refine A1 (zr (i:=0) rfl rfl rfl ya zba yh) ?_;refine qcQ ?_;refine A1 zgB ?_;refine qao ?_;refine zq (p:=¬z=31) rfl yN (fun ht17=>?_) (fun ht17=>?_)
 ·
  refine qay ?_;exact zd rfl rfl (za rfl ((zq5 (.inr (.inr ⟨z,hz,ht17⟩))).symm))
 refine CSQQR ?_;refine qbQ ?_;refine Lp (ι:=Nat) 0 (fun (i:Nat)=>((Fr.none).set 0 (.val (bsl i64T) v)).set 3 (.val i64T (i:Int))) (fun (i:Nat)=>Hp.none) (fun (i:Nat)=>i≤v.length∧∀n∈v.take i,0≤n∧n≤31) (fun (i:Nat)=>v.length-i) (0) (⟨uf _,fun n hn=>by simp at hn⟩) ?_;intro i hinv;refine qaW ?_;refine qbt ?_;refine qav ?_;refine Cf (p:=i<v.length) (fun ht21=>?_) (fun ht21=>?_)
 ·
  obtain⟨x,hx⟩:∃x,v[i]?=some x:=⟨_,ub ht21⟩;refine qdm ?_;refine xN ?_;refine qaR ?_;refine A0 zbb ?_;refine Sp (d:=28) (p:=x<0) (fun g28=>?_) (fun g28=>?_)
  ·
   refine qau ?_;refine qab ?_;refine qbB ?_;refine qao ?_;refine Ct ?_;refine qay ?_;exact zd rfl rfl (za rfl ((mayV_no hx (.inl g28)).symm))
  refine qbR ?_;refine A1 mV ?_;refine A1 (zr (i:=i) rfl rfl rfl ya zba yh) ?_;refine qcQ ?_;refine qdo ?_;refine qao ?_;refine Cf (p:=31<x) (fun ht35=>?_) (fun ht35=>?_)
  ·
   refine qay ?_;exact zd rfl rfl (za rfl ((mayV_no hx (.inr ht35)).symm))
  refine qbN ?_;exact Nx (i+1) (⟨by omega,mayV_step hx hinv.2 ya ya⟩) ya
 refine qcT ?_;exact zd rfl rfl (za rfl ((mayV_yes ya ya (by rw[hz,ua ht17]) ya hinv.2).symm))
theorem rup_ok (v:List Int) (a b n:Int) (hl:v.length≤1000000000000):Tells P 141 [.val (bsl i64T) v,.val i64T a,.val i64T b,.val i64T n] (.fresh 3 i64T (upOf v a b n)):=by
 refine zc Tryz.func141 rfl rfl rfl (fun ext w hext=>?_);refine ze (d:=0) rfl zi (fun hsl0=>?_);refine ze (d:=1) rfl zu (fun hin1=>?_);refine ze (d:=2) rfl zu (fun hin2=>?_);refine ze (d:=3) rfl zu (fun hin3=>?_);refine qb0 ?_;refine A0 aL ?_;refine qaw ?_;refine zbd (T:=i64T) (d:=9) 3 rfl ?_;refine zl (n:=0) (y:=upA v a b n 0) rfl rfl ?_;refine Lp (ι:=Nat) 1 (fun (i:Nat)=>((((((Fr.none).set 0 (.val (bsl i64T) v)).set 1 (.val i64T a)).set 2 (.val i64T b)).set 3 (.val i64T n)).set 9 (.own 0)).set 10 (.val i64T (i:Int))) (fun (i:Nat)=>(Hp.none).set 0 (.row 3 i64T (upA v a b n i))) (fun (i:Nat)=>i≤v.length) (fun (i:Nat)=>v.length-i) (0) (uf _) ?_;intro i hinv;refine qaW ?_;refine qbt ?_;refine qav ?_;refine Cf (p:=i<v.length) (fun ht14=>?_) (fun ht14=>?_)
 ·
  obtain⟨x,hx⟩:∃x,v[i]?=some x:=⟨_,ub ht14⟩;refine qdm ?_;refine A0 zer ?_;refine Sp (d:=19) (p:=a≤(i:Int)) (fun g19=>?_) (fun g19=>?_)
  ·
   refine qbR ?_;refine A1 mV ?_;refine A1 zbb ?_;refine Sp (d:=23) (p:=(i:Int)<b) (fun g23=>?_) (fun g23=>?_)
   ·
    refine qbA ?_;refine A1 mV ?_;refine A1 (zr (i:=i) rfl rfl rfl ya zba yh) ?_;refine qcQ ?_;refine A1 mV ?_;refine A1 zer ?_;refine qao ?_;refine Cf (p:=n≤x) (fun ht32=>?_) (fun ht32=>?_)
    ·
     refine qbE ?_;refine qau ?_;refine qaC ?_;refine zo rfl rfl rfl rfl rfl rfl rfl zeQ (by have:=upA_len v a b n i;simp;omega) ?_;refine qcH ?_;refine qbx ?_;refine zl (n:=0) (y:=upA v a b n (i+1)) rfl (upA_yes hx g19 g23 ht32).symm ?_;exact Nx (i+1) ya ya
    refine qbN ?_;refine zl (n:=0) (y:=upA v a b n (i+1)) rfl (upA_no hx (fun h=>by omega)).symm ?_;exact Nx (i+1) ya ya
   refine qc0 ?_;refine Cg ?_;refine qbN ?_;refine zl (n:=0) (y:=upA v a b n (i+1)) rfl (upA_no hx (fun h=>by omega)).symm ?_;exact Nx (i+1) ya ya
  refine qau ?_;refine qab ?_;refine qc0 ?_;refine Cg ?_;refine qbN ?_;refine zl (n:=0) (y:=upA v a b n (i+1)) rfl (upA_no hx (fun h=>by omega)).symm ?_;exact Nx (i+1) ya ya
 refine qa0 ?_;exact zd rfl rfl (zf rfl rfl (upA_all hinv ya))
theorem zvo (v:List Int) (m k n:Int) (hn:0≤n):Tells P 131 [.val (bsl i64T) v,.val i64T m,.val i64T k,.val i64T n] (.val i64T (zdD v m k n)):=by
 refine zc Tryz.func131 rfl rfl rfl (fun ext w hext=>?_);refine ze (d:=0) rfl zi (fun hsl0=>?_);refine ze (d:=1) rfl zu (fun hin1=>?_);refine ze (d:=2) rfl zu (fun hin2=>?_);refine ze (d:=3) rfl zu (fun hin3=>?_);refine qdt ?_;refine A0 (oCl (zqJ v) rfl fn_84 yc) ?_;refine qaj ?_;refine A0 oN ?_;refine zX (d:=14) (p:=¬mayV v=true) rfl yw (fun g14=>?_) (fun g14=>?_)
 ·
  refine qau ?_;refine qaE ?_;refine qbu ?_;refine Ct ?_;refine qay ?_;exact zd rfl rfl (za rfl ((zor (zmU (.inl g14))).symm))
 refine qbR ?_;refine A1 zbb ?_;refine Sp (d:=17) (p:=m<1) (fun g17=>?_) (fun g17=>?_)
 ·
  refine qaf ?_;refine qbB ?_;refine qbu ?_;refine Ct ?_;refine qay ?_;exact zd rfl rfl (za rfl ((zor (zmU (.inr (.inl g17)))).symm))
 refine qbA ?_;refine A1 zbb ?_;refine Sp (d:=21) (p:=k<1) (fun g21=>?_) (fun g21=>?_)
 ·
  refine qbu ?_;refine Ct ?_;refine qay ?_;exact zd rfl rfl (za rfl ((zor (zmU (.inr (.inr (.inl g21))))).symm))
 refine qbA ?_;refine A1 (zat rfl rfl zdc) ?_;refine A1 mV ?_;refine A1 zfp ?_;refine qao ?_;refine Cf (p:=(v.length:Int)≤k) (fun ht28=>?_) (fun ht28=>?_)
 ·
  refine qay ?_;exact zd rfl rfl (za rfl ((zor (zmU (.inr (.inr (.inr ht28))))).symm))
 have hmp:mayP v m k=true:=mayP_of (ua g14) g17 g21 ht28;obtain⟨hv1,hv2,hv3,hv4⟩:=zcY hmp;have hvl:=zfQ hmp;refine qbP ?_;refine qbT ?_;refine Cf (p:=31<n) (fun ht30=>?_) (fun ht30=>?_)
 ·
  refine qay ?_;exact zd rfl rfl (za rfl ((from_high hmp ht30).symm))
 have hup:=zC (rup_ok v 0 ((v.length:Int)-k) (n+1) ya);obtain⟨L,hL⟩:∃L,L=upOf v 0 ((v.length:Int)-k) (n+1):=⟨_,rfl⟩;have hLl:L.length≤200:=by rw[hL];have:=znl v 0 ((v.length:Int)-k) (n+1);omega
 rw[←hL] at hup;refine qcz ?_;refine qbt ?_;refine qbS ?_;refine qc2 ?_;refine A0 (oCl (hup) rfl fn_141 y5) ?_;refine qaj ?_;refine qbt ?_;refine qau ?_;refine qav ?_;refine Cf (p:=(L.length:Int)<m) (fun ht42=>?_) (fun ht42=>?_)
 ·
  refine qay ?_;exact zd rfl rfl (za rfl ((zkS hmp ht30 hL ht42).symm))
 obtain⟨c,hc⟩:∃c,L[L.length-m.toNat]?=some c:=yq;refine qcz ?_;refine qbt ?_;refine qau ?_;refine A0 (zj0 rfl rfl rfl (show _=(((L.length-m.toNat:Nat):Int):Int) from(zah ya).trans ya)) ?_;refine A0 (zr (i:=L.length-m.toNat) rfl rfl rfl ya zba yh) ?_;refine qaR ?_;refine qbg ?_;exact zd rfl rfl (za rfl ((zrq hmp ht30 hL ht42 hc).symm))
theorem rprefix_ok (v:List Int) (m k:Int):Tells P 76 [.val (bsl i64T) v,.val i64T m,.val i64T k] (.tup2 (.fresh 3 i64T (zai v m k).1) (.val zs (zai v m k).2)):=by
 refine zc Tryz.func76 rfl rfl rfl (fun ext w hext=>?_);refine ze (d:=0) rfl zi (fun hsl0=>?_);refine ze (d:=1) rfl zu (fun hin1=>?_);refine ze (d:=2) rfl zu (fun hin2=>?_);refine qap ?_;refine qc8 ?_;refine qad ?_;refine qau ?_;refine A0 (oCl (zvo v m k 0 ya) rfl fn_131 y5) ?_;refine qav ?_;refine Cf (p:=zdD v m k 0<0) (fun ht14=>?_) (fun ht14=>?_)
 ·
  have hmn:¬mayP v m k=true:=fun c=>by have:=from_pos c;omega
  refine qaT ?_;exact zx rfl rfl (by unfold zai;rw[ur hmn];exact zm rfl) (za rfl (by unfold zai;rw[ur hmn]))
 have hmp:mayP v m k=true:=Classical.byContradiction fun c=>ht14 (by rw[zor c];decide)
 obtain⟨hv1,hv2,hv3,hv4⟩:=zcY hmp;have hvl:=zfQ hmp;refine CSQR ?_;refine A0 aL ?_;refine qaw ?_;refine zbd (T:=i64T) (d:=8) 3 rfl ?_;refine zl (n:=0) (y:=docP v m k 0) rfl rfl ?_;refine Lp (ι:=Nat) 1 (fun (i:Nat)=>(((((Fr.none).set 0 (.val (bsl i64T) v)).set 1 (.val i64T m)).set 2 (.val i64T k)).set 8 (.own 0)).set 9 (.val i64T (i:Int))) (fun (i:Nat)=>(Hp.none).set 0 (.row 3 i64T (docP v m k i))) (fun (i:Nat)=>(i:Int)≤(v.length:Int)-k) (fun (i:Nat)=>v.length-i) (0) ya ?_;intro i hinv;refine qaW ?_;refine qbt ?_;refine qbS ?_;refine qav ?_;refine Cf (p:=(i:Int)<(v.length:Int)-k) (fun ht20=>?_) (fun ht20=>?_)
 ·
  obtain⟨x,hx⟩:∃x,v[i]?=some x:=yq;have hx0:=((zet hv1).2.2.2 x (ud hx)).1;refine qdm ?_;refine qad ?_;refine qad ?_;refine xN ?_;refine qaR ?_;refine A0 (oCl (zvo v m k x hx0) rfl fn_131 ⟨yj,yj,yj,yb,trivial⟩) ?_;refine qb9 ?_;refine Cf (p:=zdD v m k x≤(i:Int)) (fun ht32=>?_) (fun ht32=>?_)
  ·
   refine qbE ?_;refine qau ?_;refine qaC ?_;refine zo rfl rfl rfl rfl rfl rfl rfl zeQ (by have:=docP_len v m k i;simp;omega) ?_;refine qcH ?_;refine qbx ?_;refine zl (n:=0) (y:=docP v m k (i+1)) rfl (docP_yes hx ht32).symm ?_;exact Nx (i+1) ya ya
  refine qbN ?_;refine zl (n:=0) (y:=docP v m k (i+1)) rfl (docP_no hx ht32).symm ?_;exact Nx (i+1) ya ya
 refine CE ?_;refine qcb ?_;refine qcl ?_;exact zx rfl rfl (zf rfl rfl (docP_all hmp ya)) (za rfl (by unfold zai;rw[ut hmp]))
theorem rback_ok (v:List Int) (i n:Nat) (hm:mayV v=true) (h1:1≤i) (hi:i<v.length) (hn:n≤31):Tells P 85 [.val (bsl i64T) v,.val i64T (i:Int),.val i64T (n:Int)] (.val i64T (zbC v n (i-1):Nat)):=by
 have hz:v.getD 0 0=31:=by rw[uq,(zet hm).2.2.1];rfl
 have hvl:=(zet hm).2.1;refine zc Tryz.func85 rfl rfl rfl (fun ext w hext=>?_);refine ze (d:=0) rfl zi (fun hsl0=>?_);refine ze (d:=1) rfl zu (fun hin1=>?_);refine ze (d:=2) rfl zu (fun hin2=>?_);refine qdt ?_;refine A0 (oCl (zqJ v) rfl fn_84 yc) ?_;refine qaj ?_;refine A0 oN ?_;refine zgs (d:=12) rfl (by rw[hm];rfl) ?_;refine qbR ?_;refine A1 zbb ?_;refine zgs (d:=15) rfl (uh yal) ?_;refine qbA ?_;refine A1 mV ?_;refine A1 (zat rfl rfl zdc) ?_;refine A1 zer ?_;refine zgs (d:=21) rfl (uh yal) ?_;refine qbA ?_;refine A1 zbb ?_;refine zgs (d:=25) rfl (uh yal) ?_;refine qbA ?_;refine qdo ?_;refine zgs (d:=29) rfl (uh yal) ?_;refine qao ?_;refine Cg ?_;refine qbP ?_;refine A0 zbZ ?_;refine CN ?_;refine zq (p:=n=0) rfl yN (fun ht32=>?_) (fun ht32=>?_)
 ·
  refine qa7 ?_;refine A0 za5 ?_;refine qac ?_;exact zd rfl rfl (za rfl (by subst ht32;rw[show((0:Nat):Int)=0 from rfl,ztz];omega))
 have hup:=zC (rup_ok v 0 (i:Int) (n:Int) ya);have hbl:=back_last (v:=v) (i:=i) (n:=(n:Int)) hz h1 ya ya ya;obtain⟨L,hL⟩:∃L,L=upOf v 0 (i:Int) (n:Int):=⟨_,rfl⟩;have hLl:L.length≤200:=by rw[hL];have:=znl v 0 (i:Int) (n:Int);omega
 rw[←hL] at hup hbl;have hll:=(ul.1 hbl).1;refine qcz ?_;refine qau ?_;refine A0 (oCl (hup) rfl fn_141 y5) ?_;refine qbr ?_;refine qbt ?_;refine A0 (zj0 rfl rfl rfl (show _=(((L.length-1:Nat):Int):Int) from(zah ya).trans ya)) ?_;refine A0 (zr (i:=L.length-1) rfl rfl rfl ya zba yh) ?_;refine qaR ?_;refine qbg ?_;exact zd rfl rfl (za rfl (rfl))
theorem zpB (v:List Int) (high low:Int):Tells P 40 [.val (bsl i64T) v,.val i64T high,.val i64T low] (.tup2 (.val (sl i64T) (za3 v high low)) (.val zs (zad v high low))):=by
 refine zc Tryz.func40 rfl rfl rfl (fun ext w hext=>?_);refine ze (d:=0) rfl zi (fun hsl0=>?_);refine ze (d:=1) rfl zu (fun hin1=>?_);refine ze (d:=2) rfl zu (fun hin2=>?_);refine qap ?_;refine qaA ?_;refine A0 (oCl (zqJ v) rfl fn_84 yc) ?_;refine qaj ?_;refine A0 oN ?_;refine zX (d:=16) (p:=¬mayV v=true) rfl yw (fun g16=>?_) (fun g16=>?_)
 ·
  refine qau ?_;refine qbB ?_;refine qcL ?_;refine qbu ?_;refine Ct ?_;refine qaT ?_;exact zx rfl rfl (by rw[zfd (show zad v high low=false from by unfold zad;rw[Bool.eq_false_iff.2 g16];rfl)];exact zcK rfl) (za rfl (show zad v high low=false from by unfold zad;rw[Bool.eq_false_iff.2 g16];rfl).symm)
 refine qbR ?_;refine A1 zbb ?_;refine Sp (d:=19) (p:=low<0) (fun g19=>?_) (fun g19=>?_)
 ·
  refine qcL ?_;refine qbu ?_;refine Ct ?_;refine qaT ?_;exact zx rfl rfl yav (za rfl (show zad v high low=false from by unfold zad;rw[uh ya,Bool.and_false]).symm)
 refine qbA ?_;refine A1 mV ?_;refine qdo ?_;refine Sp (d:=24) (p:=high<low) (fun g24=>?_) (fun g24=>?_)
 ·
  refine qbu ?_;refine Ct ?_;refine qaT ?_;exact zx rfl rfl yav (za rfl (show zad v high low=false from by unfold zad;rw[uh ya,Bool.and_false]).symm)
 refine qbA ?_;refine A1 mV ?_;refine A1 (zat rfl rfl zdc) ?_;refine A1 zer ?_;refine qao ?_;refine Cf (p:=(v.length:Int)≤high) (fun ht31=>?_) (fun ht31=>?_)
 ·
  refine qaT ?_;exact zx rfl rfl yav (za rfl (show zad v high low=false from by unfold zad;rw[uh ya,Bool.and_false]).symm)
 have hmv:mayV v=true:=ua g16;have hok:zad v high low=true:=by unfold zad;rw[hmv,Bool.true_and];exact ui ya
 obtain⟨hv1,hv2,hv3,ho1,ho2,ho3⟩:=zfW hok;obtain⟨H,hH⟩:∃H:Nat,high=H:=⟨high.toNat,by omega⟩;obtain⟨L,hL⟩:∃L:Nat,low=L:=⟨low.toNat,by omega⟩;subst hH;subst hL;refine qbw ?_;refine zbm (T:=i64T) (xs:=[_]) rfl rfl rfl rfl zba zeQ yx rfl rfl ?_;refine zfh (d:=33) rfl rfl ?_;refine qaA ?_;refine qah ?_;refine qaY ?_;refine CB ?_;refine Lp (ι:=Nat×Nat×List Int) 0 (fun(a,n,l)=>((((Fr.none.set 0 (.val (bsl i64T) v)).set 2 (.val i64T (L:Int))).set 9 (.val (sl i64T) l.reverse)).set 10 (.val i64T (a:Int))).set 11 (.val i64T (n:Int))) (fun(a,n,l)=>Hp.none) (fun(a,n,l)=>WalkAt v H L (a,n,l)) (fun(a,n,l)=>a+n) ((H,31,[(H:Int)])) (⟨by show L≤H;omega,ug _,ug _,rfl,by show 1+H≤H+1;omega⟩) ?_;intro⟨a,n,l⟩ hinv;dsimp only at hinv;have hlo:=hinv.lo;have hhi:=hinv.hi;have hn31:=hinv.n;have hlen:=hinv.len;simp only at hlo hhi hn31 hlen;refine qaW ?_;refine qbT ?_;refine Cf (p:=L<a) (fun ht37=>?_) (fun ht37=>?_)
 ·
  refine CS ?_;refine CB ?_;refine CQR ?_;refine qad ?_;refine qau ?_;refine A0 (oCl (rback_ok v a n hmv ya ya ya) rfl fn_85 yz) ?_;refine qbr ?_;refine qb9 ?_;refine Cf (p:=L≤zbC v n (a-1)) (fun ht44=>?_) (fun ht44=>?_)
  ·
   have hwn:=zlZ hinv ya ya;refine qa7 ?_;refine zbm (T:=i64T) (xs:=[_]) rfl rfl rfl rfl zba zeQ yx rfl rfl ?_;refine qau ?_;refine zo rfl rfl rfl rfl rfl rfl rfl zeQ yy ?_;refine zfh (d:=48) rfl rfl ?_;refine qbX ?_;refine qau ?_;refine qac ?_;refine CI ?_;refine zj (d:=9) (y:=(l++[((zbC v n (a-1):Nat):Int)]).reverse) rfl yw ?_;exact Nx ((zbC v n (a-1),n,l++[((zbC v n (a-1):Nat):Int)])) (hwn) yai
  obtain⟨hn1,hwn⟩:=zl0 hinv ya ya;refine CR ?_;refine qau ?_;refine A0 (zj0 rfl rfl rfl (show _=(((n-1:Nat):Int):Int) from(zah ya).trans ya)) ?_;refine qac ?_;refine CI ?_;exact Nx ((a,n-1,l)) (hwn) yai
 refine qcu ?_;refine qaI ?_;exact zx rfl rfl (za rfl (zpS hok hinv ya)) (za rfl hok.symm)
theorem zvs (a b:List Int) (h:a.length+b.length≤1000000):Tells P 41 [.val (bsl i64T) a,.val (bsl i64T) b] (.val (sl i64T) (zeN a b)):=by
 obtain⟨A,hA⟩:∃A,A=a++b:=⟨_,rfl⟩;have hAl:A.length=a.length+b.length:=by rw[hA,ue]
 refine zc Tryz.func41 rfl rfl rfl (fun ext w hext=>?_);refine ze (d:=0) rfl zi (fun hsl0=>?_);refine ze (d:=1) rfl zi (fun hsl1=>?_);refine qb0 ?_;refine qau ?_;refine zcE rfl rfl rfl rfl rfl rfl zeQ yS ?_;refine qau ?_;refine zo rfl rfl rfl rfl rfl rfl rfl zeQ yS ?_;refine zfh (d:=14) rfl rfl ?_;refine qah ?_;refine A0 aL ?_;refine qaw ?_;refine zj (d:=5) (y:=A) rfl (by rw[hA]) ?_;refine zbd (T:=i64T) (d:=6) 3 rfl ?_;refine zfh (d:=6) rfl rfl ?_;refine Lp (ι:=Nat×List Int) 0 (fun(j,R)=>((Fr.none.set 5 (.val (sl i64T) A)).set 6 (.val (sl i64T) R)).set 7 (.val i64T (j:Int))) (fun(j,R)=>Hp.none) (fun(j,R)=>zqj A j R∧R.length≤j) (fun(j,R)=>A.length-j) ((0,[])) (⟨⟨uf _,List.Pairwise.nil,fun y=>by simp⟩,ug _⟩) ?_;intro⟨j,R⟩ hbo;dsimp only at hbo;refine qaW ?_;refine qbt ?_;refine qav ?_;refine Cf (p:=j<A.length) (fun ht18=>?_) (fun ht18=>?_)
 ·
  obtain⟨x,hx⟩:∃x,A[j]?=some x:=⟨_,ub ht18⟩;have hR:=hbo.1.2.1;have hRl:=hbo.2;refine CSQBQR ?_;refine A0 aL ?_;refine CNQR ?_;refine qcc ?_;refine zbd (T:=i64T) (d:=8) 3 rfl ?_;refine Lp (ι:=Nat×Bool×List Int) 1 (fun(k,d,N)=>(((((Fr.none.set 5 (.val (sl i64T) A)).set 6 (.val (sl i64T) R)).set 7 (.val i64T (j:Int))).set 8 (.own 0)).set 9 (.val zs d)).set 10 (.val i64T (k:Int))) (fun(k,d,N)=>Hp.none.set 0 (.row 3 i64T N)) (fun(k,d,N)=>PutIn x R k d N∧N.length≤k+d.toNat) (fun(k,d,N)=>R.length-k) ((0,false,[])) (⟨putIn_nil x R,ug _⟩) ?_;intro⟨k,d,N⟩ hin;dsimp only at hin;refine qaW ?_;refine qbt ?_;refine qav ?_;refine Cf (p:=k<R.length) (fun ht24=>?_) (fun ht24=>?_)
  ·
   obtain⟨o,ho⟩:∃o,R[k]?=some o:=⟨_,ub ht24⟩;have hNl:=hin.2;have hd3:d.toNat≤1:=by cases d<;>decide
   refine qa8 ?_;refine CQ ?_;refine qaG ?_;refine G0 mV ?_;refine G0 oN ?_;refine zbW (d:=28) (p:=d=false) rfl (by cases d<;>rfl) (fun g28=>?_) (fun g28=>?_)
   ·
    have hp0:PutIn x R k false N:=by rw[←g28];exact hin.1
    have hl0:N.length≤k:=by have:=hin.2;rw[g28] at this;exact this
    refine G0 mV ?_;refine G1 mV ?_;refine G1 mV ?_;refine G1 (zr (i:=k) rfl rfl rfl ya zba yh) ?_;refine G1 (zh rfl rfl ty_3) ?_;refine G1 mV ?_;refine G1 mV ?_;refine G1 (zr (i:=j) rfl rfl rfl ya zba yh) ?_;refine G1 (zh rfl rfl ty_3) ?_;refine G1 zer ?_;refine qcg ?_;refine Cf (p:=x≤o) (fun ht39=>?_) (fun ht39=>?_)
    ·
     refine qcb ?_;refine qad ?_;refine A0 (zr (i:=j) rfl rfl rfl ya zba yh) ?_;refine qb5 ?_;refine CNR ?_;refine qcU ?_;refine qbv ?_;refine G0 (zr (i:=k) rfl rfl rfl ya zba yh) ?_;refine G0 (zh rfl rfl ty_3) ?_;refine qbv ?_;refine G0 (zr (i:=j) rfl rfl rfl ya zba yh) ?_;refine G0 (zh rfl rfl ty_3) ?_;refine G0 zgB ?_;refine GK.nil ?_;refine zq (p:=¬o=x) rfl yN (fun ht55=>?_) (fun ht55=>?_)
     ·
      refine qbE ?_;refine qad ?_;refine A0 (zr (i:=k) rfl rfl rfl ya zba yh) ?_;refine qb5 ?_;refine qaK ?_;refine xC ?_;exact Nx ((k+1,true,(N++[x])++[o])) yE ybh
     refine qbN ?_;refine zbc 1 0 3 rfl rfl rfl rfl rfl rfl ?_;exact Nx ((k+1,true,N++[x])) yE ybh
    refine CS ?_;refine qaG ?_;refine qbv ?_;refine G0 (zr (i:=k) rfl rfl rfl ya zba yh) ?_;refine G0 (zh rfl rfl ty_3) ?_;refine qbv ?_;refine G0 (zr (i:=j) rfl rfl rfl ya zba yh) ?_;refine G0 (zh rfl rfl ty_3) ?_;refine G0 zgB ?_;refine GK.nil ?_;refine zkb rfl y9 ?_;refine qbE ?_;refine qad ?_;refine A0 (zr (i:=k) rfl rfl rfl ya zba yh) ?_;refine qb5 ?_;refine qaK ?_;refine zbc 1 0 3 rfl rfl rfl rfl rfl rfl ?_;exact Nx ((k+1,d,N++[o])) yE ybh
   have hd1:d=true:=by simpa using g28
   have hp1:PutIn x R k true N:=by rw[←hd1];exact hin.1
   have hne:=(znQ hR hp1 ho).1;refine G0 mV ?_;refine qal ?_;refine qcF ?_;refine qcg ?_;refine Cg ?_;refine CS ?_;refine qaG ?_;refine qbv ?_;refine G0 (zr (i:=k) rfl rfl rfl ya zba yh) ?_;refine G0 (zh rfl rfl ty_3) ?_;refine qbv ?_;refine G0 (zr (i:=j) rfl rfl rfl ya zba yh) ?_;refine G0 (zh rfl rfl ty_3) ?_;refine G0 zgB ?_;refine GK.nil ?_;refine zkb rfl y9 ?_;refine qbE ?_;refine qad ?_;refine A0 (zr (i:=k) rfl rfl rfl ya zba yh) ?_;refine qb5 ?_;refine qaK ?_;refine zbc 1 0 3 rfl rfl rfl rfl rfl rfl ?_;exact Nx ((k+1,d,N++[o])) yE ybh
  have hNl:=hin.2;have hkk:=hin.1.kk;have hd3:d.toNat≤1:=by cases d<;>decide
  refine CE ?_;refine qaF ?_;refine qaJ ?_;refine zq (p:=d=false) rfl (by cases d<;>rfl) (fun ht64=>?_) (fun ht64=>?_)
  ·
   have hl0:N.length≤k:=by have:=hin.2;rw[ht64] at this;exact this
   refine qbE ?_;refine qad ?_;refine A0 (zr (i:=j) rfl rfl rfl ya zba yh) ?_;refine qb5 ?_;refine CNR ?_;refine A0 mO ?_;refine qcH ?_;refine zfh (d:=6) rfl rfl ?_;exact Nx ((j+1,N++[x])) yat (by show A.length-(j+1)<A.length-j;omega)
  refine CS ?_;refine qbE ?_;refine qcH ?_;refine zfh (d:=6) rfl rfl ?_;exact Nx ((j+1,N)) yat (by show A.length-(j+1)<A.length-j;omega)
 refine qcu ?_;refine qac ?_;exact zd rfl rfl (za rfl (both_is (by rw[←hA];exact hbo.1) (by rw[←hA];omega)))
set_option maxRecDepth 20000
def HiAt (L:List Int) (q d:Int) (j:Nat) (h:Int):Prop:=((∀x∈L.drop j,x<q)∧h=d)∨(h∈L.drop j∧q≤h∧∀x∈L.drop j,q≤x→h≤x)
def LoAt (L:List Int) (q:Int) (i:Nat) (h:Int):Prop:=((∀x∈L.take i,q<x)∧h=0)∨(h∈L.take i∧h≤q∧∀x∈L.take i,x≤q→x≤h)
theorem hi_end (L:List Int) (q d:Int) {j:Nat} (hj:L.length≤j):HiAt L q d j d:=.inl ⟨fun x hx=>(by rw[List.drop_of_length_le hj] at hx;cases hx),rfl⟩
theorem lo_zero (L:List Int) (q:Int):LoAt L q 0 0:=.inl ⟨fun x hx=>(by rw[List.take_zero] at hx;cases hx),rfl⟩
theorem zkX {L:List Int} {j:Nat} {y:Int} (hy:L[j]?=some y) (x:Int):x∈L.drop j↔x=y∨x∈L.drop (j+1):=by
  have hj:=(ul.1 hy).1;rw[List.drop_eq_getElem_cons hj,List.mem_cons];rw[ub hj] at hy;injection hy with hy;rw[hy]
theorem drop_lt {L:List Int} (hL:L.Pairwise (· < ·)) {j:Nat} {y:Int} (hy:L[j]?=some y):∀x∈L.drop (j+1),y<x:=fun x hx=>by
  obtain⟨s,hs⟩:=List.getElem?_of_mem hx;rw[List.getElem?_drop] at hs;exact(zdm hL hy hs).2 ya
theorem hi_yes {L:List Int} (hL:L.Pairwise (· < ·)) {q d h y:Int} {j:Nat} (hy:L[j]?=some y) (h1:q≤y) (_:HiAt L q d (j+1) h):HiAt L q d j y :=
  .inr ⟨(zkX hy y).2 (.inl rfl),h1,fun x hx _=>by
    rcases (zkX hy x).1 hx with e|hx
    · omega
    have:=drop_lt hL hy x hx;omega⟩
theorem hi_no {L:List Int} {q d h y:Int} {j:Nat} (hy:L[j]?=some y) (h1:¬q≤y) (hh:HiAt L q d (j+1) h):HiAt L q d j h:=by
  rcases hh with ⟨g1,g2⟩|⟨g1,g2,g3⟩
  · refine .inl ⟨fun x hx=>?_,g2⟩
    rcases (zkX hy x).1 hx with e|hx
    · omega
    exact g1 x hx
  refine .inr ⟨(zkX hy h).2 (.inr g1),g2,fun x hx hq=>?_⟩;rcases (zkX hy x).1 hx with e|hx
  · omega
  exact g3 x hx hq
theorem lo_yes {L:List Int} (hL:L.Pairwise (· < ·)) {q h y:Int} {j:Nat} (hy:L[j]?=some y) (h1:y≤q) (_:LoAt L q j h):LoAt L q (j+1) y :=
  .inr ⟨(zcN hy).2 (.inr rfl),h1,fun x hx _=>by
    rcases (zcN hy).1 hx with hx|e
    · have:=zqu hL hy x hx;omega
    omega⟩
theorem lo_no {L:List Int} {q h y:Int} {j:Nat} (hy:L[j]?=some y) (h1:¬y≤q) (hh:LoAt L q j h):LoAt L q (j+1) h:=by
  rcases hh with ⟨g1,g2⟩|⟨g1,g2,g3⟩
  · refine .inl ⟨fun x hx=>?_,g2⟩
    rcases (zcN hy).1 hx with hx|e
    · exact g1 x hx
    omega
  refine .inr ⟨(zcN hy).2 (.inl g1),g2,fun x hx hq=>?_⟩;rcases (zcN hy).1 hx with hx|e
  · exact g3 x hx hq
  omega
theorem hi_is {L:List Int} {q d h z:Int} (hz:z∈L) (hq:q≤z) (hh:HiAt L q d 0 h):h∈L∧q≤h∧∀x∈L,q≤x→h≤x:=by
  rw[HiAt,List.drop_zero] at hh;rcases hh with ⟨g1,_⟩|g
  · have:=g1 z hz;omega
  exact g
theorem lo_is {L:List Int} {q h z:Int} {i:Nat} (hi:L.length≤i) (hz:z∈L) (hq:z≤q) (hh:LoAt L q i h):h∈L∧h≤q∧∀x∈L,x≤q→x≤h:=by
  rw[LoAt,uc hi] at hh;rcases hh with ⟨g1,_⟩|g
  · have:=g1 z hz;omega
  exact g
theorem with_doc {l:List Block} {m k q h lo d:Int} {i:Nat} (hb:BuildOk l m k) (h0:0≤q) (h1:q<(l.length:Int)-k) (hh:HiAt (zR l m k) q d 0 h) (hlo:LoAt (zR l m k) q i lo) (hi:(zR l m k).length≤i) :
    zeN (zeN (zR l m k) (za3 (zp l) h q)) (za3 (zp l) q lo)=zgD l m k q:=by
  have hr:=zfN hb;have hf:=zl9 hb;have hl:=znS hb;have hk:=hb.k1;obtain⟨g1,g2,g3⟩:=hi_is (ud hl) ya hh;obtain⟨e1,e2,e3⟩:=lo_is hi (ud hf) h0 hlo;obtain⟨L,hL⟩:∃L,L=zR l m k:=⟨_,rfl⟩;unfold zgD wayL;by_cases c:isIn (zR l m k) q=true
  · rw[ut c]
    rw[zmV hr] at c;have a1:=g3 q c (Int.le_refl _);have a2:=e3 q c (Int.le_refl _);refine zhr (zgE ..) hr fun x=>?_
    rw[zem,zem];refine⟨fun hx=>?_,fun hx=>.inl (.inl hx)⟩;rcases hx with (hx|hx)|hx
    · exact hx
    · have:=zjo hx
      rw[show x=q by omega];exact c
    have:=zjo hx
    rw[show x=q by omega];exact c
  rw[ur c];obtain⟨a,b,p1,ha,hb',p3,p4,p5,p6⟩:=zhI hb h0 h1 c;obtain⟨s1,s2,s3⟩:=ziK hr q;rw[zmV hr] at c;have ehi:h=b:=by
    have u1:=g3 b (ud hb') ya;obtain⟨j,hj⟩:=List.getElem?_of_mem g1;have u2:¬j<placeIn (zR l m k) q:=fun u=>by have:=s2 j h hj u;omega
    by_cases u:j=placeIn (zR l m k) q
    · rw[u,hb'] at hj;injection hj with hj;exact hj.symm
    have:=(zdm hr hb' hj).2 ya;omega
  have elo:lo=a:=by
    have u1:=e3 a (ud ha) ya;obtain⟨j,hj⟩:=List.getElem?_of_mem e1;have u2:¬placeIn (zR l m k) q≤j:=fun u=>by
      have:=s3 j lo hj u
      exact c (by rw[show q=lo by omega];exact e1)
    by_cases u:j=placeIn (zR l m k) q-1
    · rw[u,ha] at hj;injection hj with hj;exact hj.symm
    have:=(zdm hr hj ha).2 ya;omega
  rw[ehi,elo,uq,uq,ha,hb'];refine zhr (zgE ..) (zgE ..) fun x=>?_
  rw[zem,zem,zem,zem,or_assoc];rfl
def ziG (x:Part):Bool:=hOk x.h&&decide (x.l.length≤32)
def rowV (x:Part):List UInt8:=if ziG x=true then zaU x else []
theorem row_is {x:Part} (h:ziG x=true):rowV x=zaU x:=by unfold rowV;rw[ut h]
theorem row_not {x:Part} (h:¬ziG x=true):rowV x=[]:=by unfold rowV;rw[ur h]
theorem zhp {x:Part}:ziG x=true↔hOk x.h=true∧x.l.length≤32:=by unfold ziG;rw[uk,uj]
def zgM (p:Proof):Prop:=1≤p.m∧p.m≤20∧1≤p.k∧p.k≤20∧p.p.length≤100
theorem ztP {p:Proof}:wOk p=true↔zgM p∧∀x∈p.p,ziG x=true:=by
  unfold wOk ziD zgM;simp only[uk,uj,List.all_eq_true,zhp]
  constructor
  · rintro ⟨⟨h1,h2⟩,h3⟩;exact⟨h1,fun x hx=>⟨h3 x hx,h2 x hx⟩⟩
  rintro ⟨h1,h2⟩;exact⟨⟨h1,fun x hx=>(h2 x hx).2⟩,fun x hx=>(h2 x hx).1⟩
theorem zeY {p:Proof} (h:¬zgM p):¬wOk p=true:=fun c=>h (ztP.1 c).1
theorem wOk_row {p:Proof} {x:Part} {i:Nat} (hx:p.p[i]?=some x) (h:¬ziG x=true):¬wOk p=true:=fun c=>h ((ztP.1 c).2 x (ud hx))
theorem wOk_yes {p:Proof} {i:Nat} (h:zgM p) (hi:p.p.length≤i) (hr:∀x∈p.p.take i,ziG x=true):wOk p=true:=ztP.2 ⟨h,by rw[uc hi] at hr;exact hr⟩
theorem rowOk_step {L:List Part} {i:Nat} {x:Part} (hx:L[i]?=some x) (h:∀y∈L.take i,ziG y=true) (h1:ziG x=true):∀y∈L.take (i+1),ziG y=true:=fun y hy=>by
  rw[un,hx] at hy;rcases List.mem_append.1 hy with hy|hy
  · exact h y hy
  have:y=x:=by simpa using hy
  rw[this];exact h1
def zjY (r:List UInt8):Bool:=(zw r).2&&decide (0<(zw r).1.length)&&((zw r).1.drop 1).all fun x=>decide (x.length=32)
def zmt (r:List UInt8):Part:=if zjY r=true then ⟨zg3 ((zw r).1.getD 0 []),(zw r).1.drop 1⟩ else zPart
theorem zhX {r:List UInt8} (h:¬zjY r=true):zmt r=zPart∧za2 r=false:=by
  refine⟨by unfold zmt;rw[ur h],Bool.eq_false_iff.2 fun c=>h ?_⟩;unfold za2 at c;unfold zjY;cases hl:(zw r).1 with
  | nil=>rw[hl] at c;simp at c
  | cons x l =>
    rw[hl] at c;simp only[uk] at c;rw[c.1,List.drop_succ_cons,List.drop_zero,c.2.2];simp
theorem zsL {r x:List UInt8} (h:zjY r=true) (hx:(zw r).1[0]?=some x):zmt r=⟨zg3 x,(zw r).1.drop 1⟩∧za2 r=zbi x:=by
  constructor
  · unfold zmt;rw[ut h,uq,hx];rfl
  unfold zjY at h;unfold za2;cases hl:(zw r).1 with
  | nil=>rw[hl] at hx;simp at hx
  | cons z l =>
    rw[hl] at hx h;simp at hx;subst hx;rw[List.drop_succ_cons,List.drop_zero,uk,uk] at h;show((zw r).2&&(zbi z&&l.all _))=_;rw[h.1.1,h.2];simp
theorem partV_ok {r:List UInt8} (h:za2 r=true):zmt r=zbk r:=by
  have hg:zjY r=true:=Classical.byContradiction fun c=>by rw[(zhX c).2] at h;cases h
  cases hl:(zw r).1 with
  | nil=>unfold za2 at h;rw[hl] at h;simp at h
  | cons x l =>
    obtain⟨h1,h2⟩:=zsL (x:=x) hg (by rw[hl];rfl);rw[h1];unfold zbk;rw[hl,zkC (h2▸h)];rfl
theorem znW {r:List UInt8} (h:¬(zw r).2=true):¬zjY r=true:=fun c=>by unfold zjY at c;rw[uk,uk] at c;exact h c.1.1
theorem zsM {r:List UInt8} (h:(zw r).1.length=0):¬zjY r=true:=fun c=>by unfold zjY at c;rw[uk,uk,uj] at c;omega
theorem zsN {r y:List UInt8} {i:Nat} (hi:1≤i) (hy:(zw r).1[i]?=some y) (h:¬y.length=32):¬zjY r=true:=fun c=>by
  unfold zjY at c;rw[uk,uk,List.all_eq_true] at c;have hm:y∈(zw r).1.drop 1:=ud (i:=i-1) (by rw[List.getElem?_drop,show 1+(i-1)=i by omega];exact hy);exact h (of_decide_eq_true (c.2 y hm))
theorem partG_all {r:List UInt8} {i:Nat} (h1:(zw r).2=true) (h2:¬(zw r).1.length=0) (hi:(zw r).1.length≤i) (h:∀y∈((zw r).1.take i).drop 1,y.length=32):zjY r=true:=by
  rw[uc hi] at h;unfold zjY;rw[h1,ui (by omega:0<(zw r).1.length),List.all_eq_true.2 fun y hy=>ui (h y hy)];rfl
theorem zti {α:Type} {L:List α} {i:Nat} {y:α} (hi:1≤i) (hy:L[i]?=some y):(L.take (i+1)).drop 1=(L.take i).drop 1++[y]:=by
  have hl:=(ul.1 hy).1;rw[un,hy,List.drop_append,um,show 1-min i L.length=0 by omega];rfl
theorem lens_step {L:List (List UInt8)} {i:Nat} {y:List UInt8} (hi:1≤i) (hy:L[i]?=some y) (h:∀z∈(L.take i).drop 1,z.length=32) (h1:y.length=32):∀z∈(L.take (i+1)).drop 1,z.length=32:=fun z hz=>by
  rw[zti hi hy] at hz;rcases List.mem_append.1 hz with hz|hz
  · exact h z hz
  rw[List.mem_singleton.1 hz];exact h1
theorem zwI {L:List (List UInt8)} {i:Nat} {y:List UInt8} {d:Bool} (hy:L[i]?=some y):(d&&(L.take i).all za2&&za2 y)=(d&&(L.take (i+1)).all za2):=by
  rw[un,hy,List.all_append];simp[Bool.and_assoc]
theorem read_parts {b:List UInt8} {b0 b1:UInt8} (h0:b[0]?=some b0) (h1:b[1]?=some b1) (h:(zw (b.drop 2)).1.all za2=true):(⟨(b0.toNat:Int),(b1.toNat:Int),(zw (b.drop 2)).1.map zmt⟩:Proof)=ze7 b:=by
  rw[←zvr h0 h1];congr 1;refine List.map_congr_left fun r hr=>partV_ok ?_
  exact List.all_eq_true.1 h r hr
theorem read_again {b:List UInt8} (h1:(zw (b.drop 2)).2=true) (h2:(zw (b.drop 2)).1.all za2=true) (hl:2≤b.length) (hw:wOk (ze7 b)=true):zcH b=true:=by
  refine zuV (ui ?_) h1 (List.all_eq_true.1 h2) (zhJ hw).1;by_cases c:b.length=2
  · rw[List.drop_of_length_le ya] at h1
    exact absurd h1 yn
  omega
theorem zsc {b:List UInt8} (h:¬(zw b).2=true):(zw b).1=[]:=by
  unfold zw at h ⊢;cases b with
  | nil=>rfl
  | cons n r =>
    simp only at h ⊢
    split
    · rename_i c;rw[ut c] at h;exact absurd rfl h
    rfl
theorem split_has {b r:List UInt8} (h:r∈(zw b).1):(zw b).2=true:=Classical.byContradiction fun c=>by
  rw[zsc c] at h;cases h
theorem zsd (b:List UInt8):(zw b).1.length≤255:=by
  by_cases c:(zw b).2=true
  · exact zqF c
  rw[zsc c];exact uf _
theorem no_len2 {b:List UInt8} (h:b.length<2):zcH b=false:=no_len (by rw[uj];omega)
theorem no_dall {b:List UInt8} (h:¬((zw (b.drop 2)).2&&(zw (b.drop 2)).1.all za2)=true):zcH b=false:=Bool.eq_false_iff.2 fun c=>h (by
  unfold zcH at c;rw[uk,uk,uk] at c;rw[c.1.1.2,c.1.2];rfl)
theorem no_wok {b:List UInt8} (h:¬wOk (ze7 b)=true):zcH b=false:=Bool.eq_false_iff.2 fun c=>h (zqf c).1
theorem no_same {b:List UInt8} (h:¬zjB (ze7 b)=b):zcH b=false:=Bool.eq_false_iff.2 fun c=>h (by
  obtain⟨h1,_,h3⟩:=zqf c;rw[zvw h1];exact h3)
theorem zt2 (l m:List Part):Tells P 51 [.val (bsl zbL) l,.val (bsl zbL) m] (.val zs (decide (l=m))):=by
 refine zc Tryz.func51 rfl rfl rfl (fun ext w hext=>?_);refine ze (d:=0) rfl zi (fun hsl0=>?_);refine ze (d:=1) rfl zi (fun hsl1=>?_);refine CQR ?_;refine qaj ?_;refine xT ?_;refine qau ?_;refine xT ?_;refine qaO ?_;refine zq (p:=¬l.length=m.length) rfl y9 (fun ht11=>?_) (fun ht11=>?_)
 ·
  refine qay ?_;exact zd rfl rfl (za rfl ((uh (fun e=>ht11 ybE)).symm))
 refine CSQQR ?_;refine qbQ ?_;refine Lp (ι:=Nat) 0 (fun (k:Nat)=>(((Fr.none).set 0 (.val (bsl zbL) l)).set 1 (.val (bsl zbL) m)).set 5 (.val i64T (k:Int))) (fun (k:Nat)=>Hp.none) (fun (k:Nat)=>k≤l.length∧l.take k=m.take k) (fun (k:Nat)=>l.length-k) (0) (⟨uf _,rfl⟩) ?_;intro k hinv;refine qaW ?_;refine xT ?_;refine qav ?_;refine Cf (p:=k<l.length) (fun ht15=>?_) (fun ht15=>?_)
 ·
  obtain⟨x,hx⟩:∃x,l[k]?=some x:=⟨_,ub ht15⟩;obtain⟨y,hy⟩:∃y,m[k]?=some y:=yq;refine qdi ?_;refine qbv ?_;refine G0 (zr (i:=k) rfl rfl rfl ya zkr yh) ?_;refine G0 (oFr zcP zdg) ?_;refine G0 (zh rfl rfl zcG) ?_;refine qbv ?_;refine G0 (zr (i:=k) rfl rfl rfl ya zkr yh) ?_;refine G0 (oFr zcP zdg) ?_;refine G0 (zh rfl rfl zcG) ?_;refine G0 (oCl (znO x.l y.l) rfl fn_99 ⟨yb,yb,trivial⟩) ?_;refine qaV ?_;refine qaG ?_;refine G0 mV ?_;refine G0 oN ?_;refine zbW (d:=30) (p:=¬x.l=y.l) rfl yw (fun g30=>?_) (fun g30=>?_)
  ·
   refine G0 mV ?_;refine qal ?_;refine qcF ?_;refine G2 ?_;refine G2 ?_;refine qcg ?_;refine Ct ?_;refine qay ?_;exact zd rfl rfl (za rfl ((uh (zes hx hy (fun e=>g30 ybE))).symm))
  refine G0 mV ?_;refine G1 mV ?_;refine G1 mV ?_;refine G1 (zr (i:=k) rfl rfl rfl ya zkr yh) ?_;refine G1 (oFr zew zeK) ?_;refine G1 (zh rfl rfl zaM) ?_;refine G1 mV ?_;refine G1 mV ?_;refine G1 (zr (i:=k) rfl rfl rfl ya zkr yh) ?_;refine G1 (oFr zew zeK) ?_;refine G1 (zh rfl rfl zaM) ?_;refine G1 (zgg rfl rfl rfl (zpX)) ?_;refine qcg ?_;refine zq (p:=¬x.h=y.h) rfl yw (fun ht43=>?_) (fun ht43=>?_)
  ·
   refine qay ?_;exact zd rfl rfl (za rfl ((uh (zes hx hy (fun e=>ht43 ybE))).symm))
  refine qbN ?_;exact Nx (k+1) (⟨by omega,zb3 hx hy hinv.2 (by have h1:=ua g30;have h2:=ua ht43;cases x;cases y;simp only at h1 h2;rw[h1,h2])⟩) ya
 refine qcT ?_;exact zd rfl rfl (za rfl ((ui yR).symm))
theorem zhU (a b:Proof):Tells P 22 [.val zax a,.val zax b] (.val zs (decide (a=b))):=by
 refine zc Tryz.func22 rfl rfl rfl (fun ext w hext=>?_);refine qa3 ?_;refine qah ?_;refine qc9 ?_;refine qc9 ?_;refine A0 (oCl (zt2 a.p b.p) rfl fn_51 ye) ?_;refine qaA ?_;refine zX (d:=11) (p:=a.p=b.p) rfl yw (fun g11=>?_) (fun g11=>?_)
 ·
  refine qau ?_;refine A1 (oFp zcQ) ?_;refine A1 (oLb zc2 ty_3) ?_;refine A1 (oFp zcQ) ?_;refine A1 (oLb zc2 ty_3) ?_;refine A1 zbZ ?_;refine zX (d:=17) (p:=a.m=b.m) rfl yN (fun g17=>?_) (fun g17=>?_)
  ·
   refine qaf ?_;refine qde ?_;refine qde ?_;refine A1 zbZ ?_;refine qaS ?_;exact zd rfl rfl (za rfl ((by rw[uo];exact⟨fun h=>by simp only[IntL.toI,id_eq] at h;cases a;cases b;simp_all,fun h=>by rw[h]⟩)))
  refine qas ?_;refine A2 ?_;refine qaS ?_;exact zd rfl rfl (za rfl ((by symm;apply uh;intro h;exact g17 (by rw[h]))))
 refine qau ?_;refine qab ?_;refine qbB ?_;refine qas ?_;refine A2 ?_;refine qaS ?_;exact zd rfl rfl (za rfl ((by symm;apply uh;intro h;exact g11 (by rw[h]))))
theorem zvp (l:List Block) (m k:Int) (hl:zgH l):Tells P 33 [.val (bsl zU) l,.val i64T m,.val i64T k] (.val i64T (prE l m k)):=by
 have hll:=hl.1;refine zc Tryz.func33 rfl rfl rfl (fun ext w hext=>?_);refine ze (d:=0) rfl zi (fun hsl0=>?_);refine ze (d:=1) rfl zu (fun hin1=>?_);refine ze (d:=2) rfl zu (fun hin2=>?_);refine qdt ?_;refine A0 (oCl (rcheck_ok l hl) rfl fn_75 yc) ?_;refine qa6 ?_;refine qcn ?_;refine qat ?_;refine qaj ?_;refine qaO ?_;refine zq (p:=¬(zaf l).2=0) rfl yN (fun ht15=>?_) (fun ht15=>?_)
 ·
  refine qa7 ?_;refine qac ?_;exact zd rfl rfl (za rfl (by unfold prE;rw[ut ht15]))
 refine qbP ?_;refine A0 zbb ?_;refine Sp (d:=18) (p:=m<1) (fun g18=>?_) (fun g18=>?_)
 ·
  refine qau ?_;refine qaE ?_;refine qaf ?_;refine qbB ?_;refine qbu ?_;refine Ct ?_;refine qay ?_;exact zd rfl rfl (za rfl yU)
 refine qbR ?_;refine qdo ?_;refine Sp (d:=21) (p:=20<m) (fun g21=>?_) (fun g21=>?_)
 ·
  refine qaf ?_;refine qaE ?_;refine qbu ?_;refine Ct ?_;refine qay ?_;exact zd rfl rfl (za rfl yU)
 refine qbA ?_;refine A1 zbb ?_;refine Sp (d:=25) (p:=k<1) (fun g25=>?_) (fun g25=>?_)
 ·
  refine qaf ?_;refine qbB ?_;refine qbu ?_;refine Ct ?_;refine qay ?_;exact zd rfl rfl (za rfl yU)
 refine qbA ?_;refine qdo ?_;refine Sp (d:=29) (p:=20<k) (fun g29=>?_) (fun g29=>?_)
 ·
  refine qbu ?_;refine Ct ?_;refine qay ?_;exact zd rfl rfl (za rfl yU)
 refine qbA ?_;refine A1 (zat rfl rfl zpP) ?_;refine A1 mV ?_;refine A1 zfp ?_;refine qao ?_;refine Cf (p:=(l.length:Int)≤k) (fun ht36=>?_) (fun ht36=>?_)
 ·
  refine qay ?_;exact zd rfl rfl (za rfl yU)
 refine CSQR ?_;refine qac ?_;exact zd rfl rfl (za rfl ybN)
theorem zsq (l:List Block) (W:List Int) (hl:W.length≤1000000) (hw:∀x∈W,0≤x∧x<l.length):Tells P 34 [.val (bsl zU) l,.val (bsl i64T) W] (.fresh 55 zbL (W.map (zcW l))):=by
 refine zc Tryz.func34 rfl rfl rfl (fun ext w hext=>?_);refine ze (d:=0) rfl zi (fun hsl0=>?_);refine ze (d:=1) rfl zi (fun hsl1=>?_);refine qb0 ?_;refine A0 aL ?_;refine qaw ?_;refine zbd (T:=zbL) (d:=5) 55 rfl ?_;refine Lp (ι:=Nat) 1 (fun (i:Nat)=>((((Fr.none).set 0 (.val (bsl zU) l)).set 1 (.val (bsl i64T) W)).set 5 (.own 0)).set 6 (.val i64T (i:Int))) (fun (i:Nat)=>(Hp.none).set 0 (.row 55 zbL ((W.take i).map (zcW l)))) (fun (i:Nat)=>i≤W.length) (fun (i:Nat)=>W.length-i) (0) (uf _) ?_;intro i hinv;refine qaW ?_;refine qbt ?_;refine qav ?_;refine Cf (p:=i<W.length) (fun ht11=>?_) (fun ht11=>?_)
 ·
  obtain⟨x,hx⟩:∃x,W[i]?=some x:=ybM;have hxb:=hw x (ud hx);obtain⟨b,hb⟩:∃b,l[x.toNat]?=some b:=yq;refine qdm ?_;refine qau ?_;refine xN ?_;refine qaR ?_;refine A0 (zr (i:=x.toNat) rfl rfl rfl ya zf6 yh) ?_;refine qdd ?_;refine CNR ?_;refine A0 mO ?_;refine A0 (oFp zaR) ?_;refine A0 (oLb zY zaM) ?_;refine A0 (oFp zcO) ?_;refine A0 (oLb zbv zcG) ?_;refine A0 (zB rfl zlf zrD (.cons zew zeK zaM rfl (.cons zcP zdg zcG rfl .nil)) rfl) ?_;refine qc7 ?_;refine qcH ?_;refine xC ?_;refine zl (n:=0) (y:=(W.take (i+1)).map (zcW l)) rfl ya0 ?_;exact Nx (i+1) ya ya
 refine qa0 ?_;exact zd rfl rfl (zf rfl rfl yO)
theorem zpx (l:List Block) (m k:Int) (hl:l.length≤1000000000000) (hk:1≤k∧k≤20∧k<l.length):Tells P 35 [.val (bsl zU) l,.val i64T m,.val i64T k] (.fresh 3 i64T (zR l m k)):=by
 obtain⟨hk1,hk2,hk3⟩:=hk;have hpl:=zfM (zp l) m k;refine zc Tryz.func35 rfl rfl rfl (fun ext w hext=>?_);refine ze (d:=0) rfl zi (fun hsl0=>?_);refine ze (d:=1) rfl zu (fun hin1=>?_);refine ze (d:=2) rfl zu (fun hin2=>?_);refine qb0 ?_;refine qau ?_;refine A0 (oCl (zC (zpA l ya)) rfl fn_39 yc) ?_;refine qad ?_;refine zgu (rprefix_ok (zp l) m k) rfl fn_76 yz zgm rfl rfl rfl ?_;refine A0 yr ?_;refine qaa ?_;refine A0 aO ?_;refine A0 aX ?_;refine qbe ?_;refine qcC ?_;refine qbS ?_;refine qbQ ?_;refine zj (d:=9) (y:=(l.length:Int)-k+((0:Nat):Int)) rfl ya ?_;refine zl (n:=0) (y:=(zai (zp l) m k).1++(List.range 0).map fun j:Nat=>(l.length:Int)-k+(j:Int)) rfl yw ?_;refine Lp (ι:=Nat) 1 (fun i=>(((Fr.none.set 0 (.val (bsl zU) l)).set 2 (.val i64T k)).set 7 (.own 0)).set 9 (.val i64T ((l.length:Int)-k+(i:Int)))) (fun i=>Hp.none.set 0 (.row 3 i64T ((zai (zp l) m k).1++(List.range i).map fun j:Nat=>(l.length:Int)-k+(j:Int)))) (fun i=>(i:Int)≤k) (fun i=>k.toNat-i) (0) yy ?_;intro i hinv;refine qaW ?_;refine qcC ?_;refine qav ?_;refine zq (p:=(i:Int)<k) rfl (by simp only[IntL.toI,id_eq];rw[uo];omega) (fun ht25=>?_) (fun ht25=>?_)
 ·
  refine qa8 ?_;refine qbE ?_;refine qau ?_;refine qcj ?_;refine A0 aO ?_;refine CNIR ?_;refine qau ?_;refine A0 (zo9 rfl rfl rfl (show _=(((l.length:Int)-k+((i+1:Nat):Int)):Int) from(zah ya).trans ya)) ?_;refine qac ?_;refine qbx ?_;refine zl (n:=0) (y:=(zai (zp l) m k).1++(List.range (i+1)).map fun j:Nat=>(l.length:Int)-k+(j:Int)) rfl ybQ ?_;exact Nx (i+1) ya ya
 refine qa0 ?_;exact zd rfl rfl (zf rfl rfl (by unfold zR;rw[show k.toNat=i by omega]))
theorem ztY (l:List Block) (m k:Int) (hl:zgH l):Tells P 15 [.val (bsl zU) l,.val i64T m,.val i64T k] (.tup2 (.val zax (prOf l m k)) (.val i64T (prE l m k))):=by
 have hll:=hl.1;refine zc Tryz.func15 rfl rfl rfl (fun ext w hext=>?_);refine ze (d:=0) rfl zi (fun hsl0=>?_);refine ze (d:=1) rfl zu (fun hin1=>?_);refine ze (d:=2) rfl zu (fun hin2=>?_);refine CQR ?_;refine qb6 ?_;refine qbr ?_;refine qau ?_;refine A0 (oCl (zvp l m k hl) rfl fn_33 yz) ?_;refine qaj ?_;refine qaO ?_;refine zq (p:=¬prE l m k=0) rfl yN (fun ht14=>?_) (fun ht14=>?_)
 ·
  refine CQR ?_;refine xO ?_;refine qau ?_;refine qcw ?_;exact zn rfl rfl (zt rfl rfl zbD (by unfold prOf;rw[ur ht14])) (zS (za rfl (rfl)))
 have hpe:prE l m k=0:=ua ht14;have hbo:=zm5 hpe;refine qcz ?_;refine qad ?_;refine qad ?_;refine A0 (oCl (zC (zpx l m k ya ⟨hbo.k1,hbo.k2,hbo.kl⟩)) rfl fn_35 yz) ?_;refine A0 (oCl (zC (zsq l (zR l m k) (by have:=zfO (l:=l) (m:=m) hbo.k2;omega) (fun x hx=>zeb ⟨hbo.k1,hbo.kl⟩ hx))) rfl fn_34 ye) ?_;refine A0 (zB rfl zdH zdi (.cons zcQ zc2 ty_3 rfl (.cons zey zgy ty_3 rfl (.cons zcC zgx zhi rfl .nil))) rfl) ?_;refine qcw ?_;exact zn rfl rfl (zt rfl rfl zbD (by unfold prOf;rw[ut hpe])) (zS (za rfl (hpe.symm)))
theorem rprWith_ok (l:List Block) (m k q:Int) (hl:zgH l):Tells P 17 [.val (bsl zU) l,.val i64T m,.val i64T k,.val i64T q] (.tup2 (.val zax (wiOf l m k q)) (.val i64T (wiE l m k q))):=by
 have hll:=hl.1;refine zc Tryz.func17 rfl rfl rfl (fun ext w hext=>?_);refine ze (d:=0) rfl zi (fun hsl0=>?_);refine ze (d:=1) rfl zu (fun hin1=>?_);refine ze (d:=2) rfl zu (fun hin2=>?_);refine ze (d:=3) rfl zu (fun hin3=>?_);refine CQR ?_;refine qb6 ?_;refine qbr ?_;refine qau ?_;refine A0 (oCl (zvp l m k hl) rfl fn_33 yz) ?_;refine qaj ?_;refine qaO ?_;refine zq (p:=¬prE l m k=0) rfl yN (fun ht27=>?_) (fun ht27=>?_)
 ·
  refine CQR ?_;refine xO ?_;refine qau ?_;refine qcw ?_;exact zn rfl rfl (zt rfl rfl zbD (by rw[zne (by unfold wiE;rw[ut ht27];exact ht27)])) (zS (za rfl (by unfold wiE;rw[ut ht27])))
 have hp1:prE l m k=0:=ua ht27;have hbo:=zm5 hp1;have hk1:=hbo.k1;have hk2:=hbo.k2;have hkl:=hbo.kl;refine qbP ?_;refine A0 zbb ?_;refine Sp (d:=31) (p:=q<0) (fun g31=>?_) (fun g31=>?_)
 ·
  refine qau ?_;refine qbc ?_;refine qao ?_;refine Ct ?_;refine CQR ?_;refine xO ?_;refine qcw ?_;exact zn rfl rfl (zt rfl rfl zbD ybu) (zS (za rfl (by unfold wiE;rw[ur (fun h=>h hp1),ut ya])))
 refine qbR ?_;refine A1 mV ?_;refine A1 (zat rfl rfl zpP) ?_;refine A1 mV ?_;refine A1 za5 ?_;refine A1 zer ?_;refine qao ?_;refine Cf (p:=(l.length:Int)-k≤q) (fun ht39=>?_) (fun ht39=>?_)
 ·
  refine CQR ?_;refine xO ?_;refine qcw ?_;exact zn rfl rfl (zt rfl rfl zbD ybu) (zS (za rfl (by unfold wiE;rw[ur (fun h=>h hp1),ut ya])))
 have hwi:wiE l m k q=0:=by unfold wiE;rw[ur (fun h=>h hp1),ur ya]
 have hpl:=zC (zpx l m k ya ⟨hk1,hk2,hkl⟩);obtain⟨L,hL⟩:∃L,L=zR l m k:=⟨_,rfl⟩;rw[←hL] at hpl;have hLr:L.Pairwise (· < ·):=by rw[hL];exact zfN hbo
 have hLl:L.length≤220:=by rw[hL];exact zfO hk2
 refine qbw ?_;refine A0 (oCl (zC (zpA l ya)) rfl fn_39 yc) ?_;refine qbr ?_;refine qau ?_;refine A0 (oCl (hpl) rfl fn_35 yz) ?_;refine qaA ?_;refine qcC ?_;refine A0 za5 ?_;refine qah ?_;refine qaj ?_;refine qbt ?_;refine A0 za5 ?_;refine qbQ ?_;refine Lp (ι:=Nat×Int) 1 (fun(j,h)=>(((((((((Fr.none.set 0 (.val (bsl zU) l)).set 1 (.val i64T m)).set 2 (.val i64T k)).set 3 (.val i64T q)).set 8 (.ptr 0 0)).set 11 (.val (sl i64T) (zp l))).set 12 (.val (sl i64T) L)).set 13 (.val i64T h)).set 14 (.val i64T 0)).set 15 (.val i64T ((j:Int)-1))) (fun(j,h)=>Hp.none.set 0 (.box 25 zax zdI)) (fun(j,h)=>j≤L.length∧HiAt L q ((l.length:Int)-1) j h) (fun(j,h)=>j) ((L.length,(l.length:Int)-1)) (⟨ug _,hi_end L q _ (ug _)⟩) ?_;intro⟨j,h⟩ hhj;dsimp only at hhj;refine qaF ?_;refine qb9 ?_;refine zq (p:=0<j) rfl (by simp only[IntL.toI,id_eq];rw[uo];omega) (fun ht54=>?_) (fun ht54=>?_)
 ·
  obtain⟨y,hy⟩:∃y,L[j-1]?=some y:=yq;have hh1:HiAt L q ((l.length:Int)-1) (j-1+1) h:=by rw[show j-1+1=j by omega];exact hhj.2
  refine qdm ?_;refine A0 (zr (i:=j-1) rfl rfl rfl ya zba yh) ?_;refine qaR ?_;refine qau ?_;refine qb9 ?_;refine Cf (p:=q≤y) (fun ht62=>?_) (fun ht62=>?_)
  ·
   refine CR ?_;refine qad ?_;refine A0 (zr (i:=j-1) rfl rfl rfl ya zba yh) ?_;refine qaR ?_;refine A0 aX ?_;refine CNIR ?_;refine qau ?_;refine A0 (zj0 rfl rfl rfl (show _=((((j-1:Nat):Int)-1):Int) from(zah ya).trans ya)) ?_;refine qac ?_;exact Nx ((j-1,y)) ybL (by show j-1<j;omega)
  refine CSIR ?_;refine qau ?_;refine A0 (zj0 rfl rfl rfl (show _=((((j-1:Nat):Int)-1):Int) from(zah ya).trans ya)) ?_;refine qac ?_;exact Nx ((j-1,h)) ybL (by show j-1<j;omega)
 refine CE ?_;refine CQ ?_;refine CQ ?_;have hhi:HiAt L q ((l.length:Int)-1) 0 h:=by rw[show 0=j by omega];exact hhj.2
 refine CR ?_;refine qbQ ?_;refine Lp (ι:=Nat×Int) 1 (fun (i:Nat×Int)=>match i with|(i,lo)=>((((((((((Fr.none).set 0 (.val (bsl zU) l)).set 1 (.val i64T m)).set 2 (.val i64T k)).set 3 (.val i64T q)).set 8 (.ptr 0 0)).set 11 (.val (sl i64T) (zp l))).set 12 (.val (sl i64T) L)).set 13 (.val i64T h)).set 14 (.val i64T lo)).set 16 (.val i64T (i:Int))) (fun (i:Nat×Int)=>match i with|(i,lo)=>(Hp.none).set 0 (.box 25 zax zdI)) (fun (i:Nat×Int)=>match i with|(i,lo)=>i≤L.length∧LoAt L q i lo) (fun (i:Nat×Int)=>match i with|(i,lo)=>L.length-i) ((0,0)) (⟨uf _,lo_zero L q⟩) ?_;intro⟨i,lo⟩ hlo;dsimp only at hlo;refine qaW ?_;refine qbt ?_;refine qav ?_;refine Cf (p:=i<L.length) (fun ht70=>?_) (fun ht70=>?_)
 ·
  obtain⟨y,hy⟩:∃y,L[i]?=some y:=⟨_,ub ht70⟩;refine qdm ?_;refine xN ?_;refine qaR ?_;refine qau ?_;refine A0 zfp ?_;refine CN ?_;refine Cf (p:=y≤q) (fun ht78=>?_) (fun ht78=>?_)
  ·
   refine CR ?_;refine qad ?_;refine xN ?_;refine qaR ?_;refine A0 aX ?_;refine qaK ?_;exact Nx ((i+1,y)) ybD (by show L.length-(i+1)<L.length-i;omega)
  refine qbN ?_;exact Nx ((i+1,lo)) ybD (by show L.length-(i+1)<L.length-i;omega)
 have hwd:=with_doc hbo ya ya (hL▸hhi) (hL▸hlo.2) (by rw[←hL];omega);have hf1:=zef (zp l) h q;have hf2:=zef (zp l) q lo;have hu1:=ziz L (za3 (zp l) h q);have hu2:=ziz (zeN L (za3 (zp l) h q)) (za3 (zp l) q lo);rw[←hL] at hwd;have hpt:=zC (zsq l (zeN (zeN L (za3 (zp l) h q)) (za3 (zp l) q lo)) ya (fun x hx=>zqo (q:=q) hbo ya ya (hwd▸hx)));refine qdl ?_;refine qad ?_;refine qau ?_;refine A0 (oCl (zpB (zp l) h q) rfl fn_40 yz) ?_;refine qa6 ?_;refine A0 aV ?_;refine qbr ?_;refine qau ?_;refine A0 (oCl (zpB (zp l) q lo) rfl fn_40 yz) ?_;refine qa6 ?_;refine A0 aV ?_;refine qbr ?_;refine A0 (oCl (zvs L (za3 (zp l) h q) ya) rfl fn_41 ye) ?_;refine qau ?_;refine A0 (oCl (zvs (zeN L (za3 (zp l) h q)) (za3 (zp l) q lo) ya) rfl fn_41 ye) ?_;refine qbr ?_;refine qad ?_;refine A0 (oCl (hpt) rfl fn_34 ye) ?_;refine A0 (zB rfl zdH zdi (.cons zcQ zc2 ty_3 rfl (.cons zey zgy ty_3 rfl (.cons zcC zgx zhi rfl .nil))) rfl) ?_;refine qcw ?_;exact zn rfl rfl (zt rfl rfl zbD (by rw[hwd];unfold wiOf;rw[ut hwi])) (zS (za rfl (hwi.symm)))
theorem rrow_ok (x:Part) (hh:HW x.h) (hi:∀y∈x.l,y.length=32):Tells P 45 [.val zbL x] (.tup2 (.fresh 5 u8T (rowV x)) (.val zs (ziG x))):=by
 refine zc Tryz.func45 rfl rfl rfl (fun ext w hext=>?_);refine qca ?_;refine qah ?_;refine A0 (oFp zew) ?_;refine A0 (oLb zeK zaM) ?_;refine A0 (oCl (zbo (zjR x.h)) rfl fn_91 yc) ?_;refine qb1 ?_;refine A0 oN ?_;refine zX (d:=17) (p:=¬hOk x.h=true) rfl yw (fun g17=>?_) (fun g17=>?_)
 ·
  refine qau ?_;refine qdf ?_;refine qao ?_;refine Ct ?_;refine qaT ?_;exact zx rfl rfl (by rw[row_not (fun c=>g17 (zhp.1 c).1)];exact zm rfl) (za rfl (Bool.eq_false_iff.2 (fun c=>g17 (zhp.1 c).1)).symm)
 refine qau ?_;refine A1 (oFp zcP) ?_;refine A1 (oLb zdg zcG) ?_;refine A1 (zat rfl rfl zhx) ?_;refine qdo ?_;refine qao ?_;refine Cf (p:=32<x.l.length) (fun ht23=>?_) (fun ht23=>?_)
 ·
  refine qaT ?_;exact zx rfl rfl (by rw[row_not (fun c=>by have:=(zhp.1 c).2;omega)];exact zm rfl) (za rfl (Bool.eq_false_iff.2 (fun c=>by have:=(zhp.1 c).2;omega)).symm)
 have hro:ziG x=true:=zhp.2 ⟨ua g17,by omega⟩;have hrr:=row_ok hh (ua g17) hi ya;refine qbw ?_;refine zfx (S:=bsl u8T) (d:=24) rfl ?_;refine zbm (T:=(bsl u8T)) (xs:=[_]) rfl rfl rfl rfl zfJ ze6 yx rfl rfl ?_;refine A0 aO ?_;refine qaw ?_;refine zl (n:=1) (y:=zaj x.h::x.l.take 0) rfl rfl ?_;refine Lp (ι:=Nat) 2 (fun (i:Nat)=>(((Fr.none).set 1 (.ptr 0 0)).set 6 (.own 1)).set 7 (.val i64T (i:Int))) (fun (i:Nat)=>((Hp.none).set 0 (.box 55 zbL x)).set 1 (.row 26 (bsl u8T) (zaj x.h::x.l.take i))) (fun (i:Nat)=>i≤x.l.length) (fun (i:Nat)=>x.l.length-i) (0) (uf _) ?_;intro i hinv;refine qaF ?_;refine A0 (oFp zcP) ?_;refine A0 (oLb zdg zcG) ?_;refine qb3 ?_;refine qav ?_;refine Cf (p:=i<x.l.length) (fun ht30=>?_) (fun ht30=>?_)
 ·
  obtain⟨y,hy⟩:∃y,x.l[i]?=some y:=⟨_,ub ht30⟩;have hyl:=hi y (ud hy);refine qa8 ?_;refine qbE ?_;refine A0 (oFp zcP) ?_;refine A0 (oLb zdg zcG) ?_;refine qau ?_;refine A0 (zr (i:=i) rfl rfl rfl ya zek yh) ?_;refine qbH ?_;refine zcE rfl rfl rfl rfl rfl rfl zaE yS ?_;refine zfh (d:=39) rfl rfl ?_;refine zfx (S:=bsl u8T) (d:=39) rfl ?_;refine qcV ?_;refine zo rfl rfl rfl rfl rfl rfl rfl ze6 yS ?_;refine qcH ?_;refine xu ?_;refine zl (n:=1) (y:=zaj x.h::x.l.take (i+1)) rfl (by rw[un,hy];simp) ?_;exact Nx (i+1) ya ya
 refine CE ?_;refine CQ ?_;refine zl (n:=1) (y:=zaj x.h::x.l) rfl yO ?_;refine qbE ?_;refine zgu (zvg (zaj x.h::x.l)) rfl fn_46 ⟨(zI rfl rfl),trivial⟩ zgm rfl rfl rfl ?_;refine A0 yr ?_;refine qaa ?_;refine A0 aO ?_;refine A0 aX ?_;refine CNQR ?_;refine A0 mO ?_;refine qcl ?_;exact zx rfl rfl (zf rfl rfl (by rw[row_is hro];unfold zjS;rw[ut hrr];rfl)) (za rfl hro.symm)
theorem zvh (p:Proof):Tells P 19 [.val zax p] (.tup2 (.val (sl u8T) (zjB p)) (.val zs (wOk p))):=by
 refine zc Tryz.func19 rfl rfl rfl (fun ext w hext=>?_);refine ze (d:=0) rfl fact_pw (fun hpw=>?_);refine qca ?_;refine qc8 ?_;refine A0 (oFp zcQ) ?_;refine A0 (oLb zc2 ty_3) ?_;refine A0 zbb ?_;refine Sp (d:=12) (p:=p.m<1) (fun g12=>?_) (fun g12=>?_)
 ·
  refine qau ?_;refine qab ?_;refine qcL ?_;refine qcL ?_;refine qbu ?_;refine Ct ?_;refine qaT ?_;exact zx rfl rfl yay (za rfl (Bool.eq_false_iff.2 (zeY yaJ)).symm)
 refine qau ?_;refine A1 (oFp zcQ) ?_;refine A1 (oLb zc2 ty_3) ?_;refine qdo ?_;refine Sp (d:=16) (p:=20<p.m) (fun g16=>?_) (fun g16=>?_)
 ·
  refine qcL ?_;refine qcL ?_;refine qbu ?_;refine Ct ?_;refine qaT ?_;exact zx rfl rfl yay (za rfl (Bool.eq_false_iff.2 (zeY yaJ)).symm)
 refine qaf ?_;refine qde ?_;refine A1 zbb ?_;refine Sp (d:=21) (p:=p.k<1) (fun g21=>?_) (fun g21=>?_)
 ·
  refine qcL ?_;refine qbu ?_;refine Ct ?_;refine qaT ?_;exact zx rfl rfl yay (za rfl (Bool.eq_false_iff.2 (zeY yaJ)).symm)
 refine qaf ?_;refine qde ?_;refine qdo ?_;refine Sp (d:=26) (p:=20<p.k) (fun g26=>?_) (fun g26=>?_)
 ·
  refine qbu ?_;refine Ct ?_;refine qaT ?_;exact zx rfl rfl yay (za rfl (Bool.eq_false_iff.2 (zeY yaJ)).symm)
 refine qaf ?_;refine qdc ?_;refine A1 (zat rfl rfl zdN) ?_;refine qdo ?_;refine qao ?_;refine Cf (p:=100<p.p.length) (fun ht33=>?_) (fun ht33=>?_)
 ·
  refine qaT ?_;exact zx rfl rfl yay (za rfl (Bool.eq_false_iff.2 (zeY yaJ)).symm)
 refine CSQR ?_;refine A0 aL ?_;refine qaw ?_;refine zbd (T:=bsl u8T) (d:=4) 26 rfl ?_;refine zl (n:=1) (y:=(p.p.take 0).map zaU) rfl rfl ?_;refine Lp (ι:=Nat) 2 (fun (i:Nat)=>(((Fr.none).set 1 (.ptr 0 0)).set 4 (.own 1)).set 5 (.val i64T (i:Int))) (fun (i:Nat)=>((Hp.none).set 0 (.box 25 zax p)).set 1 (.row 26 (bsl u8T) ((p.p.take i).map zaU))) (fun (i:Nat)=>i≤p.p.length∧∀y∈p.p.take i,ziG y=true) (fun (i:Nat)=>p.p.length-i) (0) (⟨uf _,fun y hy=>by simp at hy⟩) ?_;intro i hinv;refine qaF ?_;refine qc9 ?_;refine xT ?_;refine qav ?_;refine Cf (p:=i<p.p.length) (fun ht38=>?_) (fun ht38=>?_)
 ·
  obtain⟨x,hx⟩:∃x,p.p[i]?=some x:=⟨_,ub ht38⟩;have hxw:=hpw x (ud hx);refine CSQBQR ?_;refine qc9 ?_;refine qau ?_;refine A0 (zr (i:=i) rfl rfl rfl ya zkr yh) ?_;refine A0 (zh rfl rfl ziA) ?_;refine A0 (oCl (zbo (rrow_ok x hxw.1 hxw.2)) rfl fn_45 ycg) ?_;refine qb1 ?_;refine qaJ ?_;refine zq (p:=¬ziG x=true) rfl (by cases ziG x<;>rfl) (fun ht51=>?_) (fun ht51=>?_)
  ·
   refine qaT ?_;exact zx rfl rfl (by rw[zlz (wOk_row hx ht51)];exact zcK rfl) (za rfl (Bool.eq_false_iff.2 (wOk_row hx ht51)).symm)
  have hro:ziG x=true:=ua ht51;refine zj (d:=6) (y:=zaU x) rfl (row_is hro) ?_;refine CS ?_;refine qbE ?_;refine qau ?_;refine zfx (S:=bsl u8T) (d:=53) rfl ?_;refine qcV ?_;refine zo rfl rfl rfl rfl rfl rfl rfl ze6 yS ?_;refine qcH ?_;refine qcs ?_;refine zl (n:=1) (y:=(p.p.take (i+1)).map zaU) rfl ybC ?_;exact Nx (i+1) (⟨by omega,rowOk_step hx hinv.2 hro⟩) ya
 have hwk:=wOk_yes ⟨by omega,by omega,by omega,by omega,by omega⟩ ya hinv.2;have hpo:=zmO hpw hwk;have hbd:=rows_bd hpw hwk;refine CE ?_;refine CQ ?_;refine zl (n:=1) (y:=p.p.map zaU) rfl yO ?_;refine qbE ?_;refine zgu (zvg (p.p.map zaU)) rfl fn_46 ⟨(zI rfl rfl),trivial⟩ zgm rfl rfl rfl ?_;refine A0 yr ?_;refine qco ?_;refine zfh (d:=59) rfl rfl ?_;refine zj (d:=59) (y:=ziE (p.p.map zaU)) rfl (by unfold zjS;rw[ut hpo]) ?_;refine qc5 ?_;refine A0 aV ?_;refine A0 aX ?_;refine CNQR ?_;refine A0 (oFp zcQ) ?_;refine A0 (oLb zc2 ty_3) ?_;refine xh ?_;refine A0 (oFp zey) ?_;refine A0 (oLb zgy ty_3) ?_;refine xh ?_;refine zbm (T:=u8T) (xs:=[_,_]) rfl rfl rfl rfl zb4 zaE yaD rfl rfl ?_;refine qau ?_;refine zo rfl rfl rfl rfl rfl rfl rfl zaE yS ?_;refine qcl ?_;refine zfh (d:=2) rfl rfl ?_;exact zx rfl rfl (za rfl (by rw[zvw hwk,putL_is];rfl)) (za rfl hwk.symm)
theorem rpart_ok (r:List UInt8) (hb:r.length≤1000000000):Tells P 50 [.val (bsl u8T) r] (.tup2 (.val zbL (zmt r)) (.val zs (za2 r))):=by
 have hsp:=zbo (zsn r hb);obtain⟨S,hS⟩:∃S,S=(zw r).1:=⟨_,rfl⟩;rw[←hS] at hsp;have hSl:S.length≤255:=by rw[hS];exact zsd r
 refine zc Tryz.func50 rfl rfl rfl (fun ext w hext=>?_);refine ze (d:=0) rfl zi (fun hsl0=>?_);refine CQR ?_;refine z8 zlf rfl rfl rfl rfl ?_;refine qaA ?_;refine A0 (oCl (hsp) rfl fn_49 yc) ?_;refine qb1 ?_;refine A0 oN ?_;refine zX (d:=18) (p:=¬(zw r).2=true) rfl yw (fun g18=>?_) (fun g18=>?_)
 ·
  refine qau ?_;refine qab ?_;refine qao ?_;refine Ct ?_;refine CQR ?_;refine A0 (zB rfl zlf zrD .nil rfl) ?_;refine qbs ?_;refine qac ?_;exact zn rfl rfl (zt rfl rfl ziA ((zhX (znW g18)).1.symm)) (zS (za rfl ((zhX (znW g18)).2.symm)))
 refine qbR ?_;refine A1 (zat rfl rfl isl_89) ?_;refine A1 zbZ ?_;refine qao ?_;refine zq (p:=S.length=0) rfl yN (fun ht23=>?_) (fun ht23=>?_)
 ·
  refine CQR ?_;refine A0 (zB rfl zlf zrD .nil rfl) ?_;refine qbs ?_;refine qac ?_;exact zn rfl rfl (zt rfl rfl ziA ((zhX (zsM (by rw[←hS];exact ht23))).1.symm)) (zS (za rfl ((zhX (zsM (by rw[←hS];exact ht23))).2.symm)))
 obtain⟨x,hx⟩:∃x,S[0]?=some x:=yq;refine qbw ?_;refine A0 (zr (i:=0) rfl rfl rfl ya zfJ yh) ?_;refine qcM ?_;refine A0 (oCl (zsp x) rfl fn_98 ycg) ?_;refine qa6 ?_;refine qcm ?_;refine qaH ?_;refine qah ?_;refine qcq ?_;refine A0 (zB rfl zqk zrD (.cons zew (Lens.fst _ _) zaM rfl .nil) rfl) ?_;refine z8 zqk rfl rfl rfl rfl ?_;refine qbs ?_;refine CN ?_;refine zdQ 2 (x:=(zg3 x,())) zpn rfl ?_;refine zcR 2 46 idT [.val zbx (zg3 x)] rfl yby ?_;refine CQQR ?_;refine qbQ ?_;refine zl (n:=3) (y:=(S.take 1).drop 1) rfl (by rw[List.drop_of_length_le yy]) ?_;refine Lp (ι:=Nat) 4 (fun i=>((((Fr.none.set 2 (.ptr 0 0)).set 4 (.val (sl (sl u8T)) S)).set 7 (.val zs (zbi x))).set 8 (.ptr 2 0)).set 9 (.val i64T (i:Int))) (fun i=>((Hp.none.set 0 (.box 55 zbL zPart)).set 2 (.parts 55 [.val zbx (zg3 x),.own 3])).set 3 (.row 46 idT ((S.take i).drop 1))) (fun i=>1≤i∧i≤S.length∧∀y∈(S.take i).drop 1,y.length=32) (fun i=>S.length-i) (1) (⟨ug _,by omega,fun y hy=>by rw[List.drop_of_length_le yy] at hy;cases hy⟩) ?_;intro i hlp;refine qaW ?_;refine qcA ?_;refine qav ?_;refine Cf (p:=i<S.length) (fun ht37=>?_) (fun ht37=>?_)
 ·
  obtain⟨y,hy⟩:∃y,S[i]?=some y:=⟨_,ub ht37⟩;refine qa8 ?_;refine qaW ?_;refine A0 (zr (i:=i) rfl rfl rfl ya zfJ yh) ?_;refine qcM ?_;refine qbO ?_;refine qaO ?_;refine zq (p:=¬y.length=32) rfl y9 (fun ht45=>?_) (fun ht45=>?_)
  ·
   refine CQR ?_;refine A0 (zB rfl zlf zrD .nil rfl) ?_;refine qbs ?_;refine qac ?_;exact zn rfl rfl (zt rfl rfl ziA ((zhX (zsN hlp.1 (hS▸hy) ht45)).1.symm)) (zS (za rfl ((zhX (zsN hlp.1 (hS▸hy) ht45)).2.symm)))
  have hyl:y.length=32:=ua ht45;refine CSQR ?_;refine qaB ?_;refine qaw ?_;refine zJ (n:=4) (y:=idK y 0) rfl (by rw[zvS];rfl) ?_;refine Lp (ι:=Nat) 5 (fun (k:Nat)=>(((((((Fr.none).set 2 (.ptr 0 0)).set 4 (.val (sl (sl u8T)) S)).set 7 (.val zs (zbi x))).set 8 (.ptr 2 0)).set 9 (.val i64T (i:Int))).set 10 (.ptr 4 0)).set 11 (.val i64T (k:Int))) (fun (k:Nat)=>((((Hp.none).set 0 (.box 55 zbL zPart)).set 2 (.parts 55 [.val zbx (zg3 x),.own 3])).set 3 (.row 46 idT ((S.take i).drop 1))).set 4 (.box 46 idT (idK y k))) (fun (k:Nat)=>k≤32) (fun (k:Nat)=>32-k) (0) (uf _) ?_;intro k hkk;refine qaF ?_;refine qav ?_;refine Cf (p:=k<32) (fun ht48=>?_) (fun ht48=>?_)
  ·
   obtain⟨c,hc⟩:∃c,y[k]?=some c:=yq;have hkl:=idK_len hyl (Nat.le_of_lt ht48);refine qa8 ?_;refine CR ?_;refine qad ?_;refine qau ?_;refine A0 (zr (i:=i) rfl rfl rfl ya zfJ yh) ?_;refine qcM ?_;refine qau ?_;refine A0 (zr (i:=k) rfl rfl rfl ya zb4 yh) ?_;refine A0 (zh rfl rfl ty_5) ?_;refine A0 (zG (i:=k) rfl rfl rfl yi zfj ya) ?_;refine zg rfl rfl rfl rfl rfl (Lens.elem (i:=k) ya u8T) ty_5 rfl ?_;refine qaK ?_;refine zJ (n:=4) (y:=idK y (k+1)) rfl (zvT hc ht48) ?_;exact Nx (k+1) ya ya
  have hid:idK y k=y:=by rw[show k=32 by omega];exact idK_all hyl
  refine CE ?_;refine CR ?_;refine A0 (oFp zcP) ?_;refine A0 (zae rfl rfl rfl rfl rfl zcG) ?_;refine qb4 ?_;refine qbf ?_;refine A0 (oFp zcP) ?_;refine zaG rfl rfl rfl rfl rfl rfl rfl rfl rfl rfl zcG ?_;refine qaK ?_;refine zbc 5 3 6 rfl rfl rfl rfl rfl rfl ?_;refine zl (n:=3) (y:=(S.take (i+1)).drop 1) rfl (by rw[zti hlp.1 hy,hid]) ?_;exact Nx (i+1) (⟨by omega,by omega,lens_step hlp.1 hy hlp.2.2 hyl⟩) ya
 have hpg:zjY r=true:=partG_all (ua g18) (by rw[←hS];exact ht23) (by rw[←hS];omega) (hS▸hlp.2.2);obtain⟨hpv,hpo⟩:=zsL hpg (hS▸hx);rw[←hS] at hpv;refine CE ?_;refine CQ ?_;refine zgY 2 3 [.val zbx (zg3 x)] (z:=(⟨zg3 x,(S.take i).drop 1⟩:Part)) (R:=zbL) rfl rfl rfl zsU ?_;refine CR ?_;refine A0 (oLs rfl rfl rfl ziA) ?_;refine qau ?_;refine qbs ?_;refine qac ?_;exact zn rfl rfl (zt rfl rfl ziA (by rw[hpv,uc ya])) (zS (za rfl (hpo.symm)))
theorem rpread_ok (b:List UInt8) (hb:b.length≤1000000000):Tells P 21 [.val (bsl u8T) b] (.tup2 (.val zax (zsD b)) (.val zs (zcH b))):=by
 have hsp:=zbo (zsn (b.drop 2) yaF);obtain⟨S,hS⟩:∃S,S=(zw (b.drop 2)).1:=⟨_,rfl⟩;obtain⟨D,hD⟩:∃D,D=(zw (b.drop 2)).2:=⟨_,rfl⟩;rw[←hS,←hD] at hsp;have hrl:∀r∈S,r.length≤1000000000:=fun r hr=>by rw[hS] at hr;have:=zst (split_has hr) hr;rw[List.length_drop] at this;omega
 have hSl:S.length≤255:=by rw[hS];exact zsd _
 refine zc Tryz.func21 rfl rfl rfl (fun ext w hext=>?_);refine ze (d:=0) rfl zi (fun hsl0=>?_);refine CQR ?_;refine qb6 ?_;refine qaj ?_;refine qcr ?_;refine qav ?_;refine Cf (p:=b.length<2) (fun ht14=>?_) (fun ht14=>?_)
 ·
  refine CQR ?_;refine xO ?_;refine qcw ?_;exact zn rfl rfl (zt rfl rfl zbD ((zeq (no_len2 ht14)).symm)) (zS (za rfl ((no_len2 ht14).symm)))
 obtain⟨b0,hb0⟩:∃c,b[0]?=some c:=yq;obtain⟨b1,hb1⟩:∃c,b[1]?=some c:=yq;refine qbw ?_;refine A0 (ziT rfl rfl rfl zb4 yg) ?_;refine A0 (oCl (hsp) rfl fn_49 yc) ?_;refine qa6 ?_;refine A0 aV ?_;refine qaY ?_;refine aw_drawf 9 (.box 25 zvu (0,0,())) [some 1,some 1,some 1,some 1,some 1,some 1,some 1,some 1,some 1,some 1000001,none] mixed yd rfl ?_;refine XKF.g rfl (g_mv (.inl rfl) rfl) (g_mv (.inl rfl) rfl) rfl rfl rfl rfl ?_;refine XKF.g rfl (zr (i:=0) rfl rfl rfl ya zb4 yh) (zr (i:=0) rfl rfl rfl ya zb4 yh) rfl rfl rfl rfl ?_;refine XKF.g rfl (zh rfl rfl ty_5) (zh rfl rfl ty_5) rfl rfl rfl rfl ?_;refine XKF.g rfl (zhy rfl (ui_3) (us_5) rfl (by exact zp2 _)) (zhy rfl (ui_3) (us_5) rfl (by exact zp2 _)) rfl rfl rfl rfl ?_;refine XKF.g rfl (g_mv (.inl rfl) rfl) (g_mv (.inl rfl) rfl) rfl rfl rfl rfl ?_;refine XKF.g rfl (zr (i:=1) rfl rfl rfl ya zb4 yh) (zr (i:=1) rfl rfl rfl ya zb4 yh) rfl rfl rfl rfl ?_;refine XKF.g rfl (zh rfl rfl ty_5) (zh rfl rfl ty_5) rfl rfl rfl rfl ?_;refine XKF.g rfl (zhy rfl (ui_3) (us_5) rfl (by exact zp2 _)) (zhy rfl (ui_3) (us_5) rfl (by exact zp2 _)) rfl rfl rfl rfl ?_;refine XKF.g rfl (zB rfl zfF zdi (.cons zcQ (Lens.fst _ _) ty_3 rfl (.cons zey ((Lens.snd _ _).comp (Lens.fst _ _)) ty_3 rfl .nil)) rfl) (zB rfl zfF zdi (.cons zcQ (Lens.fst _ _) ty_3 rfl (.cons zey ((Lens.snd _ _).comp (Lens.fst _ _)) ty_3 rfl .nil)) rfl) rfl rfl rfl rfl ?_;refine XKF.f rfl zfF rfl rfl rfl rfl rfl rfl ?_;refine XKF.ew (x:=.idk) rfl yd (fun fr' hfr kk H=>by exact zg rfl rfl rfl ((hfr 6 yd).trans rfl) rfl (Lens.self _) zbD ((hfr 30 yd).trans rfl) (zM H)) (by exact rfl) (by (repeat refine av_set ?_ rfl);exact fun _ _=>rfl) ?_;refine XKF.nilp trivial ?_;refine zdQ 1 (x:=((b0.toNat:Int),(b1.toNat:Int),())) zf4 rfl ?_;refine zcR 1 55 zbL [.val i64T (b0.toNat:Int),.val i64T (b1.toNat:Int)] rfl yT ?_;refine CQQR ?_;refine qbQ ?_;refine zj (d:=5) (y:=(D&&(S.take 0).all za2)) rfl yw ?_;refine zl (n:=2) (y:=(S.take 0).map zmt) rfl rfl ?_;refine Lp (ι:=Nat) 3 (fun i=>(((((Fr.none.set 0 (.val (bsl u8T) b)).set 2 (.ptr 0 0)).set 4 (.val (sl (sl u8T)) S)).set 5 (.val zs (D&&(S.take i).all za2))).set 6 (.ptr 1 0)).set 7 (.val i64T (i:Int))) (fun i=>((Hp.none.set 0 (.box 25 zax zdI)).set 1 (.parts 25 [.val i64T (b0.toNat:Int),.val i64T (b1.toNat:Int),.own 2])).set 2 (.row 55 zbL ((S.take i).map zmt))) (fun i=>i≤S.length) (fun i=>S.length-i) (0) (uf _) ?_;intro i hinv;refine qaW ?_;refine qcA ?_;refine qav ?_;refine Cf (p:=i<S.length) (fun ht34=>?_) (fun ht34=>?_)
 ·
  obtain⟨r,hx⟩:∃r,S[i]?=some r:=⟨_,ub ht34⟩;have hr:=hrl r (ud hx);refine qdm ?_;refine A0 (zr (i:=i) rfl rfl rfl ya zfJ yh) ?_;refine qcM ?_;refine A0 (oCl (rpart_ok r hr) rfl fn_50 ycg) ?_;refine qa6 ?_;refine z8 zlf rfl rfl rfl rfl ?_;refine qbs ?_;refine qbr ?_;refine zX (d:=46) (p:=(D&&(S.take i).all za2)=true) rfl (by cases (D&&(S.take i).all za2)<;>rfl) (fun g46=>?_) (fun g46=>?_)
  ·
   refine A1 mV ?_;refine A0 oK ?_;refine qbX ?_;refine A0 (oFp zcC) ?_;refine A0 (zae rfl rfl rfl rfl rfl zhi) ?_;refine A0 (oLs rfl rfl rfl ziA) ?_;refine qc7 ?_;refine A0 (oFp zcC) ?_;refine zaG rfl rfl rfl rfl rfl rfl rfl rfl rfl rfl zhi ?_;refine qaK ?_;refine zj (d:=5) (y:=(D&&(S.take (i+1)).all za2)) rfl (by rw[←zwI hx];first|rw[g46];rfl|simp[g46]) ?_;refine zbc 4 2 5 rfl rfl rfl rfl rfl rfl ?_;refine zl (n:=2) (y:=(S.take (i+1)).map zmt) rfl ybC ?_;exact Nx (i+1) ya ya
  refine A2 ?_;refine A0 oK ?_;refine qbX ?_;refine A0 (oFp zcC) ?_;refine A0 (zae rfl rfl rfl rfl rfl zhi) ?_;refine A0 (oLs rfl rfl rfl ziA) ?_;refine qc7 ?_;refine A0 (oFp zcC) ?_;refine zaG rfl rfl rfl rfl rfl rfl rfl rfl rfl rfl zhi ?_;refine qaK ?_;refine zj (d:=5) (y:=(D&&(S.take (i+1)).all za2)) rfl (by rw[←zwI hx];first|rw[g46];rfl|simp[g46]) ?_;refine zbc 4 2 5 rfl rfl rfl rfl rfl rfl ?_;refine zl (n:=2) (y:=(S.take (i+1)).map zmt) rfl ybC ?_;exact Nx (i+1) ya ya
 have hST:S.take i=S:=uc ya;refine zj (d:=5) (y:=(D&&S.all za2)) rfl (by rw[hST]) ?_;refine CE ?_;refine qaF ?_;refine qaJ ?_;refine zq (p:=¬(D&&S.all za2)=true) rfl (by cases (D&&S.all za2)<;>rfl) (fun ht56=>?_) (fun ht56=>?_)
 ·
  refine CQR ?_;refine xO ?_;refine qcw ?_;exact zn rfl rfl (zt rfl rfl zbD ((zeq (no_dall (hD▸hS▸ht56))).symm)) (zS (za rfl ((no_dall (hD▸hS▸ht56)).symm)))
 have hDS:D=true∧S.all za2=true:=by have:=ua ht56;rw[uk] at this;exact this
 have hall:(zw (b.drop 2)).1.all za2=true:=by rw[←hS];exact hDS.2
 have hrd:=read_parts hb0 hb1 hall;rw[←hS] at hrd;refine zgY 1 2 [.val i64T (b0.toNat:Int),.val i64T (b1.toNat:Int)] (z:=(⟨(b0.toNat:Int),(b1.toNat:Int),(S.take i).map zmt⟩:Proof)) (R:=zax) rfl rfl rfl zhw ?_;refine zJ (n:=1) (y:=ze7 b) rfl (by rw[hST];exact hrd) ?_;refine CSQR ?_;refine qbC ?_;refine A0 (oCl (zvh (ze7 b)) rfl fn_19 yc) ?_;refine qb1 ?_;refine A0 oN ?_;refine zX (d:=64) (p:=¬wOk (ze7 b)=true) rfl yw (fun g64=>?_) (fun g64=>?_)
 ·
  refine qau ?_;refine qab ?_;refine qbB ?_;refine qao ?_;refine Ct ?_;refine CQR ?_;refine xO ?_;refine qcw ?_;exact zn rfl rfl (zt rfl rfl zbD ((zeq (no_wok g64)).symm)) (zS (za rfl ((no_wok g64).symm)))
 refine qbR ?_;refine A1 (g_cvs rfl rfl uu_26 ui_5 st_9) ?_;refine A1 mV ?_;refine A1 (g_cvs rfl rfl uu_26 ui_5 st_9) ?_;refine A1 (g_neqstr rfl rfl rfl) ?_;refine qao ?_;refine zq (p:=¬zjB (ze7 b)=b) rfl yw (fun ht71=>?_) (fun ht71=>?_)
 ·
  refine CQR ?_;refine xO ?_;refine qcw ?_;exact zn rfl rfl (zt rfl rfl zbD ((zeq (no_same ht71)).symm)) (zS (za rfl ((no_same ht71).symm)))
 have hok:=read_again (by rw[←hD];exact hDS.1) hall ya (ua g64);refine CSQR ?_;refine qbC ?_;refine qcw ?_;exact zn rfl rfl (zt rfl rfl zbD ((znP hok).symm)) (zS (za rfl (hok.symm)))
theorem zrQ (l:List Block) (m k x:Int) (p q:Proof) (b:List UInt8) (hl:zgH l):Tells P 3 [.val (sl zU) l,.val i64T m,.val i64T k,.val i64T x,.val zax p,.val zax q,.val (sl u8T) b] (.val zs true):=by
 have hll:=hl.1;refine zc Tryz.func3 rfl rfl rfl (fun ext w hext=>?_);refine ze (d:=0) rfl zi (fun hsl0=>?_);refine ze (d:=1) rfl zu (fun hin1=>?_);refine ze (d:=2) rfl zu (fun hin2=>?_);refine ze (d:=3) rfl zu (fun hin3=>?_);refine ze (d:=6) rfl zi (fun hsl6=>?_);refine qa3 ?_;refine qah ?_;refine A0 (oCl (awake17_ok) rfl fn_11 trivial) ?_;refine qaA ?_;refine A0 (oCl (fewC_ok l) rfl fn_12 yc) ?_;refine qah ?_;refine qbC ?_;refine A0 (oCl (zwl p) rfl fn_13 yc) ?_;refine qah ?_;refine qbC ?_;refine A0 (oCl (zwl q) rfl fn_13 yc) ?_;refine qaj ?_;refine A0 oN ?_;refine zgs (d:=47) rfl (rfl) ?_;refine qbR ?_;refine A1 oN ?_;refine zX (d:=50) (p:=¬fewC l=true) rfl (by cases fewC l<;>rfl) (fun g50=>?_) (fun g50=>?_)
 ·
  refine qaf ?_;refine qaE ?_;refine qcL ?_;refine qao ?_;refine Ct ?_;refine qa7 ?_;refine qac ?_;exact zd rfl rfl (za rfl (rfl))
 refine qbA ?_;refine A1 oN ?_;refine zX (d:=54) (p:=zum p=false) rfl (by cases zum p<;>rfl) (fun g54=>?_) (fun g54=>?_)
 ·
  refine qaf ?_;refine qbB ?_;refine qcL ?_;refine qao ?_;refine Ct ?_;refine qa7 ?_;refine qac ?_;exact zd rfl rfl (za rfl (rfl))
 refine qbA ?_;refine A1 oN ?_;refine zX (d:=58) (p:=zum q=false) rfl (by cases zum q<;>rfl) (fun g58=>?_) (fun g58=>?_)
 ·
  refine qcL ?_;refine qao ?_;refine Ct ?_;refine qa7 ?_;refine qac ?_;exact zd rfl rfl (za rfl (rfl))
 refine qbA ?_;refine A1 (zat rfl rfl zed) ?_;refine qdo ?_;refine qao ?_;refine Cf (p:=6000<b.length) (fun ht64=>?_) (fun ht64=>?_)
 ·
  refine qa7 ?_;refine qac ?_;exact zd rfl rfl (za rfl (rfl))
 refine qcz ?_;refine qau ?_;refine A0 (oCl (zpG l m k hl) rfl fn_14 yz) ?_;refine qa6 ?_;refine qb6 ?_;refine qam ?_;refine qbr ?_;refine qau ?_;refine A0 (oCl (ztY l m k hl) rfl fn_15 yz) ?_;refine qa6 ?_;refine qb6 ?_;refine qam ?_;refine qbr ?_;refine qad ?_;refine A0 (oCl (zsI l m k x hl) rfl fn_16 y5) ?_;refine qa6 ?_;refine qb6 ?_;refine qam ?_;refine qbr ?_;refine qad ?_;refine A0 (oCl (rprWith_ok l m k x hl) rfl fn_17 y5) ?_;refine qa6 ?_;refine qb6 ?_;refine qam ?_;refine qah ?_;refine qbC ?_;refine A0 (oCl (pput_ok p) rfl fn_18 yc) ?_;refine qa6 ?_;refine A0 aV ?_;refine qah ?_;refine qbC ?_;refine A0 (oCl (zvh p) rfl fn_19 yc) ?_;refine qa6 ?_;refine A0 aV ?_;refine qaA ?_;refine A0 (oCl (zvv b ya) rfl fn_20 yc) ?_;refine qa6 ?_;refine qb6 ?_;refine qam ?_;refine qaA ?_;refine A0 (oCl (rpread_ok b ya) rfl fn_21 yc) ?_;refine qa6 ?_;refine qb6 ?_;refine qam ?_;refine qah ?_;refine qbC ?_;refine qbC ?_;refine A0 (oCl (zhU (prOf l m k) (prOf l m k)) rfl fn_22 ye) ?_;refine qah ?_;refine qbC ?_;refine qbC ?_;refine A0 (oCl (zhU (wiOf l m k x) (wiOf l m k x)) rfl fn_22 ye) ?_;refine qah ?_;refine qbC ?_;refine qbC ?_;refine A0 (oCl (zhU (zsD b) (zsD b)) rfl fn_22 ye) ?_;refine qah ?_;refine qbC ?_;refine qbC ?_;refine A0 (oCl (zhU p q) rfl fn_22 ye) ?_;refine qbr ?_;refine zfE (d:=129) rfl yw ?_;refine A1 mV ?_;refine A1 mV ?_;refine A1 zbZ ?_;refine qaf ?_;refine zfE (d:=134) rfl yw ?_;refine A1 mV ?_;refine qaf ?_;refine zfE (d:=137) rfl yw ?_;refine A1 mV ?_;refine A1 mV ?_;refine A1 zbZ ?_;refine qaf ?_;refine zfE (d:=142) rfl yw ?_;refine A1 mV ?_;refine A1 (g_cvs rfl rfl uu_26 ui_5 st_9) ?_;refine A1 mV ?_;refine A1 (g_cvs rfl rfl uu_26 ui_5 st_9) ?_;refine A1 (g_eqlstr rfl rfl rfl) ?_;refine qaf ?_;refine zfE (d:=149) rfl yw ?_;refine A1 mV ?_;refine A1 mV ?_;refine A1 (g_eqlB rfl rfl rfl ub_4) ?_;refine qaf ?_;refine zfE (d:=154) rfl yw ?_;refine A1 mV ?_;refine qaf ?_;refine zfE (d:=157) rfl yw ?_;refine A1 mV ?_;refine A1 mV ?_;refine A1 (g_eqlB rfl rfl rfl ub_4) ?_;refine qaf ?_;refine zfE (d:=162) rfl yw ?_;refine A1 (oLs rfl rfl rfl zbD) ?_;refine A1 (oLs rfl rfl rfl zbD) ?_;refine A1 (oCl (zve p q) rfl fn_23 ye) ?_;refine A1 mV ?_;refine A1 (g_eqlB rfl rfl rfl ub_4) ?_;refine qaS ?_;exact zd rfl rfl (za rfl yw)
end Go.Proofs.YtjjlfapfjjkomaaGreat
