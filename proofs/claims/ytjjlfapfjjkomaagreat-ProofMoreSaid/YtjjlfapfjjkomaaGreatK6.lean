/- Parts of the proof: the layer that reads Go values as data, and what the functions of the program tell. -/
import Derived.Test.YtjjlfapfjjkomaaGreatK5
set_option linter.unusedVariables false
set_option linter.unusedSimpArgs false
set_option maxRecDepth 20000
namespace Go.Proofs.YtjjlfapfjjkomaaGreat
open Go.Ab Go.RowKit
def proverN:GoT (List Block×Int×Int×List Int×Unit):=pairT (bsl blockT) (pairT i64T (pairT i64T (pairT (sl i64T) nilT)))
def proofN:GoT (Int×Int×Unit):=pairT i64T (pairT i64T nilT)
theorem zn_prover:ZeroAt P 82 proverN ([],0,0,[],()):=z8 (zV zcR (zV zbC (zV zbC (zV zcR zero_nil)))) (by kernel_rfl)
theorem zn_proof:ZeroAt P 25 proofN (0,0,()):=z8 (zV zbC (zV zbC zero_nil)) (by kernel_rfl)
theorem split_prover {l:List Block} {m k:Int} {v:List Int}:SplitOk proverN (l,m,k,v,()) [.val (bsl blockT) l,.val i64T m,.val i64T k,.val (sl i64T) v,.lit (.slice none 0 0)]:=zbl zbw (zbl zbw (zbl zbw (zbl zbw split_nil)))
theorem zeX {m k:Int}:SplitOk proofN (m,k,()) [.val i64T m,.val i64T k,.lit (.slice none 0 0)]:=zbl zbw (zbl zbw split_nil)
theorem join_proof {m k:Int} {l:List Part}:JoinOk proofT (⟨m,k,l⟩:Proof) [.val i64T m,.val i64T k] partT l:=join_via (zd2 (zd2 join_last))
def placesOf (l:List Block) (m k:Int):List Int:=(prefixOf (levelsOf l) m k).1++(List.range k.toNat).map fun j:Nat=>(l.length:Int)-k+(j:Int)
def prPart (l:List Block) (i:Int):Part:=⟨(l.getD i.toNat default).h,(l.getD i.toNat default).l⟩
def prE (l:List Block) (m k:Int):Int:=if ¬(checkOf l).2=0 then (checkOf l).2 else if m<1∨20<m∨k<1∨20<k∨l.length≤k then 1 else 0
def prOf (l:List Block) (m k:Int):Proof:=if prE l m k=0 then ⟨m,k,(placesOf l m k).map (prPart l)⟩ else zProof
theorem prefix_mem {v:List Int} {m k x:Int} (h:x∈(prefixOf v m k).1):0≤x∧x<(v.length:Int)-k:=by
  unfold prefixOf at h
  split at h
  · rename_i c
    exact (climb_ok c 32 (Nat.le_refl _)).2.2 x (sort_mem.1 h)
  · cases h
theorem ze2 (v:List Int) (m k:Int):(prefixOf v m k).1.length≤200:=by
  unfold prefixOf
  split
  · rename_i c
    have:=climb_length (climb_ok c 32 (Nat.le_refl _)) (zcz c)
    simpa [sortInts] using this
  · simp
theorem zbs (l:List Block):(levelsOf l).length=l.length:=by unfold levelsOf;simp
theorem zbV {l:List Block} {m k x:Int} (hk:1≤k∧k<l.length) (h:x∈placesOf l m k):0≤x∧x<l.length:=by
  unfold placesOf at h
  rcases List.mem_append.1 h with h|h
  · have:=prefix_mem h
    rw [zbs] at this
    omega
  · obtain ⟨j,hj,rfl⟩:=List.mem_map.1 h
    rw [List.mem_range] at hj
    omega
theorem places_length {l:List Block} {m k:Int} (hk:k≤20):(placesOf l m k).length≤220:=by
  unfold placesOf
  have:=ze2 (levelsOf l) m k
  simp;omega
theorem zcn (l:List Block) (m k:Int) (hl:smallC l):Tells P 14 [.val (bsl blockT) l,.val i64T m,.val i64T k] (.tup2 (.val proofT (prOf l m k)) (.val i64T (prE l m k))):=by
 have hll:=hl.1
 refine zc Tryz.func14 rfl rfl rfl (fun ext w hext=>?_)
 refine ze (d:=0) rfl zk (fun hsl0=>?_)
 refine ze (d:=1) rfl zn (fun hin1=>?_)
 refine ze (d:=2) rfl zn (fun hin2=>?_)
 refine CQR ?_;refine zw zcL rfl rfl rfl rfl ?_;refine qad ?_;refine qak ?_;refine zU rfl rfl rfl rfl Tryz.func31 fn_31 rfl rfl (fun ia1 iok1=>?_)
 refine qao ?_;refine qai ?_;refine A0 (oCl (check_ok l hl) rfl fn_26 ⟨(zd rfl),trivial⟩) ?_;refine A0 mX ?_;refine A0 (by first|exact zN rfl rfl|exact zM rfl rfl) ?_;refine A0 (by first|exact zQ rfl rfl|exact zP rfl rfl) ?_;refine qbx ?_;refine qa4 ?_;refine qad ?_;refine qaS ?_;refine zr (p:=¬(checkOf l).2=0) rfl (by simp [IntL.toI]) (fun ht18=>?_) (fun ht18=>?_)
 ·
  refine qa1 ?_;refine A0 aL ?_;refine qac ?_;refine zbH rfl ?_;refine A0 (by first|exact zdd (.inl rfl) rfl|exact zdc (.inl rfl) rfl) ?_;refine A0 (by first|exact zN rfl rfl|exact zM rfl rfl) ?_;refine A0 (by first|exact zQ rfl rfl|exact zP rfl rfl) ?_;refine qav ?_;refine aw_if_t rfl (by simp;exact ht18) ?_;refine CQR ?_;refine A0 (zC rfl zcL zdM .nil rfl) ?_;refine qbl ?_
  exact zz rfl rfl (zF rfl rfl zaH (by unfold prOf;rw [if_neg (by unfold prE;rw [if_pos ht18];exact ht18)])) (zaf (za rfl (by unfold prE;rw [if_pos ht18])))
 ·
  refine qbv ?_;refine A0 zbx ?_;refine qaw ?_;refine Sp (d:=22) (p:=m<1) (fun g22=>?_) (fun g22=>?_)
  ·
   refine qaC ?_;refine qae ?_;refine qaC ?_;refine qae ?_;refine A2 ?_;refine qay ?_;refine qat ?_;refine Ct ?_;refine qaZ ?_;refine zbH rfl ?_;refine A0 (by first|exact zdd (.inl rfl) rfl|exact zdc (.inl rfl) rfl) ?_;refine A0 (by first|exact zN rfl rfl|exact zM rfl rfl) ?_;refine A0 (by first|exact zQ rfl rfl|exact zP rfl rfl) ?_;refine qav ?_;refine Ct ?_;refine CQR ?_;refine A0 (zC rfl zcL zdM .nil rfl) ?_;refine qbl ?_
   exact zz rfl rfl (zF rfl rfl zaH (by unfold prOf;rw [if_neg (by unfold prE;rw [if_neg (by omega),if_pos (by omega)];decide)])) (zaf (za rfl (by unfold prE;rw [if_neg (by omega),if_pos (by omega)])))
  ·
   refine A1 mV ?_;refine A1 zaI ?_;refine qae ?_;refine Sp (d:=26) (p:=20<m) (fun g26=>?_) (fun g26=>?_)
   ·
    refine qaC ?_;refine qae ?_;refine A2 ?_;refine qay ?_;refine qat ?_;refine Ct ?_;refine qaZ ?_;refine zbH rfl ?_;refine A0 (by first|exact zdd (.inl rfl) rfl|exact zdc (.inl rfl) rfl) ?_;refine A0 (by first|exact zN rfl rfl|exact zM rfl rfl) ?_;refine A0 (by first|exact zQ rfl rfl|exact zP rfl rfl) ?_;refine qav ?_;refine Ct ?_;refine CQR ?_;refine A0 (zC rfl zcL zdM .nil rfl) ?_;refine qbl ?_
    exact zz rfl rfl (zF rfl rfl zaH (by unfold prOf;rw [if_neg (by unfold prE;rw [if_neg (by omega),if_pos (by omega)];decide)])) (zaf (za rfl (by unfold prE;rw [if_neg (by omega),if_pos (by omega)])))
   ·
    refine A1 mV ?_;refine A1 zbx ?_;refine qae ?_;refine Sp (d:=30) (p:=k<1) (fun g30=>?_) (fun g30=>?_)
    ·
     refine A2 ?_;refine qay ?_;refine qat ?_;refine Ct ?_;refine qaZ ?_;refine zbH rfl ?_;refine A0 (by first|exact zdd (.inl rfl) rfl|exact zdc (.inl rfl) rfl) ?_;refine A0 (by first|exact zN rfl rfl|exact zM rfl rfl) ?_;refine A0 (by first|exact zQ rfl rfl|exact zP rfl rfl) ?_;refine qav ?_;refine Ct ?_;refine CQR ?_;refine A0 (zC rfl zcL zdM .nil rfl) ?_;refine qbl ?_
     exact zz rfl rfl (zF rfl rfl zaH (by unfold prOf;rw [if_neg (by unfold prE;rw [if_neg (by omega),if_pos (by omega)];decide)])) (zaf (za rfl (by unfold prE;rw [if_neg (by omega),if_pos (by omega)])))
    ·
     refine A1 mV ?_;refine A1 zaI ?_;refine qae ?_;refine Sp (d:=34) (p:=20<k) (fun g34=>?_) (fun g34=>?_)
     ·
      refine qab ?_;refine A2 ?_;refine qat ?_;refine Ct ?_;refine qaZ ?_;refine zbH rfl ?_;refine A0 (by first|exact zdd (.inl rfl) rfl|exact zdc (.inl rfl) rfl) ?_;refine A0 (by first|exact zN rfl rfl|exact zM rfl rfl) ?_;refine A0 (by first|exact zQ rfl rfl|exact zP rfl rfl) ?_;refine qav ?_;refine Ct ?_;refine CQR ?_;refine A0 (zC rfl zcL zdM .nil rfl) ?_;refine qbl ?_
      exact zz rfl rfl (zF rfl rfl zaH (by unfold prOf;rw [if_neg (by unfold prE;rw [if_neg (by omega),if_pos (by omega)];decide)])) (zaf (za rfl (by unfold prE;rw [if_neg (by omega),if_pos (by omega)])))
     ·
      refine A1 mV ?_;refine A1 (zR rfl rfl zcQ) ?_;refine A1 mV ?_;refine A1 zcN ?_;refine qat ?_;refine Cf (p:=l.length≤k) (fun ht39=>?_) (fun ht39=>?_)
      ·
       refine qaZ ?_;refine zbH rfl ?_;refine A0 (by first|exact zdd (.inl rfl) rfl|exact zdc (.inl rfl) rfl) ?_;refine A0 (by first|exact zN rfl rfl|exact zM rfl rfl) ?_;refine A0 (by first|exact zQ rfl rfl|exact zP rfl rfl) ?_;refine qav ?_;refine Ct ?_;refine CQR ?_;refine A0 (zC rfl zcL zdM .nil rfl) ?_;refine qbl ?_
       exact zz rfl rfl (zF rfl rfl zaH (by unfold prOf;rw [if_neg (by unfold prE;rw [if_neg (by omega),if_pos (by omega)];decide)])) (zaf (za rfl (by unfold prE;rw [if_neg (by omega),if_pos (by omega)])))
      ·
       have hpl:=ze2 (levelsOf l) m k
       refine CSQR ?_;refine qak ?_;refine qak ?_;refine A0 (oCl (zp (levels_ok l (by omega))) rfl fn_25 ⟨(zd rfl),trivial⟩) ?_;refine A0 (zC rfl zn_prover bd_82 (.cons fd_82_0 (Lens.fst _ _) ty_22 rfl (.cons fd_82_1 ((Lens.snd _ _).comp (Lens.fst _ _)) ty_3 rfl (.cons fd_82_2 ((Lens.snd _ _).comp ((Lens.snd _ _).comp (Lens.fst _ _))) ty_3 rfl (.cons fd_82_3 ((Lens.snd _ _).comp ((Lens.snd _ _).comp ((Lens.snd _ _).comp (Lens.fst _ _)))) zb6 rfl .nil)))) rfl) ?_;refine aw_box rfl rfl rfl rfl rfl ?_;refine A0 aP ?_;refine CN ?_
       refine zdk 2 (x:=(l,m,k,levelsOf l,())) split_prover rfl ?_;refine zcl 2 3 i64T [.val (bsl blockT) l,.val i64T m,.val i64T k,.val (sl i64T) (levelsOf l)] rfl (by intro x hx;simp only [List.mem_cons,List.not_mem_nil,or_false] at hx;rcases hx with rfl|rfl|rfl|rfl<;>trivial) ?_;refine CQR ?_;refine A0 mP ?_;refine A0 mP ?_;refine A0 (g_nc rfl rfl) ?_;refine A0 (oFp fd_82_3) ?_;refine A0 (zo rfl rfl rfl rfl rfl zb6) ?_;refine qak ?_;refine aw_callf2 (prefix_ok (levelsOf l) m k) rfl fn_24 ⟨(zd rfl),(zd rfl),(zd rfl),trivial⟩ flat_bool rfl rfl rfl ?_
       refine A0 (by first|exact zdd (.inl rfl) rfl|exact zdc (.inl rfl) rfl) ?_;refine A0 (by first|exact zN rfl rfl|exact zM rfl rfl) ?_;refine A0 (by first|exact zQ rfl rfl|exact zP rfl rfl) ?_;refine A0 (g_nc rfl rfl) ?_;refine A0 (oFp zcC) ?_;refine zaj rfl rfl rfl rfl rfl rfl rfl rfl rfl rfl zb6 ?_;refine CNQQR ?_;refine qak ?_;refine CNB ?_;refine zA (n:=4) (y:=(prefixOf (levelsOf l) m k).1++(List.range 0).map fun j:Nat=>(l.length:Int)-k+(j:Int)) rfl (by simp) ?_
       refine Lp (ι:=Nat) 5 (fun (i:Nat)=>(((((Fr.none).set 0 (.val (bsl blockT) l)).set 2 (.val i64T k)).set 10 (.ptr 2 0)).set 60 (.val i64T k)).set 61 (.val i64T (i:Int))) (fun (i:Nat)=>(((Hp.none).set 0 (.box 25 proofT zProof)).set 2 (.parts 82 ([.val (bsl blockT) l,.val i64T m,.val i64T k,.val (sl i64T) (levelsOf l)]++[.own 4]))).set 4 (.row 3 i64T ((prefixOf (levelsOf l) m k).1++(List.range i).map fun j:Nat=>(l.length:Int)-k+(j:Int)))) (fun (i:Nat)=>(i:Int)≤k) (fun (i:Nat)=>k.toNat-i) (0) (by simp;omega) ?_
       intro i hi
       refine qaj ?_;refine Cf (p:=(i:Int)<k) (fun ht62=>?_) (fun ht62=>?_)
       ·
        refine qaP ?_;refine qbG ?_;refine A0 mP ?_;refine A0 mP ?_;refine A0 (g_nc rfl rfl) ?_;refine A0 (oFp zcC) ?_;refine A0 (zo rfl rfl rfl rfl rfl zb6) ?_;refine qaw ?_;refine A0 (zR rfl rfl zcQ) ?_;refine qbA ?_;refine qaY ?_;refine A0 (zt (T:=i64T) (xs:=[_]) rfl zbm zcP ⟨rfl,rfl,trivial⟩ rfl rfl) ?_;refine zD rfl rfl rfl rfl rfl rfl rfl zcP (by simp;omega) ?_;refine A0 (g_nc rfl rfl) ?_;refine A0 (oFp zcC) ?_;refine zaj rfl rfl rfl rfl rfl rfl rfl rfl rfl rfl zb6 ?_;refine qaW ?_;refine zaG 5 4 6 rfl rfl rfl rfl rfl rfl ?_
        refine zA (n:=4) (y:=(prefixOf (levelsOf l) m k).1++(List.range (i+1)).map fun j:Nat=>(l.length:Int)-k+(j:Int)) rfl (by rw [List.range_succ,List.map_append];simp) ?_
        exact Nx (i+1) (by omega) (by omega)
       ·
        refine CE ?_;refine CQ ?_
        obtain ⟨PL,hPL⟩:∃PL,PL=placesOf l m k:=⟨_,rfl⟩
        refine zA (n:=4) (y:=PL) rfl (by rw [hPL];unfold placesOf;rw [show k.toNat=i by omega]) ?_
        have hpm:∀x∈PL,0≤x∧x<l.length:=fun x hx=>zbV (by omega) (hPL▸hx)
        have hpn:PL.length≤220:=hPL▸places_length (by omega)
        refine CR ?_;refine A0 mP ?_;refine A0 aP ?_;refine qac ?_;refine zbH rfl ?_;refine A0 (by first|exact zdd (.inl rfl) rfl|exact zdc (.inl rfl) rfl) ?_;refine A0 (by first|exact zN rfl rfl|exact zM rfl rfl) ?_;refine A0 (by first|exact zQ rfl rfl|exact zP rfl rfl) ?_;refine A0 aP ?_;refine A0 aX ?_;refine CNQQR ?_;refine A0 mX ?_;refine qaS ?_;refine Cg ?_;refine CSQR ?_;refine A0 mP ?_;refine zU rfl rfl rfl rfl Tryz.func32 fn_32 rfl rfl (fun ia3 iok3=>?_)
        refine CQR ?_;refine zw zcL rfl rfl rfl rfl ?_;refine CNQ ?_;refine zE [some 1000001,some 1000001,some 1000001,some 1000001,some 1000001,some 1000001,some 1000001,some 1000001,some 1000001,none,none] mixed (by decide +kernel) ?_;refine XK.ga (fun _=>g_mp (.inl rfl) rfl) rfl rfl rfl ?_;refine XK.ga (fun _=>g_nc rfl rfl) rfl rfl rfl ?_;refine XK.ga (fun _=>g_fa_p rfl rfl fd_82_1 rfl) rfl rfl rfl ?_;refine XK.gf (t:=8) rfl rfl (fun _ he=>zo rfl rfl he rfl rfl ty_3) ⟨rfl,trivial⟩ rfl rfl rfl ?_;refine XK.ga (fun _=>g_mp (.inl rfl) rfl) rfl rfl rfl ?_
        refine XK.ga (fun _=>g_nc rfl rfl) rfl rfl rfl ?_;refine XK.ga (fun _=>g_fa_p rfl rfl fd_82_2 rfl) rfl rfl rfl ?_;refine XK.gf (t:=12) rfl rfl (fun _ he=>zo rfl rfl he rfl rfl ty_3) ⟨rfl,trivial⟩ rfl rfl rfl ?_;refine XK.ga (fun _=>zC rfl zn_proof zdM (.cons zcZ (Lens.fst _ _) ty_3 rfl (.cons zcY ((Lens.snd _ _).comp (Lens.fst _ _)) ty_3 rfl .nil)) rfl) rfl rfl rfl ?_;refine XK.e (fun fr' hfr kk H=>by exact zw zn_proof rfl rfl rfl rfl (zK H)) ?_
        refine XK.e (x:=.idk) (fun fr' hfr kk H=>by exact zh rfl rfl rfl ((hfr 3 (by decide +kernel)).trans rfl) rfl (Lens.self _) zaH ((hfr 14 (by decide +kernel)).trans rfl) (zK H)) ?_;refine XK.nilp ⟨⟨rfl,rfl,trivial⟩,⟨rfl,rfl,trivial⟩,trivial⟩ ?_;refine zdk 6 (x:=(m,k,())) zeX rfl ?_;refine zcl 6 55 partT [.val i64T m,.val i64T k] rfl (by intro x hx;simp only [List.mem_cons,List.not_mem_nil,or_false] at hx;rcases hx with rfl|rfl<;>trivial) ?_;refine CQQR ?_;refine A0 mP ?_;refine A0 (g_nc rfl rfl) ?_;refine A0 (oFp zcC) ?_
        refine A0 (zo rfl rfl rfl rfl rfl zb6) ?_;refine A0 (zan rfl rfl rfl zb2) ?_;refine qa8 ?_
        refine Lp (ι:=Nat) 8 (fun (i:Nat)=>((((((Fr.none).set 0 (.ptr 2 0)).set 2 (.ptr 5 0)).set 3 (.ptr 6 0)).set 18 (.own 4)).set 19 (.val i64T (PL.length:Int))).set 20 (.val i64T (i:Int))) (fun (i:Nat)=>((((((Hp.none).set 0 (.box 25 proofT zProof)).set 2 (.parts 82 ([.val (bsl blockT) l,.val i64T m,.val i64T k,.val (sl i64T) (levelsOf l)]++[.own 4]))).set 4 (.row 3 i64T PL)).set 5 (.box 25 proofT zProof)).set 6 (.parts 25 [.val i64T m,.val i64T k,.own 7])).set 7 (.row 55 partT ((PL.take i).map (prPart l)))) (fun (i:Nat)=>i≤PL.length) (fun (i:Nat)=>PL.length-i) (0) (Nat.zero_le _) ?_
        intro i hi2
        refine qaj ?_;refine Cf (p:=i<PL.length) (fun ht21=>?_) (fun ht21=>?_)
        ·
         obtain ⟨x,hx⟩:∃x,PL[i]?=some x:=⟨_,List.getElem?_eq_getElem ht21⟩
         have hxb:=hpm x (List.mem_of_getElem? hx)
         obtain ⟨b,hb⟩:∃b,l[x.toNat]?=some b:=⟨_,List.getElem?_eq_getElem (by omega)⟩
         refine CSQBQR ?_;refine A0 (zde (i:=i) rfl rfl rfl rfl (by first|omega|rfl) zbm (by first|assumption|omega|(simp;omega))) ?_;refine A0 (zbF rfl rfl rfl rfl (by assumption) (Lens.self _) ty_3) ?_;refine qac ?_;refine zE [some 1,some 1,some 1,some 1,some 1,some 1,some 1,some 1,some 1,some 1,some 1,some 1,some 1,some 1,some 1,some 1,some 1,some 1,some 1,some 1,some 1,none,some 1,none] mixed (by decide +kernel) ?_;refine X0 (oFp zax) ?_;refine X0 (zo rfl rfl rfl rfl rfl zcv) ?_;refine X0 mP ?_;refine X0 (g_nc rfl rfl) ?_;refine X0 (oFp fd_82_0) ?_
         refine X0 (zo rfl rfl rfl rfl rfl ty_22) ?_;refine X0 mV ?_;refine X0 (zu (i:=x.toNat) rfl rfl rfl (by omega) zc8 (by assumption)) ?_;refine X0 (oFr zaw zah) ?_;refine X0 (zg rfl rfl zav) ?_;refine X0 mP ?_;refine X0 (g_nc rfl rfl) ?_;refine X0 (oFp fd_82_0) ?_;refine X0 (zo rfl rfl rfl rfl rfl ty_22) ?_;refine X0 mV ?_;refine X0 (zu (i:=x.toNat) rfl rfl rfl (by omega) zc8 (by assumption)) ?_;refine X0 (oFr zbt zbc) ?_;refine X0 (zg rfl rfl zbI) ?_
         refine X0 (oCl (zp (cloneId b.l (by have:=(hl.2 b (List.mem_of_getElem? hb)).1;constructor<;>omega))) rfl fn_74 ⟨(by first|exact zB rfl|exact zZ rfl|exact zG rfl rfl|exact zX rfl|exact zx rfl|exact zag rfl rfl|exact zY rfl),trivial⟩) ?_;refine X0 (zC rfl ze_55 bd_55 (.cons zbL zb0 zav rfl (.cons zck zc5 zbI rfl .nil)) rfl) ?_;refine X0 (zt (T:=partT) (xs:=[_]) rfl za9 row_23 ⟨rfl,rfl,trivial⟩ rfl rfl) ?_
         refine XK.e (fun fr' hfr kk H=>by exact zD rfl rfl rfl rfl ((hfr 25 (by decide +kernel)).trans rfl) rfl ((hfr 44 (by decide +kernel)).trans rfl) row_23 (by simp;omega) (zK H)) ?_;refine X0 (oFp zax) ?_;refine XK.e (x:=.idk) (fun fr' hfr kk H=>by exact zaj rfl rfl rfl ((hfr 46 (by decide +kernel)).trans rfl) rfl rfl ((hfr 45 (by decide +kernel)).trans rfl) rfl rfl rfl zcv (zK H)) ?_;refine qaJ ?_;refine zaG 8 7 9 rfl rfl rfl rfl rfl rfl ?_
         refine zA (n:=7) (y:=(PL.take (i+1)).map (prPart l)) rfl (by rw [List.take_add_one,hx,List.map_append];simp [prPart,hb]) ?_
         exact Nx (i+1) (by omega) (by omega)
        ·
         refine CE ?_;refine CQ ?_;refine zA (n:=7) (y:=PL.map (prPart l)) rfl (by rw [List.take_of_length_le (by omega)]) ?_;refine aw_joinb 6 7 [.val i64T m,.val i64T k] (z:=(⟨m,k,PL.map (prPart l)⟩:Proof)) (R:=proofT) rfl rfl rfl join_proof ?_;refine CR ?_;refine A0 (oLs rfl rfl rfl zaH) ?_;refine qah ?_;refine CN ?_;refine zdo rfl rfl rfl zaH ?_;refine qah ?_;refine qac ?_
         exact zz rfl rfl (zF rfl rfl zaH (by unfold prOf;rw [if_pos (by unfold prE;rw [if_neg (by omega),if_neg (by omega)]),hPL])) (zaf (za rfl (by unfold prE;rw [if_neg (by omega),if_neg (by omega)])))
set_option maxRecDepth 20000
def leadsB (l:List Ab.Id) (prev id:Ab.Id):Bool:=decide (prev=id)||l.any fun x=>decide (id=x)
def prevF (y z:Part) (last:Prop) [Decidable last] (d:Ab.Id):Int :=
  if y.h.height≤z.h.height∨¬y.h.bits=z.h.bits∨last∧(¬y.h.height=IntKind.i64.wrap (z.h.height+1)∨¬y.h.prev=d) then 5 else 0
def linkF (y:Part) (c d:Ab.Id):Int :=
  if y.l.length=0∨32<y.l.length∨¬y.l.getD 0 zId=c∨leadsB y.l y.h.prev d=false∨¬linkRoot y.l=y.h.links then 6 else 0
def workF (y:Part):Int:=if ¬headMay y.h=true then 4 else 0
def zPartD:Part:=⟨zHead,[]⟩
def dOf (x:CTrial):Ab.Id:=x.ids.getD (x.at_.toNat-1) zId
def three:List (Option Nat):=[some 68,some 69,some 70]
def fewPr (p:Proof):Bool:=p.p.all (fun x=>decide (x.l.length≤40))&&decide (p.p.length≤110)
theorem fewPr_ok (p:Proof):Tells P 13 [.val proofT p] (.val boolT (fewPr p)):=by
 refine zc Tryz.func13 rfl rfl rfl (fun ext w hext=>?_)
 refine qaf ?_;refine qbu ?_;refine Lp (ι:=Nat) 1 (fun (k:Nat)=>((Fr.none).set 1 (.ptr 0 0)).set 3 (.val i64T (k:Int))) (fun (k:Nat)=>(Hp.none).set 0 (.box 25 proofT p)) (fun (k:Nat)=>k≤p.p.length∧(p.p.take k).all (fun x=>decide (x.l.length≤40))=true) (fun (k:Nat)=>p.p.length-k) (0) (⟨Nat.zero_le _,rfl⟩) ?_
 intro k hinv
 refine qbb ?_;refine A0 (oFp zax) ?_;refine A0 (oLb zaB zcv) ?_;refine ze (d:=6) rfl zk (fun hsl6=>?_)
 refine A0 (zR rfl rfl zdF) ?_;refine qaG ?_;refine Cf (p:=k<p.p.length) (fun ht8=>?_) (fun ht8=>?_)
 ·
  obtain ⟨x,hx⟩:∃x,p.p[k]?=some x:=⟨_,List.getElem?_eq_getElem ht8⟩
  refine CSQBQR ?_;refine A0 (oFp zax) ?_;refine A0 (oLb zaB zcv) ?_;refine qaw ?_;refine A0 (za0 rfl rfl rfl za9 (by assumption)) ?_;refine A0 (oFr zck zc5) ?_;refine A0 (zg rfl rfl zbI) ?_;refine A0 (by first|exact zR rfl rfl zba|exact zan rfl rfl rfl zba|exact zaz rfl rfl zba) ?_;refine A0 zaI ?_;refine CN ?_;refine Cf (p:=40<x.l.length) (fun ht18=>?_) (fun ht18=>?_)
  ·
   refine qa5 ?_
   exact zb rfl rfl (za rfl ((by symm;unfold fewPr;rw [Bool.and_eq_false_iff];left;rw [List.all_eq_false];exact ⟨x,List.mem_of_getElem? hx,by simp;omega⟩)))
  ·
   refine qas ?_
   exact Nx (k+1) (⟨by omega,by rw [List.take_add_one,hx,List.all_append,hinv.2];simp;omega⟩) (by omega)
 ·
  refine CE ?_;refine CQR ?_;refine qaF ?_;refine A0 zcN ?_;refine qac ?_
  exact zb rfl rfl (za rfl ((by have h:=hinv.2;rw [List.take_of_length_le (by omega)] at h;unfold fewPr;rw [h,Bool.true_and,decide_eq_decide];simp only [IntL.toI,id_eq];omega)))
set_option maxRecDepth 20000
theorem fewC_no {l:List Block} {k:Nat} {x:Block} (hx:l[k]?=some x) (h:¬fewB x=true):fewC l=false:=by
  unfold fewC
  rw [Bool.and_eq_false_iff]
  left
  rw [List.all_eq_false]
  exact ⟨x,List.mem_of_getElem? hx,h⟩
theorem fewB_all {x:Block} (h:¬(x.t.all few&&decide ((x.t.length:Int)≤6))=true):¬fewB x=true:=fun h2=>by unfold fewB at h2;rw [Bool.and_eq_true] at h2;exact h h2.1
theorem fewB_links {x:Block} (h:40<x.l.length):¬fewB x=true:=fun h2=>by unfold fewB at h2;rw [Bool.and_eq_true,decide_eq_true_eq] at h2;omega
theorem fewB_yes {x:Block} (h:(x.t.all few&&decide ((x.t.length:Int)≤6))=true) (h2:¬40<x.l.length):fewB x=true:=by unfold fewB;rw [h,Bool.true_and];exact decide_eq_true (by omega)
theorem all_take_succ {α:Type} {p:α→Bool} {l:List α} {k:Nat} {x:α} (h:(l.take k).all p=true) (hx:l[k]?=some x) (hp:p x=true):(l.take (k+1)).all p=true:=by
  rw [List.take_add_one,hx,List.all_append,h];simp [hp]
theorem fewC_end {l:List Block} {k:Nat} (h:(l.take k).all fewB=true) (hk:l.length≤k):fewC l=decide ((l.length:Int)≤50):=by
  rw [List.take_of_length_le hk] at h
  unfold fewC;rw [h,Bool.true_and]
theorem easy_newOf:newOf 545259519=[easyB0]:=by unfold newOf;rw [if_pos easy_ok,easy_tip];rfl
theorem fewC_ok (l:List Block):Tells P 12 [.val (bsl blockT) l] (.val boolT (fewC l)):=by
 refine zc Tryz.func12 rfl rfl rfl (fun ext w hext=>?_)
 refine ze (d:=0) rfl zk (fun hsl0=>?_)
 refine CQR ?_;refine qbu ?_;refine Lp (ι:=Nat) 0 (fun (k:Nat)=>((Fr.none).set 0 (.val (bsl blockT) l)).set 3 (.val i64T (k:Int))) (fun (k:Nat)=>Hp.none) (fun (k:Nat)=>k≤l.length∧(l.take k).all fewB=true) (fun (k:Nat)=>l.length-k) (0) (⟨Nat.zero_le _,by simp⟩) ?_
 intro k hinv
 refine CQQR ?_;refine qak ?_;refine A0 (zR rfl rfl zcQ) ?_;refine qaG ?_;refine Cf (p:=k<l.length) (fun ht8=>?_) (fun ht8=>?_)
 ·
  obtain ⟨x,hx⟩:∃x,l[k]?=some x:=⟨_,List.getElem?_eq_getElem ht8⟩
  refine CSQBQR ?_;refine qak ?_;refine A0 (zu (i:=k) rfl rfl rfl (by omega) zc8 (by assumption)) ?_;refine A0 (oFr zb4 zbS) ?_;refine A0 (zg rfl rfl ty_56) ?_;refine A0 (oCl (fewAll_ok _ _) rfl fn_30 ⟨(by first|exact zB rfl|exact zZ rfl|exact zG rfl rfl|exact zX rfl|exact zx rfl|exact zag rfl rfl|exact zY rfl),(zd rfl),trivial⟩) ?_;refine qad ?_;refine A0 oN ?_;refine qaw ?_
  refine zL (d:=19) (p:=¬(x.t.all few&&decide ((x.t.length:Int)≤6))=true) rfl (by cases (x.t.all few&&decide ((x.t.length:Int)≤6))<;>rfl) (fun g19=>?_) (fun g19=>?_)
  ·
   refine qab ?_;refine qab ?_;refine A2 ?_;refine qat ?_;refine Ct ?_;refine qa5 ?_
   exact zb rfl rfl (za rfl (fewC_no hx (fewB_all g19)).symm)
  ·
   refine qaH ?_;refine A1 (zu (i:=k) rfl rfl rfl (by omega) zc8 (by assumption)) ?_;refine A1 (oFr zbt zbc) ?_;refine A1 (zg rfl rfl zbI) ?_;refine A1 (by first|exact zR rfl rfl zba|exact zan rfl rfl rfl zba|exact zaz rfl rfl zba) ?_;refine A1 zaI ?_;refine qat ?_;refine Cf (p:=40<x.l.length) (fun ht27=>?_) (fun ht27=>?_)
   ·
    refine qa5 ?_
    exact zb rfl rfl (za rfl (fewC_no hx (fewB_links ht27)).symm)
   ·
    refine qas ?_
    exact Nx (k+1) (⟨by omega,all_take_succ hinv.2 hx (fewB_yes (Classical.not_not.1 g19) ht27)⟩) (by omega)
 ·
  refine CE ?_;refine qa1 ?_;refine A0 (zR rfl rfl zcQ) ?_;refine A0 zcN ?_;refine qac ?_
  exact zb rfl rfl (za rfl (by rw [fewC_end hinv.2 (by omega),decide_eq_decide];rfl))
set_option maxRecDepth 20000
def easyP:Proof:=⟨1,1,[⟨easyH,[]⟩,⟨easyB.h,[id0]⟩]⟩
theorem climb_easy (y:Int):∀i:Nat,i≤32→climbS [31,y] 1 1 i=(0,if i=0 then [] else [0])
  | 0,_=>rfl
  | i+1,h=>by
    have ih:=climb_easy y i (by omega)
    have hu:upOf [31,y] 0 ((([31,y]:List Int).length:Int)-1) (31-(i:Int))=[0]:=by
      show upR [31,y] (31-(i:Int)) 0 (0+1)=[0]
      rw [upR_yes (v:=[31,y]) (n:=31-(i:Int)) (x:=31) (a:=0) (i:=0) rfl (Nat.le_refl _) (by omega),upR_same];rfl
    have e1:(climbS [31,y] 1 1 i).1=0:=by rw [ih]
    have e2:(climbS [31,y] 1 1 i).2=if i=0 then [] else [0]:=by rw [ih]
    show (if _ then _ else _,_)=_
    have h0:(if i+1=0 then ([]:List Int) else [0])=[0]:=if_neg (by omega)
    rw [e1,e2,hu,h0,if_neg (by decide)]
    by_cases c:i=0<;>simp [c,setAdd]
theorem easy_lvs:levelsOf [easyB0,easyB]=[31,headLevel easyB.h]:=by
  show [headLevel easyH,headLevel easyB.h]=_
  rw [easy_level]
theorem easy_le1:decide (headLevel easyB.h≤31)=true:=by kernel_rfl
theorem easy_mayP:mayP [31,headLevel easyB.h] 1 1=true:=by
  have h1:=of_decide_eq_true easy_level1
  have h2:=of_decide_eq_true easy_le1
  unfold mayP mayV
  generalize headLevel easyB.h=y at h1 h2
  simp
  omega
theorem easy_prefix:prefixOf (levelsOf [easyB0,easyB]) 1 1=([0],true):=by
  unfold prefixOf
  rw [easy_lvs,if_pos easy_mayP,climb_easy _ 32 (Nat.le_refl _),if_neg (by decide)]
  simp [sortInts]
theorem easy_prE:prE [easyB0,easyB] 1 1=0:=by
  unfold prE
  rw [easy_chain1,if_neg (by decide),if_neg (by decide)]
theorem easy_pr:prOf [easyB0,easyB] 1 1=easyP:=by
  unfold prOf
  rw [if_pos easy_prE]
  unfold placesOf
  rw [easy_prefix]
  rfl
def yAt (p:Proof) (i:Nat):Part:=p.p.getD i zPartD
def stepOk (p:Proof) (i:Nat):Prop :=
  prevF (yAt p i) (yAt p (i-1)) ((p.p.length:Int)-p.k≤(i:Int)) (headId (yAt p (i-1)).h)=0∧linkF (yAt p i) (headId (yAt p 0).h) (headId (yAt p (i-1)).h)=0∧workF (yAt p i)=0
def beginOk (a:Part):Prop:=tgtOk a.h.bits=true∧a.l.length=0∧a.h=(firstTip a.h.bits).b.h
structure HoldsP (p:Proof):Prop where
  m1:1≤p.m
  m2:p.m≤20
  k1:1≤p.k
  k2:p.k≤20
  l1:p.k<p.p.length
  l2:p.p.length≤100
  fst:beginOk (yAt p 0)
  steps:∀i,1≤i→i<p.p.length→stepOk p i
theorem prevF_zero {y z:Part} {last:Prop} [Decidable last] {d:Ab.Id}:prevF y z last d=0↔z.h.height<y.h.height∧y.h.bits=z.h.bits∧(last→y.h.height=IntKind.i64.wrap (z.h.height+1)∧y.h.prev=d):=by
  unfold prevF
  constructor
  · intro h
    have hn:¬(y.h.height≤z.h.height∨¬y.h.bits=z.h.bits∨last∧(¬y.h.height=IntKind.i64.wrap (z.h.height+1)∨¬y.h.prev=d)):=fun c=>by rw [if_pos c] at h;cases h
    refine ⟨Int.not_le.1 fun c=>hn (.inl c),Classical.not_not.1 fun c=>hn (.inr (.inl c)),fun hl=>⟨Classical.not_not.1 fun c=>hn (.inr (.inr ⟨hl,.inl c⟩)),Classical.not_not.1 fun c=>hn (.inr (.inr ⟨hl,.inr c⟩))⟩⟩
  · rintro ⟨h1,h2,h3⟩
    rw [if_neg]
    rintro (c|c|⟨hl,c|c⟩)
    · omega
    · exact c h2
    · exact c (h3 hl).1
    · exact c (h3 hl).2
theorem at_ (p:Proof) {i:Nat} (h:i<p.p.length):p.p[i]?=some (yAt p i):=by unfold yAt;rw [List.getElem?_eq_getElem h];simp [h]
theorem HoldsP.step {p : Proof} (h : HoldsP p) {i : Nat} (h1 : 1 ≤ i) (h2 : i < p.p.length) :
    (yAt p (i-1)).h.height<(yAt p i).h.height∧(yAt p i).h.bits=(yAt p (i-1)).h.bits∧((p.p.length:Int)-p.k≤(i:Int)→(yAt p i).h.height=IntKind.i64.wrap ((yAt p (i-1)).h.height+1)∧(yAt p i).h.prev=headId (yAt p (i-1)).h):=prevF_zero.1 (h.steps i h1 h2).1
theorem first_height (bits:UInt32):(firstTip bits).b.h.height=0:=by
  unfold firstTip
  split<;>rfl
theorem HoldsP.zero {p:Proof} (h:HoldsP p):(yAt p 0).h.height=0:=by rw [h.fst.2.2];exact first_height _
theorem HoldsP.bits {p:Proof} (h:HoldsP p):∀i,i<p.p.length→(yAt p i).h.bits=(yAt p 0).h.bits
  | 0,_=>rfl
  | i+1,hi=>by
    have:=(h.step (i:=i+1) (by omega) hi).2.1
    rw [Nat.add_sub_cancel] at this
    rw [this];exact h.bits i (by omega)
theorem two_ok:Tells P 29 [] (.val (sl blockT) [easyB0,easyB]):=by
 refine zc Tryz.func29 rfl rfl rfl (fun ext w hext=>?_)
 refine qaX ?_;refine A0 (oCl (newC_ok 545259519) rfl fn_71 ⟨(zd rfl),trivial⟩) ?_;refine A0 mX ?_;refine A0 (by first|exact zN rfl rfl|exact zM rfl rfl) ?_;refine zi (d:=7) (y:=[easyB0]) rfl easy_newOf ?_;refine A0 (by first|exact zQ rfl rfl|exact zP rfl rfl) ?_;refine qbw ?_;refine A0 (oCl (zbT (growC_ok [easyB0] [] 0 small_easyC0 ⟨by decide,fun t ht=>by cases ht⟩)) rfl fn_72 ⟨(zd rfl),(by first|exact zB rfl|exact zZ rfl|exact zG rfl rfl|exact zX rfl|exact zx rfl|exact zag rfl rfl|exact zY rfl),(zd rfl),trivial⟩) ?_
 refine A0 mX ?_;refine A0 (by first|exact zN rfl rfl|exact zM rfl rfl) ?_;refine zi (d:=12) (y:=[easyB0,easyB]) rfl easy_grown ?_;refine A0 (by first|exact zQ rfl rfl|exact zP rfl rfl) ?_;refine qbw ?_;refine qac ?_
 exact zb rfl rfl (za rfl (rfl))
set_option maxRecDepth 20000
theorem mayH_ok {h:Head} (hm:headMay h=true):hOk h=true:=by
  unfold headMay headLevel at hm
  by_cases c:tgtOk h.bits=true∧hOk h=true
  · exact c.2
  · rw [if_neg c] at hm;exact absurd hm (by decide)
theorem zff {l:List Block} {t:Tip} {k:Nat} {c:Block} (h:Chain l t) (hc:l[k]?=some c):c.h.height=k∧hOk c.h=true∧(k=0→c.l=[])∧(1≤k→c.h.links=linkRoot c.l):=by
  obtain ⟨hk,_⟩:=List.getElem?_eq_some_iff.1 hc
  by_cases k0:k=0
  · subst k0
    obtain ⟨t',h1,_⟩:=chain_take h (i:=1) (Nat.le_refl _) (by omega)
    have e:l.take 1=[c]:=by rw [show (1:Nat)=0+1 from rfl,List.take_add_one,hc];rfl
    rw [e] at h1
    obtain ⟨_,hb,_⟩:=chain_one h1
    rw [hb]
    exact ⟨rfl,rfl,fun _=>rfl,fun c=>by omega⟩
  · obtain ⟨g,hg⟩:∃g,l[0]?=some g:=⟨_,List.getElem?_eq_getElem (by omega)⟩
    obtain ⟨a,ha⟩:∃a,l[k-1]?=some a:=⟨_,List.getElem?_eq_getElem (by omega)⟩
    obtain ⟨s1,_,_,_,_,_,s7,s8⟩:=chain_stands h (by omega) hc ha hg
    exact ⟨s1,mayH_ok s8,fun c=>absurd c k0,fun _=>s7⟩
set_option maxRecDepth 20000
theorem byte_nat (n:UInt64) {k:Nat} (hk:k≤64):(u8OfI (IntL.toI u64T (shr64 n k))).toNat=n.toNat/2^k%256:=by
  unfold u8OfI
  show (UInt8.ofNat ((((shr64 n k).toNat:Nat):Int)%256).toNat).toNat=_
  rw [zd0 n hk,UInt8.toNat_ofNat_of_lt' (by show _<256;omega)]
  omega
theorem numBytes_succ (n:UInt64) (s:Nat):numBytes n (s+1)=u8OfI (IntL.toI u64T (shr64 n (8*s)))::numBytes n s:=by
  unfold numBytes
  rw [List.range_succ_eq_map,List.map_cons,List.map_map]
  have e1:s+1-1-0=s:=by omega
  rw [e1]
  congr 1
  apply List.map_congr_left
  intro j _
  show u8OfI (IntL.toI u64T (shr64 n (8*(s+1-1-(j+1)))))=_
  rw [show s+1-1-(j+1)=s-1-j by omega]
theorem numBytes_inj {n m:UInt64}:∀s:Nat,s≤8→numBytes n s=numBytes m s→n.toNat%2^(8*s)=m.toNat%2^(8*s)
  | 0,_,_=>by simp [Nat.mod_one]
  | s+1,hs,h=>by
    rw [numBytes_succ,numBytes_succ] at h
    injection h with h1 h2
    have ih:=numBytes_inj s (by omega) h2
    have h1:=congrArg UInt8.toNat h1
    rw [byte_nat n (by omega),byte_nat m (by omega)] at h1
    rw [Nat.mul_add,Nat.pow_add,Nat.mod_mul,Nat.mod_mul (x:=m.toNat),ih,show 2^(8*1)=256 from rfl,h1]
theorem zem {n m:UInt64} (h:numBytes n 8=numBytes m 8):n=m:=by
  have h1:=numBytes_inj 8 (Nat.le_refl _) h
  have hn:n.toNat<18446744073709551616:=n.toNat_lt
  have hm:m.toNat<18446744073709551616:=m.toNat_lt
  rw [show (2:Nat)^(8*8)=18446744073709551616 from rfl,Nat.mod_eq_of_lt hn,Nat.mod_eq_of_lt hm] at h1
  exact UInt64.toNat_inj.1 h1
theorem bytesW_four (a b c d:UInt64):bytesW [a,b,c,d]=numBytes d 8++(numBytes c 8++(numBytes b 8++numBytes a 8)):=by rfl
theorem bytesW_inj {a b:Wide} (ha:a.length=4) (hb:b.length=4) (h:bytesW a=bytesW b):a=b:=by
  match a,ha with
  | [a0,a1,a2,a3],_=>match b,hb with
    | [b0,b1,b2,b3],_ =>
      rw [bytesW_four,bytesW_four] at h
      obtain ⟨h3,h⟩:=List.append_inj h (by rw [zH,zH])
      obtain ⟨h2,h⟩:=List.append_inj h (by rw [zH,zH])
      obtain ⟨h1,h0⟩:=List.append_inj h (by rw [zH,zH])
      rw [zem h0,zem h1,zem h2,zem h3]
def HW (h:Head):Prop:=h.prev.length=32∧h.links.length=32∧h.txs.length=32∧h.past.length=32∧h.work.length=4
theorem zcS {n:Int} (h0:0≤n) (h1:n<4294967296):(u64OfI n).toNat=n.toNat:=by
  unfold u64OfI
  rw [UInt64.toNat_ofNat_of_lt' (by show _<18446744073709551616;omega)]
  omega
theorem hOk_iff {h:Head}:hOk h=true↔0≤h.height∧h.height≤1048576:=by unfold hOk;rw [decide_eq_true_eq]
set_option maxRecDepth 20000
theorem level_range (h:Head):-1≤headLevel h∧headLevel h≤31:=by
  unfold headLevel
  split
  · split
    · exact ⟨by omega,by omega⟩
    · have:=search_le (f:=levelF (of32W (headId h)) (tgtW h.bits)) 0 32 (by decide)
      unfold levelW
      exact ⟨by omega,by omega⟩
  · exact ⟨by omega,by omega⟩
theorem mayH_level {h:Head} (hm:headMay h=true):0≤headLevel h:=by
  have:=(level_range h).1
  unfold headMay at hm
  rw [Bool.not_eq_true',decide_eq_false_iff_not] at hm
  omega
theorem lvl_at {l:List Block} {k:Nat} {b:Block} (hb:l[k]?=some b):(levelsOf l)[k]?=some (headLevel b.h):=by unfold levelsOf;rw [List.getElem?_map,hb];rfl
theorem chain_level {l:List Block} {t:Tip} {k:Nat} {b:Block} (h:Chain l t) (hb:l[k]?=some b):0≤headLevel b.h∧(k=0→headLevel b.h=31):=by
  obtain ⟨hk,_⟩:=List.getElem?_eq_some_iff.1 hb
  by_cases k0:k=0
  · subst k0
    obtain ⟨t',h1,_⟩:=chain_take h (i:=1) (Nat.le_refl _) (by omega)
    have e:l.take 1=[b]:=by rw [show (1:Nat)=0+1 from rfl,List.take_add_one,hb];rfl
    rw [e] at h1
    obtain ⟨ht,hb,_⟩:=chain_one h1
    have e2:headLevel b.h=31:=by
      rw [hb]
      unfold headLevel
      rw [if_pos ⟨ht,rfl⟩];rfl
    exact ⟨by omega,fun _=>e2⟩
  · obtain ⟨g,hg⟩:∃g,l[0]?=some g:=⟨_,List.getElem?_eq_getElem (by omega)⟩
    obtain ⟨a,ha⟩:∃a,l[k-1]?=some a:=⟨_,List.getElem?_eq_getElem (by omega)⟩
    exact ⟨mayH_level (chain_stands h (by omega) hb ha hg).2.2.2.2.2.2.2,fun c=>absurd c k0⟩
theorem chain_mayV {l:List Block} {t:Tip} (h:Chain l t):mayV (levelsOf l)=true:=by
  have hlen:=(chain_tip h).2.2.1
  have hpos:0<l.length:=List.length_pos_iff.2 (chain_ne (congrArg (·.2) h))
  obtain ⟨g,hg⟩:∃g,l[0]?=some g:=⟨_,List.getElem?_eq_getElem hpos⟩
  have hl:(levelsOf l).length=l.length:=zbs l
  unfold mayV
  rw [Bool.and_eq_true,decide_eq_true_eq,Bool.not_eq_true',List.any_eq_false]
  refine ⟨⟨by omega,by omega,?_⟩,fun n hn=>?_⟩
  · rw [lvl_at hg,(chain_level h hg).2 rfl]
  · unfold levelsOf at hn
    obtain ⟨b,hb,rfl⟩:=List.mem_map.1 hn
    obtain ⟨k,hk⟩:=List.getElem?_of_mem hb
    have h1:=(chain_level h hk).1
    have h2:=(level_range b.h).2
    rw [decide_eq_true_eq];omega
theorem climb_low {v:List Int} {m k:Int} (h:mayP v m k=true):∀i:Nat,i≤32→∀n,n≤i→(climbS v m k n).1≤(climbS v m k i).1
  | 0,_,n,hn=>by rw [show n=0 by omega];exact Int.le_refl _
  | i+1,hi,n,hn=>by
    by_cases e:n=i+1
    · rw [e];exact Int.le_refl _
    · refine Int.le_trans (climb_low h i (by omega) n (by omega)) ?_
      obtain ⟨L,hL⟩:∃L,L=upOf v (climbS v m k i).1 ((v.length:Int)-k) (31-(i:Int)):=⟨_,rfl⟩
      have hl:=zcz h
      by_cases c:m<L.length
      · obtain ⟨z,hz⟩:∃z,L[L.length-m.toNat]?=some z:=⟨_,List.getElem?_eq_getElem (by omega)⟩
        rw [←zb9 hL hz c]
        have hm:=List.mem_of_getElem? hz
        rw [hL] at hm
        obtain ⟨j,rfl,h4,_⟩:=zeH.1 hm
        exact h4
      · rw [←zbY hL c];exact Int.le_refl _
theorem climb_grow {v:List Int} {m k:Int}:∀i:Nat,∀n,n≤i→∀x∈(climbS v m k n).2,x∈(climbS v m k i).2
  | 0,n,hn,x,hx=>by rw [show n=0 by omega] at hx;exact hx
  | i+1,n,hn,x,hx=>by
    by_cases e:n=i+1
    · rw [e] at hx;exact hx
    · have:=climb_grow i n (by omega) x hx
      show x∈List.foldl setAdd _ _
      rw [zcV];exact .inl this
theorem climb_zero {v:List Int} {m k:Int} (h:mayP v m k=true):(0:Int)∈(climbS v m k 32).2:=by
  refine climb_grow 32 1 (by omega) 0 ?_
  show (0:Int)∈List.foldl setAdd _ _
  rw [zcV]
  refine .inr (zeH.2 ⟨0,rfl,Int.le_refl _,?_,?_,?_⟩)
  · have:=zcz h;omega
  · have:=zcz h;omega
  · have h0:=(mayV_spec (zc9 h).1).2.2.1
    simp [h0]
theorem upR_rising (v:List Int) (n:Int) (a i:Nat):(upR v n a i).Pairwise (· < ·):=by
  unfold upR
  rw [List.pairwise_map]
  refine List.Pairwise.imp (R:=fun a b:Nat=>a<b) (fun h=>by omega) ?_
  exact (List.pairwise_lt_range' ..).sublist List.filter_sublist
theorem up_rising (v:List Int) (a b n:Int):(upOf v a b n).Pairwise (· < ·):=upR_rising ..
theorem sort_strict {l:List Int} (h:l.Nodup):(sortInts l).Pairwise (· < ·):=by
  have h1:=zeZ l
  have h2:(sortInts l).Nodup:=(List.mergeSort_perm l _).symm.nodup h
  exact (h1.and h2).imp fun h=>by have:=h.1;have:=h.2;omega
theorem prefix_strict (v:List Int) (m k:Int):(prefixOf v m k).1.Pairwise (· < ·):=by
  unfold prefixOf
  split
  · rename_i c;exact sort_strict (climb_ok c 32 (Nat.le_refl _)).2.1
  · exact List.Pairwise.nil
theorem prefix_zero {v:List Int} {m k:Int} (h:mayP v m k=true):(0:Int)∈(prefixOf v m k).1:=by
  unfold prefixOf
  rw [if_pos h]
  exact sort_mem.2 (climb_zero h)
theorem zbq {L M:List Int} (hL:L.Pairwise (· < ·)) (hM:M.Pairwise (· < ·)) (hsub:∀x∈M,x∈L):M.length≤L.length:=by
  induction L generalizing M with
  | nil =>
    match M with
    | []=>exact Nat.le_refl _
    | x::_=>exact absurd (hsub x (List.mem_cons_self ..)) (by simp)
  | cons a L ih =>
    rw [List.pairwise_cons] at hL
    have hf:(M.filter fun x=>decide (x≠a)).length≤L.length:=ih hL.2 (hM.sublist List.filter_sublist) (fun x hx=>by
      rw [List.mem_filter] at hx
      have h1:=hsub x hx.1
      have h2:=of_decide_eq_true hx.2
      exact (List.mem_cons.1 h1).resolve_left h2)
    have h1:(M.filter fun x=>!decide (x≠a)).length≤1:=by
      have hs:=hM.sublist (List.filter_sublist (p:=fun x=>!decide (x≠a)))
      match he:M.filter (fun x=>!decide (x≠a)) with
      | []=>simp
      | [_]=>simp
      | b::c::r =>
        rw [he,List.pairwise_cons] at hs
        have hb:b∈M.filter (fun x=>!decide (x≠a)):=by rw [he];simp
        have hc:c∈M.filter (fun x=>!decide (x≠a)):=by rw [he];simp
        simp only [List.mem_filter,Bool.not_eq_true',decide_eq_false_iff_not,Decidable.not_not] at hb hc
        have:=hs.1 c (by simp)
        omega
    have:=filter_two (fun x=>decide (x≠a)) M
    rw [List.length_cons];omega
theorem zcw {L:List Int} (hL:L.Pairwise (· < ·)) {i j:Nat} {x y:Int} (hi:L[i]?=some x) (hj:L[j]?=some y):x<y↔i<j:=by
  obtain ⟨h1,e1⟩:=List.getElem?_eq_some_iff.1 hi
  obtain ⟨h2,e2⟩:=List.getElem?_eq_some_iff.1 hj
  have hp:=List.pairwise_iff_getElem.1 hL
  constructor
  · intro h
    rcases Nat.lt_trichotomy i j with c|c|c
    · exact c
    · subst c;omega
    · have:=hp j i h2 h1 c;omega
  · intro h
    have:=hp i j h1 h2 h;omega
theorem climb_anti {v:List Int} {m n k:Int} (hm:mayP v m k=true) (hmn:m<n):∀i:Nat,i≤32→(climbS v n k i).1≤(climbS v m k i).1
  | 0,_=>Int.le_refl _
  | i+1,hi=>by
    have hn:mayP v n k=true:=by
      have h:=zc9 hm
      unfold mayP
      rw [h.1,decide_eq_true (by omega)];rfl
    have ih:=climb_anti hm hmn i (by omega)
    have hl:=zcz hm
    obtain ⟨L,hL⟩:∃L,L=upOf v (climbS v m k i).1 ((v.length:Int)-k) (31-(i:Int)):=⟨_,rfl⟩
    obtain ⟨M,hM⟩:∃M,M=upOf v (climbS v n k i).1 ((v.length:Int)-k) (31-(i:Int)):=⟨_,rfl⟩
    have hsub:∀x∈L,x∈M:=fun x hx=>by
      rw [hL] at hx
      obtain ⟨j,rfl,h1,h2,h3,h4⟩:=zeH.1 hx
      rw [hM];exact zeH.2 ⟨j,rfl,by omega,h2,h3,h4⟩
    have hLr:L.Pairwise (· < ·):=by rw [hL];exact up_rising ..
    have hMr:M.Pairwise (· < ·):=by rw [hM];exact up_rising ..
    have hle:=zbq hMr hLr hsub
    by_cases c:n<M.length
    · obtain ⟨z,hz⟩:∃z,M[M.length-n.toNat]?=some z:=⟨_,List.getElem?_eq_getElem (by omega)⟩
      rw [←zb9 hM hz c]
      by_cases d:m<L.length
      · obtain ⟨y,hy⟩:∃y,L[L.length-m.toNat]?=some y:=⟨_,List.getElem?_eq_getElem (by omega)⟩
        rw [←zb9 hL hy d]
        refine Int.not_lt.1 fun hlt=>?_
        have hyl:=List.mem_of_getElem? hy
        have hall:∀x∈M.drop (M.length-n.toNat),x∈L.drop (L.length-m.toNat+1):=fun x hx=>by
          obtain ⟨q,hq⟩:=List.getElem?_of_mem hx
          rw [List.getElem?_drop] at hq
          have hzx:z≤x:=by
            by_cases q0:q=0
            · subst q0;rw [Nat.add_zero,hz] at hq;injection hq with hq;omega
            · exact Int.le_of_lt ((zcw hMr hz hq).2 (by omega))
          have hxM:=List.mem_of_getElem? hq
          rw [hM] at hxM
          obtain ⟨j,rfl,h1,h2,h3,h4⟩:=zeH.1 hxM
          have hyl2:=hyl
          rw [hL] at hyl2
          obtain ⟨j2,h0,h5,_⟩:=zeH.1 hyl2
          have hxL:(j:Int)∈L:=by rw [hL];exact zeH.2 ⟨j,rfl,by omega,h2,h3,h4⟩
          obtain ⟨r,hr⟩:=List.getElem?_of_mem hxL
          have h6:=(zcw hLr hy hr).1 (by omega)
          exact List.mem_of_getElem? (i:=r-(L.length-m.toNat+1)) (by rw [List.getElem?_drop,show L.length-m.toNat+1+(r-(L.length-m.toNat+1))=r by omega];exact hr)
        have:=zbq (hLr.sublist (List.drop_sublist (L.length-m.toNat+1) L)) (hMr.sublist (List.drop_sublist (M.length-n.toNat) M)) hall
        rw [List.length_drop,List.length_drop] at this
        omega
      · rw [←zbY hL d]
        refine Int.not_lt.1 fun hlt=>?_
        have hall:∀x∈M.drop (M.length-n.toNat),x∈L:=fun x hx=>by
          obtain ⟨q,hq⟩:=List.getElem?_of_mem hx
          rw [List.getElem?_drop] at hq
          have hzx:z≤x:=by
            by_cases q0:q=0
            · subst q0;rw [Nat.add_zero,hz] at hq;injection hq with hq;omega
            · exact Int.le_of_lt ((zcw hMr hz hq).2 (by omega))
          have hxM:=List.mem_of_getElem? hq
          rw [hM] at hxM
          obtain ⟨j,rfl,h1,h2,h3,h4⟩:=zeH.1 hxM
          rw [hL];exact zeH.2 ⟨j,rfl,by omega,h2,h3,h4⟩
        have:=zbq hLr (hMr.sublist (List.drop_sublist (M.length-n.toNat) M)) hall
        rw [List.length_drop] at this
        omega
    · rw [←zbY hM c]
      exact Int.le_trans ih (climb_low hm (i+1) hi i (by omega))
theorem climb_more {v:List Int} {m n k:Int} (hm:mayP v m k=true) (hmn:m≤n):∀i:Nat,i≤32→∀x∈(climbS v m k i).2,x∈(climbS v n k i).2
  | 0,_,x,hx=>by cases hx
  | i+1,hi,x,hx=>by
    by_cases e:m=n
    · rw [←e];exact hx
    · have hx:x∈(upOf v (climbS v m k i).1 ((v.length:Int)-k) (31-(i:Int))).foldl setAdd (climbS v m k i).2:=hx
      show x∈List.foldl setAdd _ _
      rw [zcV] at hx ⊢
      refine hx.imp (climb_more hm hmn i (by omega) x) fun h=>?_
      obtain ⟨j,rfl,h1,h2,h3,h4⟩:=zeH.1 h
      have:=climb_anti hm (by omega:m<n) i (by omega)
      exact zeH.2 ⟨j,rfl,by omega,h2,h3,h4⟩
theorem mayP_more {v:List Int} {m n k:Int} (h:mayP v m k=true) (hmn:m≤n):mayP v n k=true:=by
  have h:=zc9 h
  unfold mayP
  rw [h.1,decide_eq_true (by omega)];rfl
theorem prefix_more {v:List Int} {m n k:Int} (h:mayP v m k=true) (hmn:m≤n):∀x∈(prefixOf v m k).1,x∈(prefixOf v n k).1:=fun x hx=>by
  unfold prefixOf at hx ⊢
  rw [if_pos h] at hx
  rw [if_pos (mayP_more h hmn)]
  exact sort_mem.2 (climb_more h hmn 32 (Nat.le_refl _) x (sort_mem.1 hx))
theorem climb_still {v:List Int} {m k:Int} (h:mayP v m k=true) (hm:(v.length:Int)-k≤m):∀i:Nat,i≤32→(climbS v m k i).1=0
  | 0,_=>rfl
  | i+1,hi=>by
    have ih:=climb_still h hm i (by omega)
    obtain ⟨L,hL⟩:∃L,L=upOf v (climbS v m k i).1 ((v.length:Int)-k) (31-(i:Int)):=⟨_,rfl⟩
    have hl:=zcz h
    have h1:L.length≤((v.length:Int)-k).toNat:=by
      rw [hL]
      unfold upOf
      exact Nat.le_trans (upR_length ..) (by omega)
    rw [←zbY hL (by omega)];exact ih
theorem prefix_all {v:List Int} {m k:Int} (h:mayP v m k=true) (hm:(v.length:Int)-k≤m) {j:Nat} (hj:(j:Int)<(v.length:Int)-k):(j:Int)∈(prefixOf v m k).1:=by
  unfold prefixOf
  rw [if_pos h]
  refine sort_mem.2 ?_
  show (j:Int)∈List.foldl setAdd _ _
  rw [zcV]
  refine .inr (zeH.2 ⟨j,rfl,?_,hj,?_,?_⟩)
  · rw [climb_still h hm 31 (by omega)];omega
  · have:=zcz h;omega
  · have hl:=zcz h
    have hjl:j<v.length:=by omega
    have:=((mayV_spec (zc9 h).1).2.2.2 _ (List.getElem_mem hjl)).1
    rw [List.getD_eq_getElem?_getD,List.getElem?_eq_getElem hjl]
    simpa using this
structure BuildOk (l:List Block) (m k:Int):Prop where
  c:(checkOf l).2=0
  m1:1≤m
  m2:m≤20
  k1:1≤k
  k2:k≤20
  kl:k<l.length
theorem zbZ {l:List Block} {m k:Int} (h:prE l m k=0):BuildOk l m k:=by
  unfold prE at h
  by_cases hc:(checkOf l).2=0
  · rw [if_neg (fun q=>q hc)] at h
    by_cases q:m<1∨20<m∨k<1∨20<k∨(l.length:Int)≤k
    · rw [if_pos q] at h;cases h
    · exact ⟨hc,by omega,by omega,by omega,by omega,by omega⟩
  · rw [if_pos hc] at h;exact absurd h hc
section
variable {l:List Block} {m k:Int}
theorem build_may (h:BuildOk l m k):mayP (levelsOf l) m k=true:=by
  have h1:=h.m1;have h2:=h.k1;have h3:=h.kl
  unfold mayP
  rw [chain_mayV (zfe h.c),decide_eq_true (by rw [zbs];omega)];rfl
theorem build_is {l:List Block} {m k:Int} (h:prE l m k=0):prOf l m k=⟨m,k,(placesOf l m k).map (prPart l)⟩:=by unfold prOf;rw [if_pos h]
theorem lastk_rising (l:List Block) (k:Int):((List.range k.toNat).map fun j:Nat=>(l.length:Int)-k+(j:Int)).Pairwise (· < ·):=by
  rw [List.pairwise_map]
  exact (List.pairwise_lt_range ..).imp fun h=>by omega
theorem zay (h:BuildOk l m k):(placesOf l m k).Pairwise (· < ·):=by
  have hl:=zbs l
  unfold placesOf
  rw [List.pairwise_append]
  refine ⟨prefix_strict ..,lastk_rising ..,fun a ha b hb=>?_⟩
  have h1:=(prefix_mem ha).2
  obtain ⟨j,_,rfl⟩:=List.mem_map.1 hb
  rw [hl] at h1
  omega
theorem places_at (h : BuildOk l m k) {i : Nat} {x : Int} (hx : (placesOf l m k)[i]? = some x) :
    (0≤x∧x<l.length)∧((i<(prefixOf (levelsOf l) m k).1.length∧(prefixOf (levelsOf l) m k).1[i]?=some x)∨((prefixOf (levelsOf l) m k).1.length≤i∧(l.length:Int)-k≤x)):=by
  refine ⟨zbV ⟨h.k1,h.kl⟩ (List.mem_of_getElem? hx),?_⟩
  unfold placesOf at hx
  by_cases c:i<(prefixOf (levelsOf l) m k).1.length
  · rw [List.getElem?_append_left c] at hx
    exact .inl ⟨c,hx⟩
  · rw [List.getElem?_append_right (by omega)] at hx
    obtain ⟨j,_,rfl⟩:=List.mem_map.1 (List.mem_of_getElem? hx)
    exact .inr ⟨by omega,by omega⟩
theorem places_len (h:BuildOk l m k):(placesOf l m k).length=(prefixOf (levelsOf l) m k).1.length+k.toNat:=by unfold placesOf;simp
theorem places_first (h:BuildOk l m k):(placesOf l m k)[0]?=some 0:=by
  have h0:=prefix_zero (build_may h)
  have hs:=prefix_strict (levelsOf l) m k
  unfold placesOf
  match hp:(prefixOf (levelsOf l) m k).1 with
  | []=>rw [hp] at h0;cases h0
  | a::r =>
    rw [hp] at h0 hs
    have ha:=(prefix_mem (v:=levelsOf l) (m:=m) (k:=k) (x:=a) (by rw [hp];exact List.mem_cons_self ..)).1
    rcases List.mem_cons.1 h0 with e|e
    · rw [←e];rfl
    · have:=(List.pairwise_cons.1 hs).1 0 e
      omega
theorem places_last (h:BuildOk l m k):(placesOf l m k)[(placesOf l m k).length-1]?=some ((l.length:Int)-1):=by
  have h1:=h.k1
  rw [places_len h]
  unfold placesOf
  rw [List.getElem?_append_right (by omega),List.getElem?_map,List.getElem?_range (by omega)]
  simp only [Option.map_some,Option.some.injEq]
  omega
theorem part_at (h : BuildOk l m k) {i : Nat} {x : Int} (hx : (placesOf l m k)[i]? = some x) :
    ∃b:Block,l[x.toNat]?=some b∧b.h.height=x∧((placesOf l m k).map (prPart l))[i]?=some ⟨b.h,b.l⟩:=by
  have hr:=(places_at h hx).1
  obtain ⟨b,hb⟩:∃b,l[x.toNat]?=some b:=⟨_,List.getElem?_eq_getElem (by omega)⟩
  refine ⟨b,hb,?_,?_⟩
  · have:=(zff (zfe h.c) hb).1
    omega
  · rw [List.getElem?_map,hx]
    have e:l.getD x.toNat default=b:=by rw [List.getD_eq_getElem?_getD,hb];rfl
    show some (prPart l x)=_
    unfold prPart
    rw [e]
theorem parts_more (h:BuildOk l m k) {n:Int} (hmn:m≤n) {x:Part} (hx:x∈(placesOf l m k).map (prPart l)):x∈(placesOf l n k).map (prPart l):=by
  obtain ⟨p,hp,rfl⟩:=List.mem_map.1 hx
  refine List.mem_map.2 ⟨p,?_,rfl⟩
  unfold placesOf at hp ⊢
  rcases List.mem_append.1 hp with c|c
  · exact List.mem_append.2 (.inl (prefix_more (build_may h) hmn p c))
  · exact List.mem_append.2 (.inr c)
theorem places_more (h:BuildOk l m k) {n:Int} (hmn:m≤n) (hn:BuildOk l n k):(placesOf l m k).length≤(placesOf l n k).length:=by
  refine zbq (zay hn) (zay h) fun x hx=>?_
  unfold placesOf at hx ⊢
  rcases List.mem_append.1 hx with c|c
  · exact List.mem_append.2 (.inl (prefix_more (build_may h) hmn x c))
  · exact List.mem_append.2 (.inr c)
theorem all_rising (n:Nat):((List.range n).map fun j:Nat=>(j:Int)).Pairwise (· < ·):=by
  rw [List.pairwise_map]
  exact (List.pairwise_lt_range ..).imp fun h=>by omega
theorem places_few (h:BuildOk l m k):(placesOf l m k).length≤l.length:=by
  have:=zbq (all_rising l.length) (zay h) (fun x hx=>by
    have:=zbV ⟨h.k1,h.kl⟩ hx
    exact List.mem_map.2 ⟨x.toNat,List.mem_range.2 (by omega),by omega⟩)
  simpa using this
theorem places_whole (h:BuildOk l m k) (hm:(l.length:Int)-k≤m):(placesOf l m k).length=l.length:=by
  have h1:=places_few h
  have h2:=zbq (zay h) (all_rising l.length) (fun x hx=>by
    obtain ⟨j,hj,rfl⟩:=List.mem_map.1 hx
    rw [List.mem_range] at hj
    unfold placesOf
    by_cases c:(j:Int)<(l.length:Int)-k
    · exact List.mem_append.2 (.inl (prefix_all (build_may h) (by rw [zbs];exact hm) (by rw [zbs];exact c)))
    · exact List.mem_append.2 (.inr (List.mem_map.2 ⟨(j-((l.length:Int)-k)).toNat,List.mem_range.2 (by have:=h.k1;have:=h.kl;omega),by omega⟩)))
  simp at h2
  omega
end
set_option maxRecDepth 20000
theorem snoc_indI {α:Type} {p:List α→Prop} (h0:p []) (h1:∀l x,p l→p (l++[x])):∀l,p l:=fun l=>by
  have:∀r:List α,p r.reverse:=fun r=>by
    induction r with
    | nil=>exact h0
    | cons x r ih=>rw [List.reverse_cons];exact h1 _ _ ih
  have:=this l.reverse
  rwa [List.reverse_reverse] at this
theorem i64_sub (x y:Int):decide (x<y)=decide (x-y<0):=by rw [decide_eq_decide];omega
def cstep (out:List Int) (x:Int):List Int:=if out.getLast?=some x then out else out++[x]
def compactL (l:List Int):List Int:=l.foldl cstep []
theorem zdh (l:List Int) (x:Int):compactL (l++[x])=cstep (compactL l) x:=by unfold compactL;rw [List.foldl_append];rfl
theorem compact_take {l:List Int} {k:Nat} {x:Int} (h:l[k]?=some x):compactL (l.take (k+1))=cstep (compactL (l.take k)) x:=by
  rw [List.take_add_one,h];exact zdh _ x
theorem compact_last:∀l:List Int,(compactL l).getLast?=l.getLast?:=fun l=>by
  refine snoc_indI (p:=fun l=>(compactL l).getLast?=l.getLast?) rfl (fun l x ih=>?_) l
  · show (compactL (l++[x])).getLast?=(l++[x]).getLast?
    rw [zdh]
    unfold cstep
    split
    · rename_i c;rw [c];simp
    · simp
theorem compact_len (l:List Int):(compactL l).length≤l.length:=by
  refine snoc_indI (p:=fun l=>(compactL l).length≤l.length) (Nat.le_refl _) (fun l x ih=>?_) l
  · show (compactL (l++[x])).length≤(l++[x]).length
    rw [zdh]
    unfold cstep
    split<;>simp<;>omega
theorem last_take {l:List Int} {k:Nat} {x:Int} (h:l[k]?=some x):(l.take (k+1)).getLast?=some x:=by
  rw [List.take_add_one,h];simp
theorem zdT {l:List Int} {k:Nat} {x y:Int} (hx:l[k]?=some x) (hy:l[k+1]?=some y):compactL (l.take (k+2))=if x=y then compactL (l.take (k+1)) else compactL (l.take (k+1))++[y]:=by
  rw [compact_take (k:=k+1) hy]
  unfold cstep
  rw [compact_last,last_take hx]
  simp only [Option.some.injEq]
def swpI {α:Type} [Inhabited α] (l:List α) (k:Nat):List α:=(List.range l.length).map fun j=>if j<k∨l.length-k≤j then l.getD (l.length-1-j) default else l.getD j default
theorem zeW {α:Type} [Inhabited α] {l:List α} {k:Nat}:(swpI l k).length=l.length:=by unfold swpI;simp
theorem swpI_at {α:Type} [Inhabited α] {l:List α} {k j:Nat} (h:j<l.length):(swpI l k)[j]?=some (if j<k∨l.length-k≤j then l.getD (l.length-1-j) default else l.getD j default):=by
  unfold swpI
  rw [List.getElem?_map,List.getElem?_range h];rfl
theorem swpI_zero {α:Type} [Inhabited α] {l:List α}:swpI l 0=l:=by
  apply List.ext_getElem?
  intro j
  by_cases h:j<l.length
  · rw [swpI_at h,if_neg (by omega),List.getD_eq_getElem?_getD,List.getElem?_eq_getElem h];rfl
  · rw [List.getElem?_eq_none (by rw [zeW];omega),List.getElem?_eq_none (by omega)]
theorem swpI_step {α:Type} [Inhabited α] {l:List α} {k:Nat} {x y:α} (hk:2*(k+1)≤l.length) (hx:(swpI l k)[k]?=some x) (hy:(swpI l k)[l.length-1-k]?=some y):((swpI l k).set k y).set (l.length-1-k) x=swpI l (k+1):=by
  rw [swpI_at (by omega),if_neg (by omega)] at hx
  rw [swpI_at (by omega),if_neg (by omega)] at hy
  injection hx with hx
  injection hy with hy
  apply List.ext_getElem?
  intro j
  by_cases h:j<l.length
  · rw [swpI_at h,List.getElem?_set]
    by_cases c:l.length-1-k=j
    · rw [if_pos c,if_pos (by rw [List.length_set,zeW];omega),if_pos (by omega),←hx]
      congr 2;omega
    · rw [if_neg c,List.getElem?_set]
      by_cases d:k=j
      · rw [if_pos d,if_pos (by rw [zeW];omega),if_pos (by omega),←hy]
        congr 2;omega
      · rw [if_neg d,swpI_at h]
        by_cases e:j<k∨l.length-k≤j
        · rw [if_pos e,if_pos (by omega)]
        · rw [if_neg e,if_neg (by omega)]
  · rw [List.getElem?_eq_none (by rw [List.length_set,List.length_set,zeW];omega),List.getElem?_eq_none (by rw [zeW];omega)]
theorem swpI_end {α:Type} [Inhabited α] {l:List α} {k:Nat} (h1:2*k≤l.length) (h2:¬(k:Int)<(l.length:Int)-1-k):swpI l k=l.reverse:=by
  apply List.ext_getElem?
  intro j
  by_cases h:j<l.length
  · rw [swpI_at h,List.getElem?_reverse h,List.getElem?_eq_getElem (by omega)]
    congr 1
    split
    · rw [List.getD_eq_getElem?_getD,List.getElem?_eq_getElem (by omega)];rfl
    · have e:j=l.length-1-j:=by omega
      rw [List.getD_eq_getElem?_getD,List.getElem?_eq_getElem (by omega)]
      show l[j]=_
      congr 1
  · rw [List.getElem?_eq_none (by rw [zeW];omega),List.getElem?_eq_none (by rw [List.length_reverse];omega)]
def Fresh (l:List Int) (k:Nat):Prop:=compactL (l.take k)=l.take k
theorem fresh_one (l:List Int) (h:1≤l.length):Fresh l 1:=by
  cases l with
  | nil=>simp at h
  | cons x l=>rfl
theorem fresh_go {l:List Int} {k:Nat} {x y:Int} (h:Fresh l (k+1)) (hx:l[k]?=some x) (hy:l[k+1]?=some y) (hn:¬y=x):Fresh l (k+2):=by
  unfold Fresh at h ⊢
  rw [zdT hx hy,if_neg (fun e=>hn e.symm),h]
  have e:l.take (k+1+1)=l.take (k+1)++(l[k+1]?).toList:=List.take_add_one
  rw [hy] at e
  exact e.symm
theorem fresh_dup {l:List Int} {k:Nat} {x y:Int} (h:Fresh l (k+1)) (hx:l[k]?=some x) (hy:l[k+1]?=some y) (hn:y=x):compactL (l.take (k+2))=l.take (k+1):=by
  rw [zdT hx hy,if_pos hn.symm,h]
def rowAt (l:List Int) (i:Nat):List Int:=compactL (l.take i)++l.drop (compactL (l.take i)).length
theorem rowAt_len {l:List Int} {i:Nat} (h:i≤l.length):(rowAt l i).length=l.length:=by
  unfold rowAt
  have:=compact_len (l.take i)
  rw [List.length_take] at this
  rw [List.length_append,List.length_drop];omega
theorem rowAt_get {l:List Int} {i j:Nat} (h:(compactL (l.take i)).length≤j):(rowAt l i)[j]?=l[j]?:=by
  unfold rowAt
  rw [List.getElem?_append_right h,List.getElem?_drop];congr 1;omega
theorem rowAt_same {l:List Int} {i:Nat} {x y:Int} (hx:l[i]?=some x) (hy:l[i+1]?=some y) (h:x=y):rowAt l (i+2)=rowAt l (i+1):=by
  unfold rowAt
  rw [zdT hx hy,if_pos h]
theorem set_app {α:Type} (a b:List α) (y:α) (h:0<b.length):(a++b).set a.length y=a++[y]++b.drop 1:=by
  cases b with
  | nil=>simp at h
  | cons z b=>rw [List.set_append_right _ _ (Nat.le_refl _),Nat.sub_self];simp
theorem rowAt_new {l:List Int} {i:Nat} {x y:Int} (hx:l[i]?=some x) (hy:l[i+1]?=some y) (h:¬x=y) (hc:(compactL (l.take (i+1))).length<l.length):(rowAt l (i+1)).set (compactL (l.take (i+1))).length y=rowAt l (i+2):=by
  unfold rowAt
  rw [zdT hx hy,if_neg h,set_app _ _ _ (by rw [List.length_drop];omega),List.drop_drop,List.length_append];rfl
theorem rowAt_fresh {l:List Int} {k:Nat} (h:compactL (l.take (k+2))=l.take (k+1)) (hk:k+1≤l.length):rowAt l (k+2)=l:=by
  unfold rowAt
  rw [h,List.length_take,Nat.min_eq_left hk,List.take_append_drop]
theorem compact_short {l:List Int} (h:l.length<2):compactL l=l:=by
  match l,h with
  | [],_=>rfl
  | [x],_=>rfl
theorem sNaN_ok (x:Int):Tells P 78 [.val i64T x] (.val boolT false):=by
 refine zc Tryz.func78 rfl rfl rfl (fun ext w hext=>?_)
 refine ze (d:=0) rfl zn (fun hin0=>?_)
 refine qbI ?_;refine qaw ?_;refine A0 zdr ?_;refine qac ?_
 exact zb rfl rfl (zbJ (by simp [Fr.set]))
theorem lessInt_ok (x y:Int):Tells P 77 [.val i64T x,.val i64T y] (.val boolT (decide (x<y))):=by
 refine zc Tryz.func77 rfl rfl rfl (fun ext w hext=>?_)
 refine ze (d:=0) rfl zn (fun hin0=>?_)
 refine ze (d:=1) rfl zn (fun hin1=>?_)
 refine qbI ?_;refine A0 (oCl (isNaN_ok x) rfl fn_132 ⟨(zd rfl),trivial⟩) ?_;refine qaw ?_;refine zcr (d:=7) rfl (rfl) ?_;refine qab ?_;refine qae ?_;refine qaH ?_;refine A1 zbx ?_;refine qa3 ?_
 exact zb rfl rfl (za rfl (rfl))
theorem growInt (n:Nat) (hn:n≤1000000000):Tells P 195 [.lit (.slice none 0 0),.val i64T (n:Int)] (.fresh 3 i64T []):=by
 refine zc Tryz.func195 rfl rfl rfl (fun ext w hext=>?_)
 refine ze (d:=1) rfl zn (fun hin1=>?_)
 refine qao ?_;refine qaT ?_;refine qaG ?_;refine zdx rfl (decide_eq_false (by show ¬((n:Int)<0);omega)) ?_;refine qbv ?_;refine A0 mL ?_;refine A0 (zeJ rfl rfl zb2) ?_;refine A0 mL ?_;refine A0 (by first|exact zR rfl rfl zb2|exact zan rfl rfl rfl zb2|exact zaz rfl rfl zb2) ?_;refine A0 zaT ?_;refine A0 zaT ?_;refine qad ?_;refine A0 zaI ?_;refine CN ?_;refine zr (p:=0<n) rfl (by rw [decide_eq_decide];simp only [IntL.toI,id_eq];omega) (fun ht16=>?_) (fun ht16=>?_)
 ·
  refine CR ?_;refine A0 mL ?_;refine A0 mL ?_;refine A0 (zeJ rfl rfl zb2) ?_;refine A0 (by first|exact zbj rfl rfl rfl (by first|rfl|omega) zbm|exact zdG rfl rfl rfl zbm (by first|assumption|omega|(simp;omega))) ?_;refine qaw ?_;refine aw_appendz (T:=i64T) (n:=n) rfl rfl rfl rfl rfl rfl (by first|rfl|omega) zcP ze_3 (ui_3) (⟨by assumption,by omega,by omega⟩) ?_;refine A0 mL ?_;refine A0 (by first|exact zR rfl rfl zb2|exact zan rfl rfl rfl zb2|exact zaz rfl rfl zb2) ?_
  refine A0 (g_os_h (q:=0) rfl rfl rfl rfl zbm (by first|omega|rfl) (by first|assumption|omega|(simp;omega))) ?_;refine A0 aS ?_;refine CNQR ?_;refine A0 mS ?_;refine A0 aS ?_;refine CN ?_
  exact zb rfl rfl (ret_fresh_s rfl rfl (by simp;omega) rfl)
 ·
  refine CSQR ?_;refine A0 mL ?_;refine A0 aL ?_;refine CN ?_
  exact zb rfl rfl (zm rfl)
theorem concatInt (ls:List (List Int)) (hl:ls.flatten.length≤1000000000):Tells P 136 [.val (bsl (bsl i64T)) ls] (.fresh 3 i64T ls.flatten):=by
 refine zc Tryz.func136 rfl rfl rfl (fun ext w hext=>?_)
 refine ze (d:=0) rfl zk (fun hsl0=>?_)
 refine qaX ?_;refine qai ?_;refine A0 (zR rfl rfl isl_239) ?_;refine qa8 ?_;refine Lp (ι:=Nat) 0 (fun (k:Nat)=>(((((Fr.none).set 0 (.val (bsl (bsl i64T)) ls)).set 3 (.val i64T ((ls.take k).flatten.length:Int))).set 9 (.val (bsl (bsl i64T)) ls)).set 10 (.val i64T (ls.length:Int))).set 11 (.val i64T (k:Int))) (fun (k:Nat)=>Hp.none) (fun (k:Nat)=>k≤ls.length) (fun (k:Nat)=>ls.length-k) (0) (Nat.zero_le _) ?_
 intro k hinv
 refine qaj ?_;refine Cf (p:=k<ls.length) (fun ht12=>?_) (fun ht12=>?_)
 ·
  obtain ⟨x,hx⟩:∃x,ls[k]?=some x:=⟨_,List.getElem?_eq_getElem ht12⟩
  have hle:=zcp ls (k+1)
  rw [zal hx,List.length_append] at hle
  refine CSQBQR ?_;refine A0 (za0 rfl rfl rfl sl_239 (by assumption)) ?_;refine A0 (zg rfl rfl zb6) ?_;refine A0 aX ?_;refine CNQR ?_;refine qaw ?_;refine A0 mX ?_;refine A0 (by first|exact zR rfl rfl zb2|exact zan rfl rfl rfl zb2|exact zaz rfl rfl zb2) ?_;refine A0 zby ?_;refine qad ?_;refine qaG ?_;refine zdx rfl (decide_eq_false (by simp only [IntL.toI,id_eq];omega)) ?_;refine qbh ?_;refine zi (d:=3) (y:=((ls.take (k+1)).flatten.length:Int)) rfl (by rw [zal hx,List.length_append];omega) ?_
  exact Nx (k+1) (by omega) (by omega)
 ·
  refine zi (d:=3) (y:=((ls.flatten.length:Nat):Int)) rfl (by rw [List.take_of_length_le (by omega)]) ?_;refine CE ?_;refine qa1 ?_;refine zaA (growInt ls.flatten.length hl) rfl fn_195 ⟨(by first|exact zB rfl|exact zZ rfl|exact zG rfl rfl|exact zX rfl|exact zx rfl|exact zag rfl rfl|exact zY rfl),(zd rfl),trivial⟩ rfl rfl rfl ?_;refine A0 aO ?_;refine qaT ?_;refine A0 (zR rfl rfl isl_239) ?_;refine qa8 ?_
  refine Lp (ι:=Nat) 1 (fun (k:Nat)=>((((Fr.none).set 6 (.own 0)).set 25 (.val (bsl (bsl i64T)) ls)).set 26 (.val i64T (ls.length:Int))).set 27 (.val i64T (k:Int))) (fun (k:Nat)=>(Hp.none).set 0 (.row 3 i64T (ls.take k).flatten)) (fun (k:Nat)=>k≤ls.length) (fun (k:Nat)=>ls.length-k) (0) (Nat.zero_le _) ?_
  intro k hinv
  refine qaj ?_;refine Cf (p:=k<ls.length) (fun ht28=>?_) (fun ht28=>?_)
  ·
   obtain ⟨x,hx⟩:∃x,ls[k]?=some x:=⟨_,List.getElem?_eq_getElem ht28⟩
   have hle:=zcp ls (k+1)
   rw [zal hx,List.length_append] at hle
   refine CSQBQR ?_;refine A0 (za0 rfl rfl rfl sl_239 (by assumption)) ?_;refine A0 (zg rfl rfl zb6) ?_;refine A0 aX ?_;refine CNR ?_;refine A0 mO ?_;refine A0 mX ?_;refine zD rfl rfl rfl rfl rfl rfl rfl zcP (by omega) ?_;refine A0 aO ?_;refine qaW ?_;refine zaG 1 0 2 rfl rfl rfl rfl rfl rfl ?_;refine zA (n:=0) rfl (zal hx).symm ?_
   exact Nx (k+1) (by omega) (by omega)
  ·
   refine qaA ?_
   exact zb rfl rfl (zf rfl rfl (by rw [List.take_of_length_le (by omega)]))
theorem revInt (l:List Int) (hl:l.length≤1000000000000):TellsM P 81 (.row 3 i64T l) [.own 0] (.lit (.tuple #[])) (.row 3 i64T l.reverse):=by
 refine zd6 trivial Tryz.func81 rfl rfl ⟨Nat.one_pos,trivial⟩ (fun ext pg w hext hgr=>?_)
 refine aw_factrow (n:=0) rfl (fun hrl=>?_)
 refine qb1 ?_;refine A0 (zan rfl rfl rfl zb2) ?_;refine A0 zaT ?_;refine A0 aV ?_;refine A0 aV ?_;refine CNB ?_;refine zA (n:=0) (y:=swpI l 0) rfl swpI_zero.symm ?_;refine zi (d:=3) (y:=(l.length:Int)-1-((0:Nat):Int)) rfl (by omega) ?_;refine Lp (ι:=Nat) 1 (fun (k:Nat)=>(((Fr.none).set 0 (.own 0)).set 2 (.val i64T (k:Int))).set 3 (.val i64T ((l.length:Int)-1-k))) (fun (k:Nat)=>(Hp.none).set 0 (.row 3 i64T (swpI l k))) (fun (k:Nat)=>2*k≤l.length) (fun (k:Nat)=>l.length-k) (0) (Nat.zero_le _) ?_
 intro k hinv
 refine CQQR ?_;refine qak ?_;refine qaG ?_;refine Cf (p:=(k:Int)<(l.length:Int)-1-k) (fun ht9=>?_) (fun ht9=>?_)
 ·
  have hsl:=zeW (l:=l) (k:=k)
  obtain ⟨x,hx⟩:∃x,(swpI l k)[k]?=some x:=⟨_,List.getElem?_eq_getElem (by omega)⟩
  obtain ⟨y,hy⟩:∃y,(swpI l k)[l.length-1-k]?=some y:=⟨_,List.getElem?_eq_getElem (by omega)⟩
  have hsl2:((swpI l k).set k y).length=l.length:=by rw [List.length_set,hsl]
  have hy2:((swpI l k).set k y)[l.length-1-k]?=some y:=by rw [List.getElem?_set_ne (by omega)];exact hy
  refine CS ?_;refine CQ ?_;refine CB ?_;refine zE [some 1,some 1,some 1000001,some 1000001,some 1,some 1,some 1,some 1,some 1,some 1,some 1,some 1,some 1,none,some 1,none] mixed (by decide +kernel) ?_;refine X0 mO ?_;refine X0 mV ?_;refine XK.ga (fun _=>g_mo (.inl rfl) rfl) rfl rfl rfl ?_;refine XK.ga (fun _=>g_mv (.inl rfl) rfl) rfl rfl rfl ?_;refine X0 mO ?_;refine X0 mV ?_;refine X0 (zde (i:=l.length-1-k) rfl rfl rfl rfl (by first|omega|rfl) zbm (by first|assumption|omega|(simp;omega))) ?_;refine X0 (zbF rfl rfl rfl rfl (by assumption) (Lens.self _) ty_3) ?_;refine X0 mO ?_
  refine X0 mV ?_;refine X0 (zde (i:=k) rfl rfl rfl rfl (by first|omega|rfl) zbm (by first|assumption|omega|(simp;omega))) ?_;refine X0 (zbF rfl rfl rfl rfl (by assumption) (Lens.self _) ty_3) ?_;refine X0 (zde (i:=k) rfl rfl rfl rfl (by first|omega|rfl) zbm (by first|assumption|omega|(simp;omega))) ?_;refine XK.e (x:=.idk) (fun fr' hfr kk H=>by exact zdV rfl rfl rfl ((hfr 26 (by decide +kernel)).trans rfl) rfl rfl (by assumption) (Lens.self _) ty_3 ((hfr 21 (by decide +kernel)).trans rfl) (zK H)) ?_
  refine X0 (zde (i:=l.length-1-k) rfl rfl rfl rfl (by first|omega|rfl) zbm (by first|assumption|omega|(simp;omega))) ?_;refine XK.e (x:=.idk) (fun fr' hfr kk H=>by exact zdV rfl rfl rfl ((hfr 27 (by decide +kernel)).trans rfl) rfl rfl (by assumption) (Lens.self _) ty_3 ((hfr 25 (by decide +kernel)).trans rfl) (zK H)) ?_;refine XK.nil' ?_;refine CI ?_;refine CR ?_;refine qaY ?_;refine qbA ?_;refine qbo ?_;refine zA (n:=0) (y:=swpI l (k+1)) rfl (swpI_step (by omega) hx hy) ?_;refine zi (d:=3) (y:=(l.length:Int)-1-((k+1:Nat):Int)) rfl (by omega) ?_
  exact Nx (k+1) (by omega) (by omega)
 ·
  refine CE ?_
  exact aw_fallm0 rfl rfl rfl rfl rfl (give_row rfl (swpI_end hinv ht9))
theorem bsInt_ok (l:List Int) (y:Int) (hl:l.length<4611686018427387904):Tells P 36 [.val (bsl i64T) l,.val i64T y] (.tup2 (.val i64T (halves (fun x=>x-y) l 0 l.length:Nat)) (.val boolT (foundAt (fun x=>x-y) l (halves (fun x=>x-y) l 0 l.length)))):=by
 refine zc Tryz.func36 rfl rfl rfl (fun ext w hext=>?_)
 refine ze (d:=0) rfl zk (fun hsl0=>?_)
 refine ze (d:=1) rfl zn (fun hin1=>?_)
 refine CQR ?_;refine qbw ?_;refine qbC ?_;refine qad ?_;refine A0 aV ?_;refine qaL ?_;refine CB ?_;refine Lp (ι:=Nat×Nat) 0 (fun (i:Nat×Nat)=>match i with|(lo,hi)=>(((((Fr.none).set 0 (.val (bsl i64T) l)).set 1 (.val i64T y)).set 6 (.val i64T (l.length:Int))).set 7 (.val i64T (lo:Int))).set 8 (.val i64T (hi:Int))) (fun (i:Nat×Nat)=>match i with|(lo,hi)=>Hp.none) (fun (i:Nat×Nat)=>match i with|(lo,hi)=>lo≤hi∧hi≤l.length∧halves (fun x=>x-y) l 0 l.length=halves (fun x=>x-y) l lo hi) (fun (i:Nat×Nat)=>match i with|(lo,hi)=>hi-lo) ((0,l.length)) (⟨Nat.zero_le _,Nat.le_refl _,rfl⟩) ?_
 intro ⟨lo,hi⟩ hinv
 dsimp only at hinv
 refine CQQR ?_;refine qak ?_;refine qaG ?_;refine Cf (p:=lo<hi) (fun ht15=>?_) (fun ht15=>?_)
 ·
  obtain ⟨x,hx⟩:∃x,l[(lo+hi)/2]?=some x:=⟨_,List.getElem?_eq_getElem (by omega)⟩
  refine CS ?_;refine CB ?_;refine CQR ?_;refine qak ?_;refine A0 zby ?_;refine A0 (zdH rfl (ui_135) (us_3) rfl) ?_;refine A0 (zbg rfl rfl rfl (by first|decide|(simp [IntL.toI];done)|(simp [IntL.toI];omega)) rfl) ?_;refine A0 (zev rfl (ui_3) (us_135) rfl (mid_eq (by omega))) ?_;refine qad ?_;refine qaw ?_;refine A0 (zu (i:=(lo+hi)/2) rfl rfl rfl (by omega) zbm (by assumption)) ?_;refine qbM ?_;refine qaw ?_
  refine A0 (oCl (lessInt_ok x y) rfl fn_77 ⟨(by first|exact zB rfl|exact zZ rfl|exact zG rfl rfl|exact zX rfl|exact zx rfl|exact zag rfl rfl|exact zY rfl),(zd rfl),trivial⟩) ?_;refine CN ?_;refine zr (p:=x-y<0) rfl ((i64_sub _ _)) (fun ht27=>?_) (fun ht27=>?_)
  ·
   refine CR ?_;refine qaY ?_;refine qac ?_;refine CI ?_
   exact Nx (((lo+hi)/2+1,hi)) (by first|exact ⟨by omega,by omega,hinv.2.2.trans (halves_lt ht15 hx ht27)⟩|exact ⟨by omega,by omega,hinv.2.2.trans (halves_ge ht15 hx ht27)⟩) (by show _<hi-lo;simp only [];omega)
  ·
   refine CR ?_;refine qaw ?_;refine qac ?_;refine CI ?_
   exact Nx ((lo,(lo+hi)/2)) (by first|exact ⟨by omega,by omega,hinv.2.2.trans (halves_lt ht15 hx ht27)⟩|exact ⟨by omega,by omega,hinv.2.2.trans (halves_ge ht15 hx ht27)⟩) (by show _<hi-lo;simp only [];omega)
 ·
  refine CE ?_;refine CQR ?_;refine qak ?_;refine qaw ?_;refine A0 zbx ?_;refine Sp (d:=34) (p:=lo<l.length) (fun g34=>?_) (fun g34=>?_)
  ·
   obtain ⟨x,hx⟩:∃x,l[lo]?=some x:=⟨_,List.getElem?_eq_getElem g34⟩
   refine qaw ?_;refine qaH ?_;refine A1 (zu (i:=lo) rfl rfl rfl (by omega) zbm (by assumption)) ?_;refine A1 (zg rfl rfl ty_3) ?_;refine A1 mV ?_;refine A1 zbf ?_;refine Sp (d:=41) (p:=x=y) (fun g41=>?_) (fun g41=>?_)
   ·
    refine A1 mV ?_;refine qab ?_;refine qab ?_;refine A3 ?_;refine A3 ?_;refine A2 ?_;refine A1 oK ?_;refine A0 oK ?_;refine qbo ?_
    exact zT rfl rfl (za rfl (by rw [hinv.2.2,show hi=lo by omega,zbn])) (za rfl (by rw [hinv.2.2,show hi=lo by omega,zbn];unfold foundAt;rw [hx];symm;exact decide_eq_true (show x-y=0 by omega)))
   ·
    refine qaH ?_;refine A1 mV ?_;refine A1 (zu (i:=lo) rfl rfl rfl (by omega) zbm (by assumption)) ?_;refine A1 (zg rfl rfl ty_3) ?_;refine A1 (oCl (sNaN_ok x) rfl fn_78 ⟨(by first|exact zB rfl|exact zZ rfl|exact zG rfl rfl|exact zX rfl|exact zx rfl|exact zag rfl rfl|exact zY rfl),trivial⟩) ?_;refine zcr (d:=47) rfl (rfl) ?_;refine A1 mV ?_;refine qaC ?_;refine A1 oK ?_;refine A1 oK ?_;refine A0 oK ?_;refine qbo ?_
    exact zT rfl rfl (za rfl (by rw [hinv.2.2,show hi=lo by omega,zbn])) (za rfl (by rw [hinv.2.2,show hi=lo by omega,zbn];unfold foundAt;rw [hx];symm;exact decide_eq_false (show ¬x-y=0 by omega)))
  ·
   refine qbJ ?_;refine qab ?_;refine A2 ?_;refine qa9 ?_;refine qa9 ?_;refine qa9 ?_;refine A2 ?_;refine A0 oK ?_;refine qbo ?_
   exact zT rfl rfl (za rfl (by rw [hinv.2.2,show hi=lo by omega,zbn])) (za rfl (by rw [hinv.2.2,show hi=lo by omega,zbn];unfold foundAt;rw [List.getElem?_eq_none (by omega)]))
theorem compactInt (l:List Int) (hl:l.length≤1000000000):TellsM P 137 (.row 3 i64T l) [.own 0] (.fresh 3 i64T (compactL l)) (.none_):=by
 refine zd6 trivial Tryz.func137 rfl rfl ⟨Nat.one_pos,trivial⟩ (fun ext pg w hext hgr=>?_)
 refine aw_factrow (n:=0) rfl (fun hrl=>?_)
 refine qao ?_;refine CNQQR ?_;refine A0 mO ?_;refine A0 (zan rfl rfl rfl zb2) ?_;refine qaG ?_;refine Cf (p:=l.length<2) (fun ht8=>?_) (fun ht8=>?_)
 ·
  refine qb1 ?_;refine qbk ?_
  exact zch rfl rfl rfl rfl rfl zbK (retm_fresh zbK (fun h=>h.elim) rfl rfl (compact_short ht8).symm)
 ·
  refine CSQQR ?_;refine A0 aV ?_;refine CNB ?_;refine Lp (ι:=Nat) 1 (fun (k:Nat)=>((Fr.none).set 0 (.own 0)).set 3 (.val i64T ((k:Int)+1))) (fun (k:Nat)=>(Hp.none).set 0 (.row 3 i64T l)) (fun (k:Nat)=>k+1≤l.length∧Fresh l (k+1)) (fun (k:Nat)=>l.length-k) (0) (⟨by omega,fresh_one l (by omega)⟩) ?_
  intro k hinv
  refine qbb ?_;refine A0 mO ?_;refine A0 (zan rfl rfl rfl zb2) ?_;refine qaG ?_;refine Cf (p:=k+1<l.length) (fun ht13=>?_) (fun ht13=>?_)
  ·
   obtain ⟨x,hx⟩:∃x,l[k]?=some x:=⟨_,List.getElem?_eq_getElem (by omega)⟩
   obtain ⟨y,hy⟩:∃y,l[k+1]?=some y:=⟨_,List.getElem?_eq_getElem ht13⟩
   refine CS ?_;refine CQ ?_;refine CB ?_;refine qbc ?_;refine G0 mO ?_;refine G0 mV ?_;refine G0 (zde (i:=k+1) rfl rfl rfl rfl (by first|omega|rfl) zbm (by first|assumption|omega|(simp;omega))) ?_;refine G0 (zbF rfl rfl rfl rfl (by assumption) (Lens.self _) ty_3) ?_;refine G0 mO ?_;refine G0 mV ?_;refine G0 zaT ?_;refine G0 (zde (i:=k) rfl rfl rfl rfl (by first|omega|rfl) zbm (by first|assumption|omega|(simp;omega))) ?_;refine G0 (zbF rfl rfl rfl rfl (by assumption) (Lens.self _) ty_3) ?_;refine G0 zbf ?_;refine GK.nil ?_;refine Cf (p:=y=x) (fun ht25=>?_) (fun ht25=>?_)
   ·
    have hdup:=fresh_dup hinv.2 hx hy ht25
    have hdl:(compactL (l.take (k+2))).length=k+1:=by rw [hdup,List.length_take];omega
    refine qb1 ?_;refine qaw ?_;refine A0 (g_os_l (p:=k+1) rfl rfl rfl rfl zbm (by first|omega|rfl) (by first|assumption|omega|(simp;omega))) ?_;refine A0 aS ?_;refine CNQQR ?_;refine A0 aV ?_;refine CNB ?_;refine zA (n:=0) (y:=rowAt l (k+1+1)) rfl (rowAt_fresh hdup (by omega)).symm ?_;refine zi (d:=3) (y:=((compactL (l.take (k+1+1))).length:Int)) rfl (by rw [hdl];omega) ?_;refine zi (d:=5) (y:=((k+1:Nat):Int)-k) rfl (by omega) ?_
    refine Lp (ι:=Nat) 1 (fun (j:Nat)=>((((Fr.none).set 0 (.own 0)).set 3 (.val i64T ((compactL (l.take (j+1))).length:Int))).set 4 (.osub 0 i64T.size (k+1) (l.length-(k+1)))).set 5 (.val i64T ((j:Int)-k))) (fun (j:Nat)=>(Hp.none).set 0 (.row 3 i64T (rowAt l (j+1)))) (fun (j:Nat)=>k+1≤j∧j<l.length∧(compactL (l.take (j+1))).length≤j) (fun (j:Nat)=>l.length-j) (k+1) (⟨Nat.le_refl _,by omega,by rw [hdl];omega⟩) ?_
    intro j hj
    refine qbb ?_;refine A0 mS ?_;refine A0 (g_len_s rfl rfl (by omega) zb2) ?_;refine qaG ?_;refine Cf (p:=j+1<l.length) (fun ht32=>?_) (fun ht32=>?_)
    ·
     have hrw:=rowAt_len (l:=l) (i:=j+1) (by omega)
     obtain ⟨x2,hx2⟩:∃x,l[j]?=some x:=⟨_,List.getElem?_eq_getElem (by omega)⟩
     obtain ⟨y2,hy2⟩:∃y,l[j+1]?=some y:=⟨_,List.getElem?_eq_getElem ht32⟩
     have hxr:(rowAt l (j+1))[k+1+(j-k-1)]?=some x2:=by rw [show k+1+(j-k-1)=j by omega,rowAt_get hj.2.2];exact hx2
     have hyr:(rowAt l (j+1))[k+1+(j-k)]?=some y2:=by rw [show k+1+(j-k)=j+1 by omega,rowAt_get (by omega)];exact hy2
     refine CS ?_;refine CQ ?_;refine CB ?_;refine qbc ?_;refine G0 mS ?_;refine G0 mV ?_;refine G0 (g_ia_s (i:=j-k) rfl rfl rfl (by first|omega|rfl) zbm (by first|assumption|omega|(simp;omega))) ?_;refine G0 (zbF rfl rfl rfl rfl (by assumption) (Lens.self _) ty_3) ?_;refine G0 mS ?_;refine G0 mV ?_;refine G0 zaT ?_;refine G0 (g_ia_s (i:=j-k-1) rfl rfl rfl (by first|omega|rfl) zbm (by first|assumption|omega|(simp;omega))) ?_;refine G0 (zbF rfl rfl rfl rfl (by assumption) (Lens.self _) ty_3) ?_;refine G0 zdr ?_;refine GK.nil ?_;refine Cf (p:=¬y2=x2) (fun ht44=>?_) (fun ht44=>?_)
     ·
      obtain ⟨z,hz⟩:∃z,(rowAt l (j+1))[(compactL (l.take (j+1))).length]?=some z:=⟨_,List.getElem?_eq_getElem (by omega)⟩
      have hcl:(compactL (l.take (j+1+1))).length=(compactL (l.take (j+1))).length+1:=by rw [zdT hx2 hy2,if_neg (fun e=>ht44 e.symm),List.length_append];rfl
      refine qb1 ?_;refine qaw ?_;refine A0 mS ?_;refine qaw ?_;refine A0 (g_ia_s (i:=j-k) rfl rfl rfl (by first|omega|rfl) zbm (by first|assumption|omega|(simp;omega))) ?_;refine A0 (zbF rfl rfl rfl rfl (by assumption) (Lens.self _) ty_3) ?_;refine A0 (zde (i:=(compactL (l.take (j+1))).length) rfl rfl rfl rfl (by first|omega|rfl) zbm (by first|assumption|omega|(simp;omega))) ?_;refine zdV rfl rfl rfl rfl rfl rfl (by assumption) (Lens.self _) ty_3 rfl ?_;refine CNR ?_;refine qaY ?_;refine A0 aV ?_;refine CNIR ?_;refine qaY ?_;refine qac ?_
      refine zA (n:=0) (y:=rowAt l (j+1+1)) rfl (rowAt_new hx2 hy2 (fun e=>ht44 e.symm) (by omega)) ?_;refine zi (d:=3) (y:=((compactL (l.take (j+1+1))).length:Int)) rfl (by rw [hcl];omega) ?_;refine zi (d:=5) (y:=((j+1:Nat):Int)-k) rfl (by omega) ?_
      exact Nx (j+1) (⟨by omega,by omega,by omega⟩) (by omega)
     ·
      have hcl:(compactL (l.take (j+1+1))).length=(compactL (l.take (j+1))).length:=by rw [zdT hx2 hy2,if_pos (Classical.not_not.1 ht44).symm]
      refine qas ?_;refine zA (n:=0) (y:=rowAt l (j+1+1)) rfl (rowAt_same hx2 hy2 (Classical.not_not.1 ht44).symm).symm ?_;refine zi (d:=3) (y:=((compactL (l.take (j+1+1))).length:Int)) rfl (by rw [hcl]) ?_;refine zi (d:=5) (y:=((j+1:Nat):Int)-k) rfl (by omega) ?_
      exact Nx (j+1) (⟨by omega,by omega,by omega⟩) (by omega)
    ·
     refine CE ?_;refine CQ ?_
     have hjl:l.take (j+1)=l:=List.take_of_length_le (by omega)
     have hcl:=compact_len l
     have hcj:=hj.2.2
     rw [hjl] at hcj
     refine zA (n:=0) (y:=compactL l++l.drop (compactL l).length) rfl (by unfold rowAt;rw [hjl]) ?_;refine zi (d:=3) (y:=((compactL l).length:Int)) rfl (by rw [hjl]) ?_;refine CR ?_;refine A0 mO ?_;refine qaw ?_;refine A0 (g_os_l (p:=(compactL l).length) rfl rfl rfl rfl zbm (by first|omega|rfl) (by first|assumption|omega|(simp;omega))) ?_;refine aw_clear rfl rfl rfl rfl rfl zcP ze_3 (by simp;omega) ?_;refine CNQR ?_;refine A0 mO ?_;refine qaw ?_;refine A0 (g_os_h (q:=(compactL l).length) rfl rfl rfl rfl zbm (by first|omega|rfl) (by first|assumption|omega|(simp;omega))) ?_
     refine A0 aS ?_;refine CN ?_
     exact zch rfl rfl rfl rfl rfl zbK (retm_fresh_s rfl rfl (by simp;omega) (by rw [List.take_append_of_le_length (by simp)];simp))
   ·
    refine qas ?_;refine zi (d:=3) (y:=((k+1:Nat):Int)+1) rfl (by omega) ?_
    exact Nx (k+1) (⟨by omega,fresh_go hinv.2 hx hy ht25⟩) (by omega)
  ·
   refine qaA ?_
   exact zch rfl rfl rfl rfl rfl zbK (retm_fresh zbK (fun h=>h.elim) rfl rfl (by have h:=hinv.2;unfold Fresh at h;rw [List.take_of_length_le (by omega)] at h;exact h.symm))
set_option maxRecDepth 20000
def backN (v:List Int) (n:Int):Nat→Nat
  | 0=>0
  | j+1=>if 0<n∧v.getD (j+1) 0<n then backN v n j else j+1
theorem back_le (v:List Int) (n:Int):∀j,backN v n j≤j
  | 0=>Nat.le_refl _
  | j+1=>by
    unfold backN
    split
    · have:=back_le v n j;omega
    · exact Nat.le_refl _
theorem back_go {v:List Int} {n x:Int} {j:Nat} (hj:0<j) (hx:v[j]?=some x) (h0:0<n) (h:x<n):backN v n j=backN v n (j-1):=by
  cases j with
  | zero=>omega
  | succ j =>
    have e:v.getD (j+1) 0=x:=by simp [hx]
    show (if 0<n∧v.getD (j+1) 0<n then backN v n j else j+1)=backN v n j
    rw [e,if_pos ⟨h0,h⟩]
theorem back_stop {v:List Int} {n:Int} {j:Nat} (h:∀x,v[j]?=some x→¬(0<n∧x<n)) (hj:j<v.length):backN v n j=j:=by
  cases j with
  | zero=>rfl
  | succ j =>
    show (if 0<n∧v.getD (j+1) 0<n then backN v n j else j+1)=j+1
    have e:v[j+1]?=some (v.getD (j+1) 0):=by rw [List.getD_eq_getElem?_getD,List.getElem?_eq_getElem hj];rfl
    rw [if_neg (h _ e)]
theorem back_zero (v:List Int) (j:Nat):backN v 0 j=j:=by
  cases j with
  | zero=>rfl
  | succ j=>show (if (0:Int)<0∧_ then _ else _)=_;rw [if_neg (fun h=>by have:=h.1;omega)]
def walkW (v:List Int) (low at_ n:Nat):List Int :=
  if h:low<at_ then
    if hx:backN v n (at_-1)<low then
      match n with
      | 0=>[]
      | n+1=>walkW v low at_ n
    else ((backN v n (at_-1):Nat):Int)::walkW v low (backN v n (at_-1)) n
  else []
termination_by at_+n
decreasing_by
  · omega
  · have:=back_le v n (at_-1);omega
theorem walk_end (v:List Int) {low at_ n:Nat} (h:¬low<at_):walkW v low at_ n=[]:=by rw [walkW,dif_neg h]
theorem walk_down {v:List Int} {low at_ n:Nat} (h:low<at_) (hx:backN v ((n+1:Nat):Int) (at_-1)<low):walkW v low at_ (n+1)=walkW v low at_ n:=by
  rw [walkW,dif_pos h,dif_pos hx]
theorem walk_step {v:List Int} {low at_ n:Nat} (h:low<at_) (hx:¬backN v n (at_-1)<low):walkW v low at_ n=((backN v n (at_-1):Nat):Int)::walkW v low (backN v n (at_-1)) n:=by
  rw [walkW,dif_pos h,dif_neg hx]
def followOk (v:List Int) (high low:Int):Bool:=mayV v&&decide (0≤low∧low≤high∧high<v.length)
def followL (v:List Int) (high low:Int):List Int:=if followOk v high low=true then (high::walkW v low.toNat high.toNat 31).reverse else []
theorem follow_no {v:List Int} {high low:Int} (h:followOk v high low=false):followL v high low=[]:=by unfold followL;rw [h];rfl
structure WalkAt (v:List Int) (high low:Nat) (s:Nat×Nat×List Int):Prop where
  lo:low≤s.1
  hi:s.1≤high
  n:s.2.1≤31
  l:s.2.2++walkW v low s.1 s.2.1=(high:Int)::walkW v low high 31
  len:s.2.2.length+s.1≤high+1
theorem walk_down_at {v:List Int} {high low a n:Nat} {l:List Int} (h:WalkAt v high low (a,n,l)) (ha:¬a=low) (hx:backN v n (a-1)<low):1≤n∧WalkAt v high low (a,n-1,l):=by
  have h1:=h.lo
  simp only at h1
  cases n with
  | zero =>
    rw [show ((0:Nat):Int)=0 from rfl,back_zero] at hx;omega
  | succ n =>
    have h3:=h.n
    simp only at h3
    refine ⟨by omega,h.lo,h.hi,by show n≤31;omega,?_,h.len⟩
    have:=h.l
    simp only at this
    rw [walk_down (by omega) hx] at this
    exact this
theorem walk_step_at {v:List Int} {high low a n:Nat} {l:List Int} (h:WalkAt v high low (a,n,l)) (ha:¬a=low) (hx:¬backN v n (a-1)<low):WalkAt v high low (backN v n (a-1),n,l++[((backN v n (a-1):Nat):Int)]):=by
  have h1:=h.lo
  have h2:=h.hi
  have h5:=h.len
  have h4:=h.l
  simp only at h1 h2 h4 h5
  have hb:=back_le v n (a-1)
  refine ⟨by show low≤backN v n (a-1);omega,by show backN v n (a-1)≤high;omega,h.n,?_,by show (l++_).length+backN v n (a-1)≤high+1;rw [List.length_append];simp only [List.length_singleton];omega⟩
  show (l++[((backN v n (a-1):Nat):Int)])++walkW v low (backN v n (a-1)) n=_
  rw [List.append_assoc,List.singleton_append,←walk_step (by omega) hx]
  exact h4
theorem ze9 {v:List Int} {high low:Int} (h:followOk v high low=true):0<v.length∧v.length≤200∧v[0]?=some 31∧0≤low∧low≤high∧high<v.length:=by
  unfold followOk mayV at h
  rw [Bool.and_eq_true,Bool.and_eq_true,decide_eq_true_eq,decide_eq_true_eq] at h
  exact ⟨h.1.1.1,h.1.1.2.1,h.1.1.2.2,h.2⟩
theorem follow_end {v:List Int} {H L a n:Nat} {l:List Int} (hok:followOk v H L=true) (h:WalkAt v H L (a,n,l)) (ha:a=L):l.reverse=followL v H L:=by
  have:=h.l
  simp only at this
  rw [walk_end v (by omega),List.append_nil] at this
  unfold followL
  rw [if_pos hok,this];rfl
theorem build_walk {o:Oper} {y0 y1 y2 y3:Operand} (ho:o.op = .build 141 #[(0,y0),(1,y1),(2,y2),(3,y3)]) (e:Operand→Value) (w:World) (h:∀y∈[y0,y1,y2,y3],(e y).oneCell'=true∧(e y).cells.size=1):(execOp e o).run P w = .ok (.value (.agg ([y0,y1,y2,y3].map e).toArray)) w :=
  run_build4 (z0:=.slice none 0 0) (z1:=.int .i64 0) (z2:=.int .i64 0) (z3:=.slice none 0 0) (fun w=>by kernel_rfl) (by kernel_rfl) (by kernel_rfl) ho e w h
def unionL (a b:List Int):List Int:=compactL (sortInts (a++b))
theorem sort_length (l:List Int):(sortInts l).length=l.length:=(List.mergeSort_perm l _).length_eq
theorem union_len (a b:List Int):(unionL a b).length≤a.length+b.length:=by
  have:=compact_len (sortInts (a++b))
  rw [sort_length,List.length_append] at this
  exact this
theorem walk_len (v:List Int) (low:Nat):∀s at_ n,at_+n≤s→(walkW v low at_ n).length≤at_
  | 0,at_,n,h=>by rw [walk_end v (by omega)];exact Nat.zero_le _
  | s+1,at_,n,h=>by
    by_cases c:low<at_
    · by_cases d:backN v n (at_-1)<low
      · cases n with
        | zero=>rw [walkW,dif_pos c,dif_pos d];exact Nat.zero_le _
        | succ n=>rw [walk_down c d];exact walk_len v low s at_ n (by omega)
      · rw [walk_step c d,List.length_cons]
        have hb:=back_le v n (at_-1)
        have:=walk_len v low s (backN v n (at_-1)) n (by omega)
        omega
    · rw [walk_end v c];exact Nat.zero_le _
theorem zdS (v:List Int) (high low:Int):(followL v high low).length≤201:=by
  unfold followL
  split
  · rename_i c
    obtain ⟨_,h2,_,h4,h5,h6⟩:=ze9 c
    have:=walk_len v low.toNat _ high.toNat 31 (Nat.le_refl _)
    rw [List.length_reverse,List.length_cons]
    omega
  · simp
theorem back_ok (v:List Int) (i:Nat) (n:Int) (h0:∀z,v[0]?=some z→n≤z) (h1:1≤i) (hi:i≤v.length):Tells P 135 [.val (bsl i64T) v,.val i64T (i:Int),.val i64T n] (.val i64T (backN v n (i-1):Nat)):=by
 refine zc Tryz.func135 rfl rfl rfl (fun ext w hext=>?_)
 refine ze (d:=0) rfl zk (fun hsl0=>?_)
 refine ze (d:=1) rfl zn (fun hin1=>?_)
 refine ze (d:=2) rfl zn (fun hin2=>?_)
 refine qbI ?_;refine A0 zaT ?_;refine qaL ?_;refine CB ?_;refine zi (d:=7) (y:=((i-1:Nat):Int)) rfl (by omega) ?_;refine Lp (ι:=Nat) 0 (fun (j:Nat)=>(((Fr.none).set 0 (.val (bsl i64T) v)).set 2 (.val i64T n)).set 7 (.val i64T (j:Int))) (fun (j:Nat)=>Hp.none) (fun (j:Nat)=>j≤i-1∧backN v n (i-1)=backN v n j) (fun (j:Nat)=>j) (i-1) (⟨Nat.le_refl _,rfl⟩) ?_
 intro j hinv
 refine qbb ?_;refine A0 zaI ?_;refine Sp (d:=11) (p:=0<n) (fun g11=>?_) (fun g11=>?_)
 ·
  obtain ⟨x,hx⟩:∃x,v[j]?=some x:=⟨_,List.getElem?_eq_getElem (by omega)⟩
  refine qaw ?_;refine qaH ?_;refine A1 (zu (i:=j) rfl rfl rfl (by omega) zbm (by assumption)) ?_;refine A1 (zg rfl rfl ty_3) ?_;refine A1 mV ?_;refine A1 zbx ?_;refine qat ?_;refine Cf (p:=x<n) (fun ht19=>?_) (fun ht19=>?_)
  ·
   have hj0:0<j:=Nat.pos_of_ne_zero fun e=>by subst e;have:=h0 x hx;omega
   refine CS ?_;refine CB ?_;refine CR ?_;refine qbA ?_;refine qac ?_;refine CI ?_;refine zi (d:=7) (y:=((j-1:Nat):Int)) rfl (by omega) ?_
   exact Nx (j-1) (⟨by omega,hinv.2.trans (back_go hj0 hx g11 ht19)⟩) (by omega)
  ·
   refine CE ?_;refine qbg ?_
   exact zb rfl rfl (za rfl (by rw [hinv.2,back_stop (fun y hy h=>by rw [hx] at hy;injection hy with hy;omega) (by omega)]))
 ·
  refine qbJ ?_;refine qab ?_;refine qat ?_;refine Cg ?_;refine CE ?_;refine qbg ?_
  exact zb rfl rfl (za rfl (by rw [hinv.2,back_stop (fun y hy h=>g11 h.1) (by omega)]))
theorem follow_ok (v:List Int) (high low:Int):Tells P 37 [.val (bsl i64T) v,.val i64T high,.val i64T low] (.tup2 (.fresh 3 i64T (followL v high low)) (.val boolT (followOk v high low))):=by
 refine zc Tryz.func37 rfl rfl rfl (fun ext w hext=>?_)
 refine ze (d:=0) rfl zk (fun hsl0=>?_)
 refine ze (d:=1) rfl zn (fun hin1=>?_)
 refine ze (d:=2) rfl zn (fun hin2=>?_)
 refine qaZ ?_;refine aw_scope (ι:=Unit) 2 0 rfl rfl rfl (fun (_u:Unit)=>(((Fr.none).set 2 (.val i64T low)).set 8 (.ptr 1 0)).set 9 (.bnd 80 1)) (fun (_u:Unit)=>((Hp.none).set 0 (.row 3 i64T [high])).set 1 (.parts 141 [.val (bsl i64T) v,.val i64T (high:Int),.val i64T (31:Int),.own 0])) (fun (_u:Unit)=>followOk v high low=true) (fun (_u:Unit)=>0) ?_ (fun hreach=>?_)
 ·
  intro _u hinv
  have hok:=hinv
  obtain ⟨hv1,hv2,hv3,ho1,ho2,ho3⟩:=ze9 hok
  obtain ⟨H,hH⟩:∃H:Nat,high=H:=⟨high.toNat,by omega⟩
  obtain ⟨L,hL⟩:∃L:Nat,low=L:=⟨low.toNat,by omega⟩
  subst hH
  subst hL
  refine CQ ?_;refine CB ?_;refine Lp (ι:=Nat×Nat×List Int) 2 (fun (i:Nat×Nat×List Int)=>match i with|(a,n,l)=>(((Fr.none).set 2 (.val i64T (L:Int))).set 8 (.ptr 1 0)).set 9 (.bnd 80 1)) (fun (i:Nat×Nat×List Int)=>match i with|(a,n,l)=>((Hp.none).set 0 (.row 3 i64T l)).set 1 (.parts 141 [.val (bsl i64T) v,.val i64T (a:Int),.val i64T (n:Int),.own 0])) (fun (i:Nat×Nat×List Int)=>match i with|(a,n,l)=>WalkAt v H L (a,n,l)) (fun (i:Nat×Nat×List Int)=>match i with|(a,n,l)=>a+n) ((H,31,[(H:Int)])) (⟨by show L≤H;omega,Nat.le_refl _,Nat.le_refl _,rfl,by show 1+H≤H+1;omega⟩) ?_
  intro ⟨a,n,l⟩ hinv
  dsimp only at hinv
  have hlo:=hinv.lo
  have hhi:=hinv.hi
  have hn31:=hinv.n
  have hlen:=hinv.len
  simp only at hlo hhi hn31 hlen
  have hb0:∀z,v[0]?=some z→(n:Int)≤z:=fun z hz=>by rw [hv3] at hz;injection hz with hz;omega
  refine CB ?_;refine CB ?_;refine CQR ?_;refine A0 mP ?_;refine A0 (g_nc rfl rfl) ?_;refine A0 (oFp fd_141_1) ?_;refine A0 (zo rfl rfl rfl rfl rfl ty_3) ?_;refine qaw ?_;refine A0 zbf ?_;refine qac ?_;refine Cf (p:=a=L) (fun ht36=>?_) (fun ht36=>?_)
  ·
   refine CE ?_;refine CQR ?_;refine A0 mP ?_;refine A0 (g_nc rfl rfl) ?_;refine A0 (oFp fd_141_3) ?_;refine A0 (zo rfl rfl rfl rfl rfl zb6) ?_;refine zfh (revInt l (by omega)) rfl fn_81 rfl trivial trivial rfl ⟨(by first|exact zaN rfl|exact zaM rfl|exact zat rfl|exact zaQ rfl|exact zaO rfl|exact zaP rfl|exact zaL rfl rfl (by decide)),trivial⟩ rfl rfl rfl ?_;refine CNQR ?_;refine A0 mP ?_;refine A0 (g_nc rfl rfl) ?_;refine A0 (oFp fd_141_3) ?_;refine A0 (zo rfl rfl rfl rfl rfl zb6) ?_;refine qbP ?_
   exact zT rfl rfl (zf rfl rfl (follow_end hok hinv ht36)) (za rfl hok.symm)
  ·
   refine CQR ?_;refine A0 (g_mb (.inl rfl) rfl) ?_;refine qaw ?_;refine aw_inlineb rfl rfl rfl rfl rfl Tryz.func80 fn_80 rfl rfl (fun ia2 iok2=>?_)
   refine CQR ?_;refine qbN ?_;refine G0 mP ?_;refine G0 (g_nc rfl rfl) ?_;refine G0 (oFp fd_141_0) ?_;refine G0 (zo rfl rfl rfl rfl rfl zb6) ?_;refine G0 mP ?_;refine G0 (g_nc rfl rfl) ?_;refine G0 (oFp fd_141_1) ?_;refine G0 (zo rfl rfl rfl rfl rfl ty_3) ?_;refine G0 mP ?_;refine G0 (g_nc rfl rfl) ?_;refine G0 (oFp fd_141_2) ?_;refine G0 (zo rfl rfl rfl rfl rfl ty_3) ?_;refine G0 (oCl (back_ok v a (n:Int) hb0 (by omega) (by omega)) rfl fn_135 ⟨(zd rfl),(zd rfl),(zd rfl),trivial⟩) ?_;refine qbn ?_;refine CQQR ?_;refine qak ?_;refine qaG ?_
   refine Cf (p:=backN v n (a-1)<L) (fun ht21=>?_) (fun ht21=>?_)
   ·
    obtain ⟨hn1,hwn⟩:=walk_down_at hinv ht36 ht21
    refine qa5 ?_;refine zaK rfl ?_;refine A0 oN ?_;refine qac ?_;refine Ct ?_;refine CR ?_;refine A0 mP ?_;refine A0 (g_nc rfl rfl) ?_;refine A0 (oFp fd_141_2) ?_;refine A0 (zo rfl rfl rfl rfl rfl ty_3) ?_;refine A0 (g_sub rfl rfl rfl (show _=(((n-1:Nat):Int):Int) from (zaa (by omega)).trans (by omega))) ?_;refine A0 (g_nc rfl rfl) ?_;refine A0 (oFp fd_141_2) ?_;refine zaj rfl rfl rfl rfl rfl rfl rfl rfl rfl rfl ty_3 ?_;refine CN ?_;refine CI ?_;refine CI ?_
    exact Nx ((a,n-1,l)) (hwn) (by first|(show a+(n-1)<a+n;omega)|(show backN v n (a-1)+n<a+n;have:=back_le v n (a-1);omega))
   ·
    have hwn:=walk_step_at hinv ht36 ht21
    refine CSQR ?_;refine A0 mP ?_;refine A0 mP ?_;refine A0 (g_nc rfl rfl) ?_;refine A0 (oFp fd_141_3) ?_;refine A0 (zo rfl rfl rfl rfl rfl zb6) ?_;refine qaw ?_;refine A0 (zt (T:=i64T) (xs:=[_]) rfl zbm zcP ⟨rfl,rfl,trivial⟩ rfl rfl) ?_;refine zD rfl rfl rfl rfl rfl rfl rfl zcP (by simp;omega) ?_;refine A0 (g_nc rfl rfl) ?_;refine A0 (oFp fd_141_3) ?_;refine zaj rfl rfl rfl rfl rfl rfl rfl rfl rfl rfl zb6 ?_;refine CNQR ?_;refine A0 mP ?_;refine qaw ?_;refine A0 (g_nc rfl rfl) ?_;refine A0 (oFp fd_141_1) ?_
    refine zaj rfl rfl rfl rfl rfl rfl rfl rfl rfl rfl ty_3 ?_;refine CNQR ?_;refine qac ?_;refine zaK rfl ?_;refine A0 oN ?_;refine qac ?_;refine Cg ?_;refine CS ?_;refine CI ?_;refine CI ?_;refine zaG 2 0 3 rfl rfl rfl rfl rfl rfl ?_
    exact Nx ((backN v n (a-1),n,l++[((backN v n (a-1):Nat):Int)])) (hwn) (by first|(show a+(n-1)<a+n;omega)|(show backN v n (a-1)+n<a+n;have:=back_le v n (a-1);omega))
 ·
  refine qbb ?_;refine A0 (oCl (mayV_ok v) rfl fn_79 ⟨(zd rfl),trivial⟩) ?_;refine Sp (d:=11) (p:=mayV v=true) (fun g11=>?_) (fun g11=>?_)
  ·
   refine A0 oN ?_;refine qbr ?_;refine A1 zbx ?_;refine Sp (d:=15) (p:=low<0) (fun g15=>?_) (fun g15=>?_)
   ·
    refine qaM ?_;refine qaM ?_;refine A2 ?_;refine qat ?_;refine Ct ?_;refine qaZ ?_
    exact zT rfl rfl (by rw [follow_no (show followOk v high low=false from by unfold followOk;rw [decide_eq_false (by omega),Bool.and_false])];exact zm rfl) (za rfl (show followOk v high low=false from by unfold followOk;rw [decide_eq_false (by omega),Bool.and_false]).symm)
   ·
    refine qae ?_;refine qaH ?_;refine A1 zaI ?_;refine Sp (d:=20) (p:=high<low) (fun g20=>?_) (fun g20=>?_)
    ·
     refine qaM ?_;refine A2 ?_;refine qat ?_;refine Ct ?_;refine qaZ ?_
     exact zT rfl rfl (by rw [follow_no (show followOk v high low=false from by unfold followOk;rw [decide_eq_false (by omega),Bool.and_false])];exact zm rfl) (za rfl (show followOk v high low=false from by unfold followOk;rw [decide_eq_false (by omega),Bool.and_false]).symm)
    ·
     refine qae ?_;refine qaH ?_;refine A1 (zR rfl rfl zb2) ?_;refine A1 zcU ?_;refine qat ?_;refine Cf (p:=(v.length:Int)≤high) (fun ht27=>?_) (fun ht27=>?_)
     ·
      refine qaZ ?_
      exact zT rfl rfl (by rw [follow_no (show followOk v high low=false from by unfold followOk;rw [decide_eq_false (by omega),Bool.and_false])];exact zm rfl) (za rfl (show followOk v high low=false from by unfold followOk;rw [decide_eq_false (by omega),Bool.and_false]).symm)
     ·
      have hok:followOk v high low=true:=by unfold followOk;rw [g11,Bool.true_and];exact decide_eq_true (by omega)
      refine CSQR ?_;refine qak ?_;refine qaw ?_;refine zbo (T:=i64T) (xs:=[_]) rfl rfl rfl rfl zbm zcP ⟨rfl,rfl,trivial⟩ rfl rfl ?_;refine aw_buildbox [.tmp 28,.tmp 29,.const (.int .i64 (31)),.tmp 31] (fun e w h=>build_walk rfl e w h) rfl rfl rfl rfl rfl rfl rfl rfl rfl ?_;refine A0 aP ?_;refine CNQR ?_;refine A0 mP ?_;refine A0 (g_mkbp rfl rfl) ?_;refine A0 (g_mb (.inr rfl) rfl) ?_;refine CNQ ?_
      exact aw_reach hreach (()) rfl (hok) rfl (by (repeat refine Fr.le_set ?_ (by first|rfl|(simp;done)));exact Fr.le_none _) (by (repeat refine Hp.le_set ?_ rfl);exact Hp.le_none _) (by (repeat refine Fr.below_setB ?_ rfl);exact Fr.below_none _) (by (repeat refine Hp.below_set ?_ (by decide));exact Hp.below_none _)
  ·
   refine A0 oN ?_;refine qaw ?_;refine qaC ?_;refine qaM ?_;refine qaM ?_;refine A2 ?_;refine qat ?_;refine Ct ?_;refine qaZ ?_
   exact zT rfl rfl (by rw [follow_no (show followOk v high low=false from by unfold followOk;rw [Bool.eq_false_iff.2 g11];rfl)];exact zm rfl) (za rfl (show followOk v high low=false from by unfold followOk;rw [Bool.eq_false_iff.2 g11];rfl).symm)
theorem union_ok (a b:List Int) (h:a.length+b.length≤1000000):Tells P 82 [.val (bsl i64T) a,.val (bsl i64T) b] (.fresh 3 i64T (unionL a b)):=by
 refine zc Tryz.func82 rfl rfl rfl (fun ext w hext=>?_)
 refine ze (d:=0) rfl zk (fun hsl0=>?_)
 refine ze (d:=1) rfl zk (fun hsl1=>?_)
 refine qaX ?_;refine qak ?_;refine A0 (zt (T:=(bsl i64T)) (xs:=[_,_]) rfl sl_239 row_239 ⟨rfl,rfl,rfl,rfl,trivial⟩ rfl rfl) ?_;refine zaA (concatInt [a,b] (by simp;omega)) rfl fn_136 ⟨(zd rfl),trivial⟩ rfl rfl rfl ?_;refine A0 aO ?_;refine CNQ ?_;refine zA (n:=0) (y:=a++b) rfl (by simp) ?_;refine CR ?_;refine A0 mO ?_
 refine zfh (sortInt_ok (a++b) (by simp;omega)) rfl fn_102 rfl trivial trivial rfl ⟨(by first|exact zaN rfl|exact zaM rfl|exact zat rfl|exact zaQ rfl|exact zaO rfl|exact zaP rfl|exact zaL rfl rfl (by decide)),trivial⟩ rfl rfl rfl ?_;refine CNQR ?_;refine A0 mO ?_;refine aw_callc (compactInt (sortInts (a++b)) (by rw [sort_length];simp;omega)) rfl fn_137 rfl trivial ⟨(by first|exact zaN rfl|exact zaM rfl|exact zat rfl|exact zaQ rfl|exact zaO rfl|exact zaP rfl|exact zaL rfl rfl (by decide)),trivial⟩ rfl rfl rfl ?_
 refine qbk ?_
 exact zb rfl rfl (zf rfl rfl rfl)
theorem both_ok (a b:List Int) (h:a.length+b.length≤1000000):Tells P 38 [.val (bsl i64T) a,.val (bsl i64T) b] (.fresh 3 i64T (unionL a b)):=by
 refine zc Tryz.func38 rfl rfl rfl (fun ext w hext=>?_)
 refine ze (d:=0) rfl zk (fun hsl0=>?_)
 refine ze (d:=1) rfl zk (fun hsl1=>?_)
 refine qaX ?_;refine qak ?_;refine zaA (union_ok a b h) rfl fn_82 ⟨(zd rfl),(zd rfl),trivial⟩ rfl rfl rfl ?_;refine qbk ?_
 exact zb rfl rfl (zf rfl rfl rfl)
set_option maxRecDepth 20000
theorem halves_parts {L : List Int} (hL : L.Pairwise (· < ·)) (y : Int) : ∀ lo hi, lo ≤ hi → hi ≤ L.length → (∀ j x, L[j]? = some x → j < lo → x < y) → (∀ j x, L[j]? = some x → hi ≤ j → y ≤ x) →
    halves (fun x=>x-y) L lo hi≤L.length∧(∀j x,L[j]?=some x→j<halves (fun x=>x-y) L lo hi→x<y)∧(∀j x,L[j]?=some x→halves (fun x=>x-y) L lo hi≤j→y≤x):=by
  intro lo hi
  induction lo,hi using halves.induct (fun x=>x-y) L with
  | case1 lo hi hlt hx =>
    intro _ h2 _ _
    rw [List.getElem?_eq_getElem (by omega)] at hx;cases hx
  | case2 lo hi hlt x hx hc ih =>
    intro h1 h2 h3 h4
    rw [halves_lt hlt hx hc]
    refine ih (by omega) h2 (fun j z hz hj=>?_) h4
    by_cases e:j=(lo+hi)/2
    · subst e;rw [hx] at hz;injection hz with hz;omega
    · have:=(zcw hL hz hx).2 (by omega);omega
  | case3 lo hi hlt x hx hc ih =>
    intro h1 h2 h3 h4
    rw [halves_ge hlt hx hc]
    refine ih (by omega) (by omega) h3 (fun j z hz hj=>?_)
    by_cases e:j=(lo+hi)/2
    · subst e;rw [hx] at hz;injection hz with hz;omega
    · have:=(zcw hL hx hz).2 (by omega);omega
  | case4 lo hi hlt =>
    intro h1 h2 h3 h4
    have e:hi=lo:=by omega
    subst e
    rw [zbn]
    exact ⟨h2,h3,h4⟩
def placeIn (L:List Int) (q:Int):Nat:=halves (fun x=>x-q) L 0 L.length
def isIn (L:List Int) (q:Int):Bool:=foundAt (fun x=>x-q) L (placeIn L q)
theorem bsPl_ok (L:List Int) (q:Int) (hl:L.length<4611686018427387904):Tells P 36 [.val (bsl i64T) L,.val i64T q] (.tup2 (.val i64T (placeIn L q:Nat)) (.val boolT (isIn L q))):=bsInt_ok L q hl
theorem placeIn_spec {L:List Int} (hL:L.Pairwise (· < ·)) (q:Int):placeIn L q≤L.length∧(∀j x,L[j]?=some x→j<placeIn L q→x<q)∧(∀j x,L[j]?=some x→placeIn L q≤j→q≤x) :=
  halves_parts hL q 0 L.length (Nat.zero_le _) (Nat.le_refl _) (fun j x _ h=>absurd h (Nat.not_lt_zero _)) (fun j x hx h=>by rw [List.getElem?_eq_none h] at hx;cases hx)
theorem isIn_iff {L:List Int} (hL:L.Pairwise (· < ·)) (q:Int):isIn L q=true↔q∈L:=by
  obtain ⟨h1,h2,h3⟩:=placeIn_spec hL q
  unfold isIn foundAt
  constructor
  · intro h
    cases hx:L[placeIn L q]? with
    | none=>rw [hx] at h;cases h
    | some x =>
      rw [hx] at h
      have h5:x-q=0:=of_decide_eq_true h
      have e:x=q:=by omega
      rw [←e];exact List.mem_of_getElem? hx
  · intro h
    obtain ⟨j,hj⟩:=List.getElem?_of_mem h
    have hnl:¬j<placeIn L q:=fun c=>by have:=h2 j q hj c;omega
    have hjl:=(List.getElem?_eq_some_iff.1 hj).1
    obtain ⟨x,hx⟩:∃x,L[placeIn L q]?=some x:=⟨_,List.getElem?_eq_getElem (by omega)⟩
    have hqx:=h3 _ x hx (Nat.le_refl _)
    have:x=q:=by
      by_cases e:placeIn L q=j
      · rw [e,hj] at hx;injection hx with hx;exact hx.symm
      · have:=(zcw hL hx hj).2 (by omega);omega
    rw [hx]
    exact decide_eq_true (show x-q=0 by omega)
def wayL (v L:List Int) (q:Int):List Int:=if isIn L q=true then L else unionL L (unionL (followL v (L.getD (placeIn L q) 0) q) (followL v q (L.getD (placeIn L q-1) 0)))
def zcm (l:List Block) (m k q:Int):List Int:=wayL (levelsOf l) (placesOf l m k) q
def wiE (l:List Block) (m k q:Int):Int:=if ¬prE l m k=0 then prE l m k else if q<0∨(l.length:Int)-k≤q then 1 else 0
def wiOf (l:List Block) (m k q:Int):Proof:=if wiE l m k q=0 then ⟨m,k,(zcm l m k q).map (prPart l)⟩ else zProof
theorem wi_no {l:List Block} {m k q:Int} (h:¬wiE l m k q=0):wiOf l m k q=zProof:=by unfold wiOf;rw [if_neg h]
section
variable {l:List Block} {m k q:Int}
theorem zeV (h : BuildOk l m k) (h0 : 0 ≤ q) (h1 : q < (l.length : Int) - k) (hn : ¬ isIn (placesOf l m k) q = true) :
    ∃x y,1≤placeIn (placesOf l m k) q∧(placesOf l m k)[placeIn (placesOf l m k) q-1]?=some x∧(placesOf l m k)[placeIn (placesOf l m k) q]?=some y∧0≤x∧x<q∧q<y∧y<l.length:=by
  have hr:=zay h
  obtain ⟨p1,p2,p3⟩:=placeIn_spec hr q
  rw [isIn_iff hr] at hn
  have hf:=places_first h
  have hl:=places_last h
  have hk:=h.k1
  have hi:1≤placeIn (placesOf l m k) q:=Nat.pos_of_ne_zero fun e=>by
    have:=p3 0 0 hf (by omega)
    exact hn (by rw [show q=0 by omega];exact List.mem_of_getElem? hf)
  have hne:(placesOf l m k).length≠0:=fun e=>by rw [List.length_eq_zero_iff.1 e] at hf;cases hf
  have hi2:placeIn (placesOf l m k) q<(placesOf l m k).length:=Nat.lt_of_not_le fun c=>by
    have:=p2 _ _ hl (by omega)
    omega
  obtain ⟨x,hx⟩:∃x,(placesOf l m k)[placeIn (placesOf l m k) q-1]?=some x:=⟨_,List.getElem?_eq_getElem (by omega)⟩
  obtain ⟨y,hy⟩:∃y,(placesOf l m k)[placeIn (placesOf l m k) q]?=some y:=⟨_,List.getElem?_eq_getElem hi2⟩
  have hx1:=p2 _ x hx (by omega)
  have hy1:=p3 _ y hy (Nat.le_refl _)
  have hy2:y≠q:=fun e=>hn (by rw [←e];exact List.mem_of_getElem? hy)
  have hxm:=zbV ⟨h.k1,h.kl⟩ (List.mem_of_getElem? hx)
  have hym:=zbV ⟨h.k1,h.kl⟩ (List.mem_of_getElem? hy)
  exact ⟨x,y,hi,hx,hy,hxm.1,hx1,by omega,hym.2⟩
theorem compact_mem (L:List Int) (x:Int):x∈compactL L↔x∈L:=by
  refine snoc_indI (p:=fun L=>x∈compactL L↔x∈L) Iff.rfl (fun L y ih=>?_) L
  show x∈compactL (L++[y])↔x∈L++[y]
  rw [zdh]
  unfold cstep
  split
  · rename_i c
    rw [ih,List.mem_append,List.mem_singleton]
    refine ⟨.inl,fun h=>h.elim id fun e=>?_⟩
    rw [e,←ih] at *
    rw [compact_last] at c
    exact List.mem_of_getLast? c
  · rw [List.mem_append,ih,List.mem_append]
theorem union_mem {a b:List Int} {x:Int}:x∈unionL a b↔x∈a∨x∈b:=by
  unfold unionL
  rw [compact_mem,sort_mem,List.mem_append]
theorem compact_rising (L:List Int) (h:L.Pairwise fun a b=>a≤b):(compactL L).Pairwise (· < ·):=by
  revert h
  refine snoc_indI (p:=fun L=>(L.Pairwise fun a b=>a≤b)→(compactL L).Pairwise (· < ·)) (fun _=>List.Pairwise.nil) (fun L y ih h=>?_) L
  rw [List.pairwise_append] at h
  have hi:=ih h.1
  rw [zdh]
  unfold cstep
  split
  · exact hi
  · rename_i c
    rw [List.pairwise_append]
    refine ⟨hi,List.pairwise_singleton ..,fun a ha b hb=>?_⟩
    rw [List.mem_singleton] at hb
    subst hb
    have h1:=h.2.2 a ((compact_mem L a).1 ha) b (List.mem_singleton.2 rfl)
    have hne:compactL L≠[]:=fun e=>by rw [e] at ha;cases ha
    obtain ⟨z,hz⟩:∃z,(compactL L).getLast?=some z:=⟨_,List.getLast?_eq_some_getLast hne⟩
    have hzm:z∈L:=(compact_mem L z).1 (List.mem_of_getLast? hz)
    have h2:=h.2.2 z hzm b (List.mem_singleton.2 rfl)
    have hzb:z≠b:=fun e=>c (by rw [hz,e])
    have h3:a≤z:=by
      obtain ⟨i,hi'⟩:=List.getElem?_of_mem ha
      rw [List.getLast?_eq_getElem?] at hz
      have hil:=(List.getElem?_eq_some_iff.1 hi').1
      by_cases e:i=(compactL L).length-1
      · rw [←e,hi'] at hz;injection hz with hz;omega
      · have:=(zcw hi hi' hz).2 (by omega);omega
    omega
theorem union_rising (a b:List Int):(unionL a b).Pairwise (· < ·):=compact_rising _ (zeZ _)
theorem walk_mem (v:List Int) (low:Nat):∀s at_ n,at_+n≤s→low≤at_→∀x∈walkW v low at_ n,(low:Int)≤x∧x<at_
  | 0,at_,n,h,_,x,hx=>by rw [walk_end v (by omega)] at hx;cases hx
  | s+1,at_,n,h,hlo,x,hx=>by
    by_cases c:low<at_
    · by_cases d:backN v n (at_-1)<low
      · cases n with
        | zero=>rw [walkW,dif_pos c,dif_pos d] at hx;cases hx
        | succ n=>rw [walk_down c d] at hx;exact walk_mem v low s at_ n (by omega) hlo x hx
      · rw [walk_step c d] at hx
        have hb:=back_le v n (at_-1)
        rcases List.mem_cons.1 hx with e|hx
        · rw [e];omega
        · have:=walk_mem v low s (backN v n (at_-1)) n (by omega) (by omega) x hx;omega
    · rw [walk_end v c] at hx;cases hx
theorem follow_mem {v:List Int} {high low x:Int} (h:x∈followL v high low):low≤x∧x≤high:=by
  unfold followL at h
  split at h
  · rename_i c
    obtain ⟨_,h2,_,h4,h5,h6⟩:=ze9 c
    rw [List.mem_reverse] at h
    rcases List.mem_cons.1 h with e|h
    · rw [e];omega
    · have:=walk_mem v low.toNat _ high.toNat 31 (Nat.le_refl _) (by omega) x h;omega
  · cases h
theorem follow_high {v:List Int} {high low:Int} (h:followOk v high low=true):high∈followL v high low:=by
  unfold followL
  rw [if_pos h,List.mem_reverse]
  exact List.mem_cons_self ..
theorem way_len (L:List Int) (v:List Int) (q:Int):(wayL v L q).length≤L.length+402:=by
  unfold wayL
  split
  · omega
  · have h1:=union_len L (unionL (followL v (L.getD (placeIn L q) 0) q) (followL v q (L.getD (placeIn L q-1) 0)))
    have h2:=union_len (followL v (L.getD (placeIn L q) 0) q) (followL v q (L.getD (placeIn L q-1) 0))
    have h3:=zdS v (L.getD (placeIn L q) 0) q
    have h4:=zdS v q (L.getD (placeIn L q-1) 0)
    omega
theorem with_mem (h:BuildOk l m k) (h0:0≤q) (h1:q<(l.length:Int)-k) {x:Int} (hx:x∈zcm l m k q):0≤x∧x<l.length:=by
  unfold zcm wayL at hx
  split at hx
  · exact zbV ⟨h.k1,h.kl⟩ hx
  · rename_i c
    obtain ⟨a,b,hi,ha,hb,h2,h3,h4,h5⟩:=zeV h h0 h1 c
    rw [List.getD_eq_getElem?_getD,List.getD_eq_getElem?_getD,ha,hb,union_mem,union_mem] at hx
    rcases hx with hx|hx|hx
    · exact zbV ⟨h.k1,h.kl⟩ hx
    · have:q≤x∧x≤b:=follow_mem hx;omega
    · have:a≤x∧x≤q:=follow_mem hx;omega
theorem with_rising (h:BuildOk l m k):(zcm l m k q).Pairwise (· < ·):=by
  unfold zcm wayL
  split
  · exact zay h
  · exact union_rising ..
theorem with_all {x:Int} (hx:x∈placesOf l m k):x∈zcm l m k q:=by
  unfold zcm wayL
  split
  · exact hx
  · exact union_mem.2 (.inl hx)
theorem with_it (h:BuildOk l m k) (h0:0≤q) (h1:q<(l.length:Int)-k):q∈zcm l m k q:=by
  unfold zcm wayL
  split
  · rename_i c
    exact (isIn_iff (zay h) q).1 c
  · rename_i c
    obtain ⟨a,b,hi,ha,hb,h2,h3,h4,h5⟩:=zeV h h0 h1 c
    rw [List.getD_eq_getElem?_getD,List.getD_eq_getElem?_getD,ha,hb]
    refine union_mem.2 (.inr (union_mem.2 (.inr (follow_high ?_))))
    unfold followOk
    rw [chain_mayV (zfe h.c),decide_eq_true];rfl
    have hk:=h.k1
    show 0≤a∧a≤q∧q<((levelsOf l).length:Int)
    rw [zbs];omega
end
def proverB:GoT (List Block×Int×Int×List Int×List Int):=pairT (bsl blockT) (pairT i64T (pairT i64T (pairT (sl i64T) (sl i64T))))
theorem join_prover {l:List Block} {m k:Int} {v p:List Int}:JoinOk proverB (l,m,k,v,p) [.val (bsl blockT) l,.val i64T m,.val i64T k,.val (sl i64T) v] i64T p:=zd2 (zd2 (zd2 (zd2 join_last)))
theorem split_proverB {l:List Block} {m k:Int} {v p:List Int}:SplitOk proverB (l,m,k,v,p) [.val (bsl blockT) l,.val i64T m,.val i64T k,.val (sl i64T) v,.val (sl i64T) p]:=zbl zbw (zbl zbw (zbl zbw (zbl zbw zbw)))
theorem prWith_ok (l:List Block) (m k q:Int) (hl:smallC l):Tells P 16 [.val (bsl blockT) l,.val i64T m,.val i64T k,.val i64T q] (.tup2 (.val proofT (wiOf l m k q)) (.val i64T (wiE l m k q))):=by
 have hll:=hl.1
 refine zc Tryz.func16 rfl rfl rfl (fun ext w hext=>?_)
 refine ze (d:=0) rfl zk (fun hsl0=>?_)
 refine ze (d:=1) rfl zn (fun hin1=>?_)
 refine ze (d:=2) rfl zn (fun hin2=>?_)
 refine ze (d:=3) rfl zn (fun hin3=>?_)
 refine CQR ?_;refine zw zcL rfl rfl rfl rfl ?_;refine qad ?_;refine qak ?_;refine zU rfl rfl rfl rfl Tryz.func31 fn_31 rfl rfl (fun ia1 iok1=>?_)
 refine qao ?_;refine qai ?_;refine A0 (oCl (check_ok l hl) rfl fn_26 ⟨(zd rfl),trivial⟩) ?_;refine A0 mX ?_;refine A0 (by first|exact zN rfl rfl|exact zM rfl rfl) ?_;refine A0 (by first|exact zQ rfl rfl|exact zP rfl rfl) ?_;refine qbx ?_;refine qa4 ?_;refine qad ?_;refine qaS ?_;refine zr (p:=¬(checkOf l).2=0) rfl (by simp [IntL.toI]) (fun ht18=>?_) (fun ht18=>?_)
 ·
  refine qa1 ?_;refine A0 aL ?_;refine qac ?_;refine zbH rfl ?_;refine A0 (by first|exact zdd (.inl rfl) rfl|exact zdc (.inl rfl) rfl) ?_;refine A0 (by first|exact zN rfl rfl|exact zM rfl rfl) ?_;refine A0 (by first|exact zQ rfl rfl|exact zP rfl rfl) ?_;refine qav ?_;refine aw_if_t rfl (by simp;exact ht18) ?_;refine CQR ?_;refine A0 (zC rfl zcL zdM .nil rfl) ?_;refine qbl ?_
  exact zz rfl rfl (zF rfl rfl zaH (by rw [wi_no (by unfold wiE prE;rw [if_pos ht18,if_pos ht18];exact ht18)])) (zaf (za rfl (by unfold wiE prE;rw [if_pos ht18,if_pos ht18])))
 ·
  refine qbv ?_;refine A0 zbx ?_;refine qaw ?_;refine Sp (d:=22) (p:=m<1) (fun g22=>?_) (fun g22=>?_)
  ·
   refine qaC ?_;refine qae ?_;refine qaC ?_;refine qae ?_;refine A2 ?_;refine qay ?_;refine qat ?_;refine Ct ?_;refine qaZ ?_;refine zbH rfl ?_;refine A0 (by first|exact zdd (.inl rfl) rfl|exact zdc (.inl rfl) rfl) ?_;refine A0 (by first|exact zN rfl rfl|exact zM rfl rfl) ?_;refine A0 (by first|exact zQ rfl rfl|exact zP rfl rfl) ?_;refine qav ?_;refine Ct ?_;refine CQR ?_;refine A0 (zC rfl zcL zdM .nil rfl) ?_;refine qbl ?_
   exact zz rfl rfl (zF rfl rfl zaH (by rw [wi_no (by rw [show wiE l m k q=1 by unfold wiE;rw [if_pos (by unfold prE;rw [if_neg (by omega),if_pos (by omega)];decide)];unfold prE;rw [if_neg (by omega),if_pos (by omega)]];decide)])) (zaf (za rfl ((show wiE l m k q=1 by unfold wiE;rw [if_pos (by unfold prE;rw [if_neg (by omega),if_pos (by omega)];decide)];unfold prE;rw [if_neg (by omega),if_pos (by omega)]).symm)))
  ·
   refine A1 mV ?_;refine A1 zaI ?_;refine qae ?_;refine Sp (d:=26) (p:=20<m) (fun g26=>?_) (fun g26=>?_)
   ·
    refine qaC ?_;refine qae ?_;refine A2 ?_;refine qay ?_;refine qat ?_;refine Ct ?_;refine qaZ ?_;refine zbH rfl ?_;refine A0 (by first|exact zdd (.inl rfl) rfl|exact zdc (.inl rfl) rfl) ?_;refine A0 (by first|exact zN rfl rfl|exact zM rfl rfl) ?_;refine A0 (by first|exact zQ rfl rfl|exact zP rfl rfl) ?_;refine qav ?_;refine Ct ?_;refine CQR ?_;refine A0 (zC rfl zcL zdM .nil rfl) ?_;refine qbl ?_
    exact zz rfl rfl (zF rfl rfl zaH (by rw [wi_no (by rw [show wiE l m k q=1 by unfold wiE;rw [if_pos (by unfold prE;rw [if_neg (by omega),if_pos (by omega)];decide)];unfold prE;rw [if_neg (by omega),if_pos (by omega)]];decide)])) (zaf (za rfl ((show wiE l m k q=1 by unfold wiE;rw [if_pos (by unfold prE;rw [if_neg (by omega),if_pos (by omega)];decide)];unfold prE;rw [if_neg (by omega),if_pos (by omega)]).symm)))
   ·
    refine A1 mV ?_;refine A1 zbx ?_;refine qae ?_;refine Sp (d:=30) (p:=k<1) (fun g30=>?_) (fun g30=>?_)
    ·
     refine A2 ?_;refine qay ?_;refine qat ?_;refine Ct ?_;refine qaZ ?_;refine zbH rfl ?_;refine A0 (by first|exact zdd (.inl rfl) rfl|exact zdc (.inl rfl) rfl) ?_;refine A0 (by first|exact zN rfl rfl|exact zM rfl rfl) ?_;refine A0 (by first|exact zQ rfl rfl|exact zP rfl rfl) ?_;refine qav ?_;refine Ct ?_;refine CQR ?_;refine A0 (zC rfl zcL zdM .nil rfl) ?_;refine qbl ?_
     exact zz rfl rfl (zF rfl rfl zaH (by rw [wi_no (by rw [show wiE l m k q=1 by unfold wiE;rw [if_pos (by unfold prE;rw [if_neg (by omega),if_pos (by omega)];decide)];unfold prE;rw [if_neg (by omega),if_pos (by omega)]];decide)])) (zaf (za rfl ((show wiE l m k q=1 by unfold wiE;rw [if_pos (by unfold prE;rw [if_neg (by omega),if_pos (by omega)];decide)];unfold prE;rw [if_neg (by omega),if_pos (by omega)]).symm)))
    ·
     refine A1 mV ?_;refine A1 zaI ?_;refine qae ?_;refine Sp (d:=34) (p:=20<k) (fun g34=>?_) (fun g34=>?_)
     ·
      refine qab ?_;refine A2 ?_;refine qat ?_;refine Ct ?_;refine qaZ ?_;refine zbH rfl ?_;refine A0 (by first|exact zdd (.inl rfl) rfl|exact zdc (.inl rfl) rfl) ?_;refine A0 (by first|exact zN rfl rfl|exact zM rfl rfl) ?_;refine A0 (by first|exact zQ rfl rfl|exact zP rfl rfl) ?_;refine qav ?_;refine Ct ?_;refine CQR ?_;refine A0 (zC rfl zcL zdM .nil rfl) ?_;refine qbl ?_
      exact zz rfl rfl (zF rfl rfl zaH (by rw [wi_no (by rw [show wiE l m k q=1 by unfold wiE;rw [if_pos (by unfold prE;rw [if_neg (by omega),if_pos (by omega)];decide)];unfold prE;rw [if_neg (by omega),if_pos (by omega)]];decide)])) (zaf (za rfl ((show wiE l m k q=1 by unfold wiE;rw [if_pos (by unfold prE;rw [if_neg (by omega),if_pos (by omega)];decide)];unfold prE;rw [if_neg (by omega),if_pos (by omega)]).symm)))
     ·
      refine A1 mV ?_;refine A1 (zR rfl rfl zcQ) ?_;refine A1 mV ?_;refine A1 zcN ?_;refine qat ?_;refine Cf (p:=l.length≤k) (fun ht39=>?_) (fun ht39=>?_)
      ·
       refine qaZ ?_;refine zbH rfl ?_;refine A0 (by first|exact zdd (.inl rfl) rfl|exact zdc (.inl rfl) rfl) ?_;refine A0 (by first|exact zN rfl rfl|exact zM rfl rfl) ?_;refine A0 (by first|exact zQ rfl rfl|exact zP rfl rfl) ?_;refine qav ?_;refine Ct ?_;refine CQR ?_;refine A0 (zC rfl zcL zdM .nil rfl) ?_;refine qbl ?_
       exact zz rfl rfl (zF rfl rfl zaH (by rw [wi_no (by rw [show wiE l m k q=1 by unfold wiE;rw [if_pos (by unfold prE;rw [if_neg (by omega),if_pos (by omega)];decide)];unfold prE;rw [if_neg (by omega),if_pos (by omega)]];decide)])) (zaf (za rfl ((show wiE l m k q=1 by unfold wiE;rw [if_pos (by unfold prE;rw [if_neg (by omega),if_pos (by omega)];decide)];unfold prE;rw [if_neg (by omega),if_pos (by omega)]).symm)))
      ·
       have hpl:=ze2 (levelsOf l) m k
       refine CSQR ?_;refine qak ?_;refine qak ?_;refine A0 (oCl (zp (levels_ok l (by omega))) rfl fn_25 ⟨(zd rfl),trivial⟩) ?_;refine A0 (zC rfl zn_prover bd_82 (.cons fd_82_0 (Lens.fst _ _) ty_22 rfl (.cons fd_82_1 ((Lens.snd _ _).comp (Lens.fst _ _)) ty_3 rfl (.cons fd_82_2 ((Lens.snd _ _).comp ((Lens.snd _ _).comp (Lens.fst _ _))) ty_3 rfl (.cons fd_82_3 ((Lens.snd _ _).comp ((Lens.snd _ _).comp ((Lens.snd _ _).comp (Lens.fst _ _)))) zb6 rfl .nil)))) rfl) ?_;refine aw_box rfl rfl rfl rfl rfl ?_;refine A0 aP ?_;refine CN ?_
       refine zdk 2 (x:=(l,m,k,levelsOf l,())) split_prover rfl ?_;refine zcl 2 3 i64T [.val (bsl blockT) l,.val i64T m,.val i64T k,.val (sl i64T) (levelsOf l)] rfl (by intro x hx;simp only [List.mem_cons,List.not_mem_nil,or_false] at hx;rcases hx with rfl|rfl|rfl|rfl<;>trivial) ?_;refine CQR ?_;refine A0 mP ?_;refine A0 mP ?_;refine A0 (g_nc rfl rfl) ?_;refine A0 (oFp fd_82_3) ?_;refine A0 (zo rfl rfl rfl rfl rfl zb6) ?_;refine qak ?_;refine aw_callf2 (prefix_ok (levelsOf l) m k) rfl fn_24 ⟨(zd rfl),(zd rfl),(zd rfl),trivial⟩ flat_bool rfl rfl rfl ?_
       refine A0 (by first|exact zdd (.inl rfl) rfl|exact zdc (.inl rfl) rfl) ?_;refine A0 (by first|exact zN rfl rfl|exact zM rfl rfl) ?_;refine A0 (by first|exact zQ rfl rfl|exact zP rfl rfl) ?_;refine A0 (g_nc rfl rfl) ?_;refine A0 (oFp zcC) ?_;refine zaj rfl rfl rfl rfl rfl rfl rfl rfl rfl rfl zb6 ?_;refine CNQQR ?_;refine qak ?_;refine CNB ?_;refine zA (n:=4) (y:=(prefixOf (levelsOf l) m k).1++(List.range 0).map fun j:Nat=>(l.length:Int)-k+(j:Int)) rfl (by simp) ?_
       refine Lp (ι:=Nat) 5 (fun (i:Nat)=>(((((Fr.none).set 0 (.val (bsl blockT) l)).set 2 (.val i64T k)).set 10 (.ptr 2 0)).set 60 (.val i64T k)).set 61 (.val i64T (i:Int))) (fun (i:Nat)=>(((Hp.none).set 0 (.box 25 proofT zProof)).set 2 (.parts 82 ([.val (bsl blockT) l,.val i64T m,.val i64T k,.val (sl i64T) (levelsOf l)]++[.own 4]))).set 4 (.row 3 i64T ((prefixOf (levelsOf l) m k).1++(List.range i).map fun j:Nat=>(l.length:Int)-k+(j:Int)))) (fun (i:Nat)=>(i:Int)≤k) (fun (i:Nat)=>k.toNat-i) (0) (by simp;omega) ?_
       intro i hi
       refine qaj ?_;refine Cf (p:=(i:Int)<k) (fun ht62=>?_) (fun ht62=>?_)
       ·
        refine qaP ?_;refine qbG ?_;refine A0 mP ?_;refine A0 mP ?_;refine A0 (g_nc rfl rfl) ?_;refine A0 (oFp zcC) ?_;refine A0 (zo rfl rfl rfl rfl rfl zb6) ?_;refine qaw ?_;refine A0 (zR rfl rfl zcQ) ?_;refine qbA ?_;refine qaY ?_;refine A0 (zt (T:=i64T) (xs:=[_]) rfl zbm zcP ⟨rfl,rfl,trivial⟩ rfl rfl) ?_;refine zD rfl rfl rfl rfl rfl rfl rfl zcP (by simp;omega) ?_;refine A0 (g_nc rfl rfl) ?_;refine A0 (oFp zcC) ?_;refine zaj rfl rfl rfl rfl rfl rfl rfl rfl rfl rfl zb6 ?_;refine qaW ?_;refine zaG 5 4 6 rfl rfl rfl rfl rfl rfl ?_
        refine zA (n:=4) (y:=(prefixOf (levelsOf l) m k).1++(List.range (i+1)).map fun j:Nat=>(l.length:Int)-k+(j:Int)) rfl (by rw [List.range_succ,List.map_append];simp) ?_
        exact Nx (i+1) (by omega) (by omega)
       ·
        refine CE ?_;refine CQ ?_
        obtain ⟨PL,hPL⟩:∃PL,PL=placesOf l m k:=⟨_,rfl⟩
        refine zA (n:=4) (y:=PL) rfl (by rw [hPL];unfold placesOf;rw [show k.toNat=i by omega]) ?_
        have hpm:∀x∈PL,0≤x∧x<l.length:=fun x hx=>zbV (by omega) (hPL▸hx)
        have hpn:PL.length≤220:=hPL▸places_length (by omega)
        refine CR ?_;refine A0 mP ?_;refine A0 aP ?_;refine qac ?_;refine zbH rfl ?_;refine A0 (by first|exact zdd (.inl rfl) rfl|exact zdc (.inl rfl) rfl) ?_;refine A0 (by first|exact zN rfl rfl|exact zM rfl rfl) ?_;refine A0 (by first|exact zQ rfl rfl|exact zP rfl rfl) ?_;refine A0 aP ?_;refine A0 aX ?_;refine CNQQR ?_;refine A0 mX ?_;refine qaS ?_;refine Cg ?_;refine CS ?_;refine CQ ?_;refine CQ ?_
        have hpe:prE l m k=0:=by unfold prE;rw [if_neg (by omega),if_neg (by omega)]
        have hbo:=zbZ hpe
        refine CR ?_;refine qaw ?_;refine A0 zbx ?_;refine Sp (d:=30) (p:=q<0) (fun g30=>?_) (fun g30=>?_)
        ·
         refine qbJ ?_;refine qab ?_;refine qat ?_;refine Ct ?_;refine CQR ?_;refine A0 (zC rfl zcL zdM .nil rfl) ?_;refine qah ?_;refine qac ?_
         exact zz rfl rfl (zF rfl rfl zaH (by rw [wi_no (by rw [show wiE l m k q=1 by unfold wiE;rw [if_neg (fun h=>h hpe),if_pos (by omega)]];decide)])) (zaf (za rfl ((show wiE l m k q=1 by unfold wiE;rw [if_neg (fun h=>h hpe),if_pos (by omega)]).symm)))
        ·
         refine qaw ?_;refine qaH ?_;refine A1 (zR rfl rfl zcQ) ?_;refine A1 mV ?_;refine A1 zaT ?_;refine A1 zcU ?_;refine qat ?_;refine Cf (p:=(l.length:Int)-k≤q) (fun ht38=>?_) (fun ht38=>?_)
         ·
          refine CQR ?_;refine A0 (zC rfl zcL zdM .nil rfl) ?_;refine qah ?_;refine qac ?_
          exact zz rfl rfl (zF rfl rfl zaH (by rw [wi_no (by rw [show wiE l m k q=1 by unfold wiE;rw [if_neg (fun h=>h hpe),if_pos (by omega)]];decide)])) (zaf (za rfl ((show wiE l m k q=1 by unfold wiE;rw [if_neg (fun h=>h hpe),if_pos (by omega)]).symm)))
         ·
          refine CS ?_;refine CQ ?_;refine aw_joinb 2 4 [.val (bsl blockT) l,.val i64T m,.val i64T k,.val (sl i64T) (levelsOf l)] (z:=(l,m,k,levelsOf l,PL)) (R:=proverB) rfl rfl rfl join_prover ?_;refine zdk 2 (x:=(l,m,k,levelsOf l,PL)) split_proverB rfl ?_;refine CR ?_;refine A0 mP ?_;refine A0 (g_nc rfl rfl) ?_;refine A0 (oFp zcC) ?_;refine A0 (zo rfl rfl rfl rfl rfl zb6) ?_;refine qaw ?_;refine A0 (oCl (bsPl_ok PL q (by omega)) rfl fn_36 ⟨(zd rfl),(zd rfl),trivial⟩) ?_;refine A0 mX ?_;refine A0 (by first|exact zN rfl rfl|exact zM rfl rfl) ?_
          refine A0 (by first|exact zQ rfl rfl|exact zP rfl rfl) ?_;refine A0 aV ?_;refine qai ?_;refine qaN ?_;refine zr (p:=¬isIn PL q=true) rfl (by simp) (fun ht50=>?_) (fun ht50=>?_)
          ·
           refine CQ ?_
           have hyl2:placeIn (placesOf l m k) q<(placesOf l m k).length:=Nat.lt_of_not_le fun c=>by obtain ⟨_,_,_,_,h,_⟩:=zeV hbo (by omega) (by omega) (hPL▸ht50);rw [List.getElem?_eq_none c] at h;cases h
           rw [←hPL] at hyl2
           obtain ⟨x,y,hi1,hx,hy,hx0,hxq,hqy,hyl⟩:=zeV hbo (by omega) (by omega) (hPL▸ht50)
           rw [←hPL] at hi1 hx hy
           refine CD mixed ?_;refine G0 mP ?_;refine G0 (g_nc rfl rfl) ?_;refine G0 (oFp fd_82_3) ?_;refine G0 (zo rfl rfl rfl rfl rfl zb6) ?_;refine G0 mP ?_;refine G0 (g_nc rfl rfl) ?_;refine G0 (oFp zcC) ?_;refine G0 (zo rfl rfl rfl rfl rfl zb6) ?_;refine G0 mV ?_;refine G0 (zu (i:=placeIn PL q) rfl rfl rfl (by omega) zbm (by assumption)) ?_;refine G0 (zg rfl rfl ty_3) ?_;refine G0 mV ?_
           refine G0 (oCl (zbT (follow_ok (levelsOf l) y q)) rfl fn_37 ⟨(zd rfl),(by first|exact zB rfl|exact zZ rfl|exact zG rfl rfl|exact zX rfl|exact zx rfl|exact zag rfl rfl|exact zY rfl),(zd rfl),trivial⟩) ?_;refine G0 mX ?_;refine G0 (by first|exact zN rfl rfl|exact zM rfl rfl) ?_;refine G0 (by first|exact zQ rfl rfl|exact zP rfl rfl) ?_;refine G0 aV ?_;refine qbn ?_;refine qbc ?_;refine G0 mP ?_;refine G0 (g_nc rfl rfl) ?_;refine G0 (oFp fd_82_3) ?_;refine G0 (zo rfl rfl rfl rfl rfl zb6) ?_;refine G0 mV ?_;refine G0 mP ?_
           refine G0 (g_nc rfl rfl) ?_;refine G0 (oFp zcC) ?_;refine G0 (zo rfl rfl rfl rfl rfl zb6) ?_;refine G0 mV ?_;refine G0 (g_sub rfl rfl rfl (show _=(((placeIn PL q-1:Nat):Int):Int) from (zaa (by omega)).trans (by omega))) ?_;refine G0 (zu (i:=placeIn PL q-1) rfl rfl rfl (by omega) zbm (by assumption)) ?_;refine G0 (zg rfl rfl ty_3) ?_
           refine G0 (oCl (zbT (follow_ok (levelsOf l) q x)) rfl fn_37 ⟨(zd rfl),(zd rfl),(by first|exact zB rfl|exact zZ rfl|exact zG rfl rfl|exact zX rfl|exact zx rfl|exact zag rfl rfl|exact zY rfl),trivial⟩) ?_;refine G0 mX ?_;refine G0 (by first|exact zN rfl rfl|exact zM rfl rfl) ?_;refine G0 (by first|exact zQ rfl rfl|exact zP rfl rfl) ?_;refine G0 aV ?_;refine qbn ?_;refine zE [some 1,some 1,some 1,some 1,some 1,some 1,some 1,some 1,some 1,some 1,some 1,none] mixed (by decide +kernel) ?_;refine X0 mP ?_;refine X0 mP ?_
           refine X0 (g_nc rfl rfl) ?_;refine X0 (oFp zcC) ?_;refine X0 (zo rfl rfl rfl rfl rfl zb6) ?_;refine qbT ?_;refine X0 (oCl (zp (both_ok (followL (levelsOf l) y q) (followL (levelsOf l) q x) (by have h1:=zdS (levelsOf l) y q;have h2:=zdS (levelsOf l) q x;omega))) rfl fn_38 ⟨(zd rfl),(zd rfl),trivial⟩) ?_
           refine X0 (oCl (zp (both_ok PL (unionL (followL (levelsOf l) y q) (followL (levelsOf l) q x)) (by have h1:=zdS (levelsOf l) y q;have h2:=zdS (levelsOf l) q x;have h3:=union_len (followL (levelsOf l) y q) (followL (levelsOf l) q x);omega))) rfl fn_38 ⟨(zd rfl),(zd rfl),trivial⟩) ?_;refine X0 (g_nc rfl rfl) ?_;refine X0 (oFp zcC) ?_;refine XK.e (x:=.idk) (fun fr' hfr kk H=>by exact zaj rfl rfl rfl ((hfr 94 (by decide +kernel)).trans rfl) rfl rfl ((hfr 92 (by decide +kernel)).trans rfl) rfl rfl rfl zb6 (zK H)) ?_;refine XK.nil' ?_;refine CQ ?_
           obtain ⟨WL,hWL⟩:∃WL,WL=zcm l m k q:=⟨_,rfl⟩
           have hwe:wiE l m k q=0:=by unfold wiE;rw [if_neg (fun h=>h hpe),if_neg (by omega)]
           have hwm:∀x∈WL,0≤x∧x<l.length:=fun x hx=>with_mem hbo (by omega) (by omega) (hWL▸hx)
           have hwn:WL.length≤622:=by rw [hWL];unfold zcm;have h1:=way_len (placesOf l m k) (levelsOf l) q;have h2:=hpn;rw [hPL] at h2;omega
           first|refine aw_reparts 2 [.val (bsl blockT) l,.val i64T m,.val i64T k,.val (sl i64T) (levelsOf l),.val (sl i64T) WL] rfl (by show [_,_,_,_,AV.val (sl i64T) _]=_;congr 5;rw [hWL];unfold zcm wayL;rw [←hPL,if_neg ht50,List.getD_eq_getElem?_getD,List.getD_eq_getElem?_getD,hx,hy];rfl) ?_|refine aw_reparts 2 [.val (bsl blockT) l,.val i64T m,.val i64T k,.val (sl i64T) (levelsOf l),.val (sl i64T) WL] rfl (by congr 5;rw [hWL];unfold zcm wayL;rw [←hPL,if_pos (Classical.not_not.1 ht50)]) ?_
           refine CR ?_;refine A0 mP ?_;refine zU rfl rfl rfl rfl Tryz.func32 fn_32 rfl rfl (fun ia3 iok3=>?_)
           refine CQR ?_;refine zw zcL rfl rfl rfl rfl ?_;refine CNQ ?_;refine zE [some 1000001,some 1000001,some 1000001,some 1000001,some 1000001,some 1000001,some 1000001,some 1000001,some 1000001,none,none] mixed (by decide +kernel) ?_;refine XK.ga (fun _=>g_mp (.inl rfl) rfl) rfl rfl rfl ?_;refine XK.ga (fun _=>g_nc rfl rfl) rfl rfl rfl ?_;refine XK.ga (fun _=>g_fa_p rfl rfl fd_82_1 rfl) rfl rfl rfl ?_;refine XK.gf (t:=8) rfl rfl (fun _ he=>zo rfl rfl he rfl rfl ty_3) ⟨rfl,trivial⟩ rfl rfl rfl ?_;refine XK.ga (fun _=>g_mp (.inl rfl) rfl) rfl rfl rfl ?_
           refine XK.ga (fun _=>g_nc rfl rfl) rfl rfl rfl ?_;refine XK.ga (fun _=>g_fa_p rfl rfl fd_82_2 rfl) rfl rfl rfl ?_;refine XK.gf (t:=12) rfl rfl (fun _ he=>zo rfl rfl he rfl rfl ty_3) ⟨rfl,trivial⟩ rfl rfl rfl ?_;refine XK.ga (fun _=>zC rfl zn_proof zdM (.cons zcZ (Lens.fst _ _) ty_3 rfl (.cons zcY ((Lens.snd _ _).comp (Lens.fst _ _)) ty_3 rfl .nil)) rfl) rfl rfl rfl ?_;refine XK.e (fun fr' hfr kk H=>by exact zw zn_proof rfl rfl rfl rfl (zK H)) ?_
           refine XK.e (x:=.idk) (fun fr' hfr kk H=>by exact zh rfl rfl rfl ((hfr 3 (by decide +kernel)).trans rfl) rfl (Lens.self _) zaH ((hfr 14 (by decide +kernel)).trans rfl) (zK H)) ?_;refine XK.nilp ⟨⟨rfl,rfl,trivial⟩,⟨rfl,rfl,trivial⟩,trivial⟩ ?_;refine zdk 6 (x:=(m,k,())) zeX rfl ?_;refine zcl 6 55 partT [.val i64T m,.val i64T k] rfl (by intro x hx;simp only [List.mem_cons,List.not_mem_nil,or_false] at hx;rcases hx with rfl|rfl<;>trivial) ?_;refine CQQR ?_;refine A0 mP ?_;refine A0 (g_nc rfl rfl) ?_;refine A0 (oFp zcC) ?_
           refine A0 (zo rfl rfl rfl rfl rfl zb6) ?_;refine qbC ?_;refine qa8 ?_
           refine Lp (ι:=Nat) 8 (fun (i:Nat)=>((((((Fr.none).set 0 (.ptr 2 0)).set 2 (.ptr 5 0)).set 3 (.ptr 6 0)).set 18 (.val (sl i64T) WL)).set 19 (.val i64T (WL.length:Int))).set 20 (.val i64T (i:Int))) (fun (i:Nat)=>(((((Hp.none).set 0 (.box 25 proofT zProof)).set 2 (.parts 82 ([.val (bsl blockT) l,.val i64T m,.val i64T k,.val (sl i64T) (levelsOf l)]++[.val (sl i64T) WL]))).set 5 (.box 25 proofT zProof)).set 6 (.parts 25 [.val i64T m,.val i64T k,.own 7])).set 7 (.row 55 partT ((WL.take i).map (prPart l)))) (fun (i:Nat)=>i≤WL.length) (fun (i:Nat)=>WL.length-i) (0) (Nat.zero_le _) ?_
           intro i hi2
           refine qaj ?_;refine Cf (p:=i<WL.length) (fun ht21=>?_) (fun ht21=>?_)
           ·
            obtain ⟨x,hx⟩:∃x,WL[i]?=some x:=⟨_,List.getElem?_eq_getElem ht21⟩
            have hxb:=hwm x (List.mem_of_getElem? hx)
            obtain ⟨b,hb⟩:∃b,l[x.toNat]?=some b:=⟨_,List.getElem?_eq_getElem (by omega)⟩
            refine CSQBQR ?_;refine A0 (zu (i:=i) rfl rfl rfl (by omega) zbm (by assumption)) ?_;refine qbM ?_;refine qaK ?_;refine zE [some 1,some 1,some 1,some 1,some 1,some 1,some 1,some 1,some 1,some 1,some 1,some 1,some 1,some 1,some 1,some 1,some 1,some 1,some 1,some 1,some 1,none,some 1,none] mixed (by decide +kernel) ?_;refine X0 (oFp zax) ?_;refine X0 (zo rfl rfl rfl rfl rfl zcv) ?_;refine X0 mP ?_;refine X0 (g_nc rfl rfl) ?_;refine X0 (oFp fd_82_0) ?_;refine X0 (zo rfl rfl rfl rfl rfl ty_22) ?_;refine X0 mX ?_
            refine X0 (zu (i:=x.toNat) rfl rfl rfl (by omega) zc8 (by assumption)) ?_;refine X0 (oFr zaw zah) ?_;refine X0 (zg rfl rfl zav) ?_;refine X0 mP ?_;refine X0 (g_nc rfl rfl) ?_;refine X0 (oFp fd_82_0) ?_;refine X0 (zo rfl rfl rfl rfl rfl ty_22) ?_;refine X0 mX ?_;refine X0 (zu (i:=x.toNat) rfl rfl rfl (by omega) zc8 (by assumption)) ?_;refine X0 (oFr zbt zbc) ?_;refine X0 (zg rfl rfl zbI) ?_
            refine X0 (oCl (zp (cloneId b.l (by have:=(hl.2 b (List.mem_of_getElem? hb)).1;constructor<;>omega))) rfl fn_74 ⟨(by first|exact zB rfl|exact zZ rfl|exact zG rfl rfl|exact zX rfl|exact zx rfl|exact zag rfl rfl|exact zY rfl),trivial⟩) ?_;refine X0 (zC rfl ze_55 bd_55 (.cons zbL zb0 zav rfl (.cons zck zc5 zbI rfl .nil)) rfl) ?_;refine X0 (zt (T:=partT) (xs:=[_]) rfl za9 row_23 ⟨rfl,rfl,trivial⟩ rfl rfl) ?_
            refine XK.e (fun fr' hfr kk H=>by exact zD rfl rfl rfl rfl ((hfr 25 (by decide +kernel)).trans rfl) rfl ((hfr 44 (by decide +kernel)).trans rfl) row_23 (by simp;omega) (zK H)) ?_;refine X0 (oFp zax) ?_;refine XK.e (x:=.idk) (fun fr' hfr kk H=>by exact zaj rfl rfl rfl ((hfr 46 (by decide +kernel)).trans rfl) rfl rfl ((hfr 45 (by decide +kernel)).trans rfl) rfl rfl rfl zcv (zK H)) ?_;refine qaJ ?_;refine zaG 8 7 9 rfl rfl rfl rfl rfl rfl ?_
            refine zA (n:=7) (y:=(WL.take (i+1)).map (prPart l)) rfl (by rw [List.take_add_one,hx,List.map_append];simp [prPart,hb]) ?_
            exact Nx (i+1) (by omega) (by omega)
           ·
            refine CE ?_;refine CQ ?_;refine zA (n:=7) (y:=WL.map (prPart l)) rfl (by rw [List.take_of_length_le (by omega)]) ?_;refine aw_joinb 6 7 [.val i64T m,.val i64T k] (z:=(⟨m,k,WL.map (prPart l)⟩:Proof)) (R:=proofT) rfl rfl rfl join_proof ?_;refine CR ?_;refine A0 (oLs rfl rfl rfl zaH) ?_;refine qah ?_;refine CN ?_;refine zdo rfl rfl rfl zaH ?_;refine qah ?_;refine qac ?_
            exact zz rfl rfl (zF rfl rfl zaH (by unfold wiOf;rw [if_pos hwe,hWL])) (zaf (za rfl (hwe.symm)))
          ·
           refine CS ?_;refine CQ ?_
           obtain ⟨WL,hWL⟩:∃WL,WL=zcm l m k q:=⟨_,rfl⟩
           have hwe:wiE l m k q=0:=by unfold wiE;rw [if_neg (fun h=>h hpe),if_neg (by omega)]
           have hwm:∀x∈WL,0≤x∧x<l.length:=fun x hx=>with_mem hbo (by omega) (by omega) (hWL▸hx)
           have hwn:WL.length≤622:=by rw [hWL];unfold zcm;have h1:=way_len (placesOf l m k) (levelsOf l) q;have h2:=hpn;rw [hPL] at h2;omega
           first|refine aw_reparts 2 [.val (bsl blockT) l,.val i64T m,.val i64T k,.val (sl i64T) (levelsOf l),.val (sl i64T) WL] rfl (by show [_,_,_,_,AV.val (sl i64T) _]=_;congr 5;rw [hWL];unfold zcm wayL;rw [←hPL,if_neg ht50,List.getD_eq_getElem?_getD,List.getD_eq_getElem?_getD,hx,hy];rfl) ?_|refine aw_reparts 2 [.val (bsl blockT) l,.val i64T m,.val i64T k,.val (sl i64T) (levelsOf l),.val (sl i64T) WL] rfl (by congr 5;rw [hWL];unfold zcm wayL;rw [←hPL,if_pos (Classical.not_not.1 ht50)]) ?_
           refine CR ?_;refine A0 mP ?_;refine zU rfl rfl rfl rfl Tryz.func32 fn_32 rfl rfl (fun ia5 iok5=>?_)
           refine CQR ?_;refine zw zcL rfl rfl rfl rfl ?_;refine CNQ ?_;refine zE [some 1000001,some 1000001,some 1000001,some 1000001,some 1000001,some 1000001,some 1000001,some 1000001,some 1000001,none,none] mixed (by decide +kernel) ?_;refine XK.ga (fun _=>g_mp (.inl rfl) rfl) rfl rfl rfl ?_;refine XK.ga (fun _=>g_nc rfl rfl) rfl rfl rfl ?_;refine XK.ga (fun _=>g_fa_p rfl rfl fd_82_1 rfl) rfl rfl rfl ?_;refine XK.gf (t:=8) rfl rfl (fun _ he=>zo rfl rfl he rfl rfl ty_3) ⟨rfl,trivial⟩ rfl rfl rfl ?_;refine XK.ga (fun _=>g_mp (.inl rfl) rfl) rfl rfl rfl ?_
           refine XK.ga (fun _=>g_nc rfl rfl) rfl rfl rfl ?_;refine XK.ga (fun _=>g_fa_p rfl rfl fd_82_2 rfl) rfl rfl rfl ?_;refine XK.gf (t:=12) rfl rfl (fun _ he=>zo rfl rfl he rfl rfl ty_3) ⟨rfl,trivial⟩ rfl rfl rfl ?_;refine XK.ga (fun _=>zC rfl zn_proof zdM (.cons zcZ (Lens.fst _ _) ty_3 rfl (.cons zcY ((Lens.snd _ _).comp (Lens.fst _ _)) ty_3 rfl .nil)) rfl) rfl rfl rfl ?_;refine XK.e (fun fr' hfr kk H=>by exact zw zn_proof rfl rfl rfl rfl (zK H)) ?_
           refine XK.e (x:=.idk) (fun fr' hfr kk H=>by exact zh rfl rfl rfl ((hfr 3 (by decide +kernel)).trans rfl) rfl (Lens.self _) zaH ((hfr 14 (by decide +kernel)).trans rfl) (zK H)) ?_;refine XK.nilp ⟨⟨rfl,rfl,trivial⟩,⟨rfl,rfl,trivial⟩,trivial⟩ ?_;refine zdk 6 (x:=(m,k,())) zeX rfl ?_;refine zcl 6 55 partT [.val i64T m,.val i64T k] rfl (by intro x hx;simp only [List.mem_cons,List.not_mem_nil,or_false] at hx;rcases hx with rfl|rfl<;>trivial) ?_;refine CQQR ?_;refine A0 mP ?_;refine A0 (g_nc rfl rfl) ?_;refine A0 (oFp zcC) ?_
           refine A0 (zo rfl rfl rfl rfl rfl zb6) ?_;refine qbC ?_;refine qa8 ?_
           refine Lp (ι:=Nat) 8 (fun (i:Nat)=>((((((Fr.none).set 0 (.ptr 2 0)).set 2 (.ptr 5 0)).set 3 (.ptr 6 0)).set 18 (.val (sl i64T) WL)).set 19 (.val i64T (WL.length:Int))).set 20 (.val i64T (i:Int))) (fun (i:Nat)=>(((((Hp.none).set 0 (.box 25 proofT zProof)).set 2 (.parts 82 ([.val (bsl blockT) l,.val i64T m,.val i64T k,.val (sl i64T) (levelsOf l)]++[.val (sl i64T) WL]))).set 5 (.box 25 proofT zProof)).set 6 (.parts 25 [.val i64T m,.val i64T k,.own 7])).set 7 (.row 55 partT ((WL.take i).map (prPart l)))) (fun (i:Nat)=>i≤WL.length) (fun (i:Nat)=>WL.length-i) (0) (Nat.zero_le _) ?_
           intro i hi2
           refine qaj ?_;refine Cf (p:=i<WL.length) (fun ht21=>?_) (fun ht21=>?_)
           ·
            obtain ⟨x,hx⟩:∃x,WL[i]?=some x:=⟨_,List.getElem?_eq_getElem ht21⟩
            have hxb:=hwm x (List.mem_of_getElem? hx)
            obtain ⟨b,hb⟩:∃b,l[x.toNat]?=some b:=⟨_,List.getElem?_eq_getElem (by omega)⟩
            refine CSQBQR ?_;refine A0 (zu (i:=i) rfl rfl rfl (by omega) zbm (by assumption)) ?_;refine qbM ?_;refine qaK ?_;refine zE [some 1,some 1,some 1,some 1,some 1,some 1,some 1,some 1,some 1,some 1,some 1,some 1,some 1,some 1,some 1,some 1,some 1,some 1,some 1,some 1,some 1,none,some 1,none] mixed (by decide +kernel) ?_;refine X0 (oFp zax) ?_;refine X0 (zo rfl rfl rfl rfl rfl zcv) ?_;refine X0 mP ?_;refine X0 (g_nc rfl rfl) ?_;refine X0 (oFp fd_82_0) ?_;refine X0 (zo rfl rfl rfl rfl rfl ty_22) ?_;refine X0 mX ?_
            refine X0 (zu (i:=x.toNat) rfl rfl rfl (by omega) zc8 (by assumption)) ?_;refine X0 (oFr zaw zah) ?_;refine X0 (zg rfl rfl zav) ?_;refine X0 mP ?_;refine X0 (g_nc rfl rfl) ?_;refine X0 (oFp fd_82_0) ?_;refine X0 (zo rfl rfl rfl rfl rfl ty_22) ?_;refine X0 mX ?_;refine X0 (zu (i:=x.toNat) rfl rfl rfl (by omega) zc8 (by assumption)) ?_;refine X0 (oFr zbt zbc) ?_;refine X0 (zg rfl rfl zbI) ?_
            refine X0 (oCl (zp (cloneId b.l (by have:=(hl.2 b (List.mem_of_getElem? hb)).1;constructor<;>omega))) rfl fn_74 ⟨(by first|exact zB rfl|exact zZ rfl|exact zG rfl rfl|exact zX rfl|exact zx rfl|exact zag rfl rfl|exact zY rfl),trivial⟩) ?_;refine X0 (zC rfl ze_55 bd_55 (.cons zbL zb0 zav rfl (.cons zck zc5 zbI rfl .nil)) rfl) ?_;refine X0 (zt (T:=partT) (xs:=[_]) rfl za9 row_23 ⟨rfl,rfl,trivial⟩ rfl rfl) ?_
            refine XK.e (fun fr' hfr kk H=>by exact zD rfl rfl rfl rfl ((hfr 25 (by decide +kernel)).trans rfl) rfl ((hfr 44 (by decide +kernel)).trans rfl) row_23 (by simp;omega) (zK H)) ?_;refine X0 (oFp zax) ?_;refine XK.e (x:=.idk) (fun fr' hfr kk H=>by exact zaj rfl rfl rfl ((hfr 46 (by decide +kernel)).trans rfl) rfl rfl ((hfr 45 (by decide +kernel)).trans rfl) rfl rfl rfl zcv (zK H)) ?_;refine qaJ ?_;refine zaG 8 7 9 rfl rfl rfl rfl rfl rfl ?_
            refine zA (n:=7) (y:=(WL.take (i+1)).map (prPart l)) rfl (by rw [List.take_add_one,hx,List.map_append];simp [prPart,hb]) ?_
            exact Nx (i+1) (by omega) (by omega)
           ·
            refine CE ?_;refine CQ ?_;refine zA (n:=7) (y:=WL.map (prPart l)) rfl (by rw [List.take_of_length_le (by omega)]) ?_;refine aw_joinb 6 7 [.val i64T m,.val i64T k] (z:=(⟨m,k,WL.map (prPart l)⟩:Proof)) (R:=proofT) rfl rfl rfl join_proof ?_;refine CR ?_;refine A0 (oLs rfl rfl rfl zaH) ?_;refine qah ?_;refine CN ?_;refine zdo rfl rfl rfl zaH ?_;refine qah ?_;refine qac ?_
            exact zz rfl rfl (zF rfl rfl zaH (by unfold wiOf;rw [if_pos hwe,hWL])) (zaf (za rfl (hwe.symm)))
set_option maxRecDepth 20000
theorem equalFPart (l m:List Part):Tells P 54 [.val (bsl partT) l,.val (bsl partT) m,.fn2 P partT partT boolT (fun x y=>decide (x=y))] (.val boolT (decide (l=m))):=by
 refine zc Tryz.func54 rfl rfl rfl (fun ext w hext=>?_)
 refine ze (d:=0) rfl zk (fun hsl0=>?_)
 refine ze (d:=1) rfl zk (fun hsl1=>?_)
 refine CQR ?_;refine qai ?_;refine A0 (zR rfl rfl zdF) ?_;refine qaw ?_;refine A0 (zR rfl rfl zdF) ?_;refine qaS ?_;refine Cf (p:=¬l.length=m.length) (fun ht14=>?_) (fun ht14=>?_)
 ·
  refine qa5 ?_
  exact zb rfl rfl (za rfl (decide_eq_false (fun e=>ht14 (by rw [e]))).symm)
 ·
  refine qbv ?_;refine A0 (zR rfl rfl zdF) ?_;refine qa8 ?_;refine Lp (ι:=Nat) 0 (fun (k:Nat)=>((((((Fr.none).set 0 (.val (bsl partT) l)).set 1 (.val (bsl partT) m)).set 2 (.fn2 P partT partT boolT (fun x y=>decide (x=y)))).set 15 (.val (bsl partT) l)).set 16 (.val i64T (l.length:Int))).set 17 (.val i64T (k:Int))) (fun (k:Nat)=>Hp.none) (fun (k:Nat)=>k≤l.length∧l.take k=m.take k) (fun (k:Nat)=>l.length-k) (0) (⟨Nat.zero_le _,by simp⟩) ?_
  intro k hinv
  refine qaj ?_;refine Cf (p:=k<l.length) (fun ht18=>?_) (fun ht18=>?_)
  ·
   obtain ⟨x,hx⟩:∃x,l[k]?=some x:=⟨_,List.getElem?_eq_getElem ht18⟩
   obtain ⟨y,hy⟩:∃y,m[k]?=some y:=⟨_,List.getElem?_eq_getElem (by omega)⟩
   refine qaP ?_;refine A0 (za0 rfl rfl rfl za9 (by assumption)) ?_;refine A0 (zg rfl rfl ty_55) ?_;refine zw ze_55 rfl rfl rfl rfl ?_;refine A0 aV ?_;refine zh rfl rfl rfl rfl rfl (Lens.self _) ty_55 rfl ?_;refine CNQR ?_;refine qak ?_;refine A0 (za0 rfl rfl rfl za9 (by assumption)) ?_;refine qb0 ?_;refine CNQR ?_;refine A0 mH ?_;refine A0 (oLs rfl rfl rfl ty_55) ?_;refine A0 (oLs rfl rfl rfl ty_55) ?_;refine A0 (g_callf2 rfl rfl (zd rfl) (zd rfl)) ?_;refine qaN ?_;refine zr (p:=¬x=y) rfl (by simp) (fun ht30=>?_) (fun ht30=>?_)
   ·
    refine qa5 ?_
    exact zb rfl rfl (za rfl (decide_eq_false (ne_of_at hx hy ht30)).symm)
   ·
    refine qbh ?_
    exact Nx (k+1) (⟨by omega,zdj hx hy hinv.2 (by simpa using ht30)⟩) (by omega)
  ·
   refine CE ?_;refine qa5 ?_
   exact zb rfl rfl (za rfl (decide_eq_true (by have h:=hinv.2;rw [List.take_of_length_le (by omega),List.take_of_length_le (by omega)] at h;exact h)).symm)
theorem sameParts_ok (x y:Part):Tells P 52 [.val partT x,.val partT y] (.val boolT (decide (x=y))):=by
 refine zc Tryz.func52 rfl rfl rfl (fun ext w hext=>?_)
 refine qa6 ?_;refine qar ?_;refine A0 (oFp zbL) ?_;refine A0 (oLb zb0 zav) ?_;refine A0 (oFp zbL) ?_;refine A0 (oLb zb0 zav) ?_;refine A0 (g_eqlS rfl rfl rfl (eqt_52)) ?_;refine qaw ?_;refine zL (d:=10) (p:=x.h=y.h) rfl (by simp) (fun g10=>?_) (fun g10=>?_)
 ·
  refine A1 (oFp zck) ?_;refine A1 (oLb zc5 zbI) ?_;refine A1 (oFp zck) ?_;refine A1 (oLb zc5 zbI) ?_;refine A1 (oCl (equalId x.l y.l) rfl fn_53 ⟨(zd rfl),(zd rfl),trivial⟩) ?_;refine qa3 ?_
  exact zb rfl rfl (za rfl ((by rw [decide_eq_decide];exact ⟨fun h=>by cases x;cases y;simp_all,fun h=>by rw [h]⟩)))
 ·
  refine qab ?_;refine qaC ?_;refine qa3 ?_
  exact zb rfl rfl (za rfl ((by symm;apply decide_eq_false;intro h;exact g10 (by rw [h]))))
theorem sameP_ok (a b:Proof):Tells P 23 [.val proofT a,.val proofT b] (.val boolT (decide (a=b))):=by
 refine zc Tryz.func23 rfl rfl rfl (fun ext w hext=>?_)
 refine qa6 ?_;refine qar ?_;refine A0 aC ?_;refine CNQR ?_;refine A0 (oFp zcZ) ?_;refine A0 (oLb zeR ty_3) ?_;refine A0 (oFp zcZ) ?_;refine A0 (oLb zeR ty_3) ?_;refine A0 zbf ?_;refine qaw ?_;refine zL (d:=11) (p:=a.m=b.m) rfl (by simp [IntL.toI]) (fun g11=>?_) (fun g11=>?_)
 ·
  refine A1 (oFp zcY) ?_;refine A1 (oLb zeS ty_3) ?_;refine A1 (oFp zcY) ?_;refine A1 (oLb zeS ty_3) ?_;refine A1 zbf ?_;refine qae ?_;refine zL (d:=18) (p:=a.k=b.k) rfl (by simp [IntL.toI]) (fun g18=>?_) (fun g18=>?_)
  ·
   refine A1 (oFp zax) ?_;refine A1 (oLb zaB zcv) ?_;refine A1 (oFp zax) ?_;refine A1 (oLb zaB zcv) ?_;refine A1 mC ?_;refine A1 (oCl (equalFPart a.p b.p) rfl fn_54 ⟨(zd rfl),(zd rfl),(by first|exact zcH (Cs:=[]) rfl fn_52 (by intro n hn;cases hn) trivial rfl (fun x=>sameParts_ok x y)|exact zcG (Cs:=[]) rfl fn_52 (by intro n hn;cases hn) trivial rfl (fun x y=>sameParts_ok x y)|exact zcI rfl),trivial⟩) ?_;refine qa3 ?_
   exact zb rfl rfl (za rfl ((by rw [decide_eq_decide];exact ⟨fun h=>by cases a;cases b;simp_all,fun h=>by rw [h]⟩)))
  ·
   refine qab ?_;refine qab ?_;refine qa3 ?_
   exact zb rfl rfl (za rfl ((by symm;apply decide_eq_false;intro h;exact g18 (by rw [h]))))
 ·
  refine qab ?_;refine qaC ?_;refine qaM ?_;refine qab ?_;refine qa3 ?_
  exact zb rfl rfl (za rfl ((by symm;apply decide_eq_false;intro h;exact g11 (by rw [h]))))
set_option maxRecDepth 20000
def valU (l:List UInt8):UInt64:=l.foldl (fun n c=>shl64 n 8|||u64OfI (IntL.toI u8T c)) 0
def getOk (b:List UInt8) (p size:Int):Bool:=decide (0≤size∧size≤8∧0≤p∧p≤b.length∧size≤(b.length:Int)-p)
def getU (b:List UInt8) (p size:Int):UInt64:=if getOk b p size=true then valU ((b.drop p.toNat).take size.toNat) else 0
def cutE (b:List UInt8) (p:Int):Bool:=getOk b p 2&&decide (((getU b p 2).toNat:Int)≤(b.length:Int)-p-2)
def cutX (b:List UInt8) (p:Int):List UInt8:=if cutE b p=true then (b.drop (p.toNat+2)).take (getU b p 2).toNat else []
def cutP2 (b:List UInt8) (p:Int):Int:=if cutE b p=true then p+2+(getU b p 2).toNat else 0
def blobL (x:List UInt8):List UInt8:=numBytes (u64OfI (x.length:Int)) 2++x
def blobOk (x:List UInt8):Bool:=decide (x.length≤65535)
def rowsL (l:List (List UInt8)):List UInt8:=u8OfI (l.length:Int)::(l.map blobL).flatten
def rowsOk (l:List (List UInt8)):Bool:=decide (l.length≤255)&&l.all blobOk
def cutN:List UInt8→Option (List UInt8×List UInt8)
  | a::c::r=>if 256*a.toNat+c.toNat≤r.length then some (r.take (256*a.toNat+c.toNat),r.drop (256*a.toNat+c.toNat)) else none
  | _=>none
def pieces:Nat→List UInt8→List (List UInt8)×List UInt8
  | 0,r=>([],r)
  | n+1,r=>match cutN r with
    | none=>([],r)
    | some (x,z)=>(x::(pieces n z).1,(pieces n z).2)
def splitOf (b:List UInt8):List (List UInt8)×Bool :=
  match b with
  | []=>([],false)
  | n::r=>if (pieces n.toNat r).1.length=n.toNat∧(pieces n.toNat r).2=[] then ((pieces n.toNat r).1,true) else ([],false)
theorem or_low {a c:Nat} (hc:c<256):a*256|||c=a*256+c:=by
  have:=Nat.two_pow_add_eq_or_of_lt (i:=8) (b:=c) hc a
  rw [show (2:Nat)^8=256 from rfl,Nat.mul_comm] at this
  exact this.symm
theorem val_step (n:UInt64) (c:UInt8):(shl64 n 8|||u64OfI (IntL.toI u8T c)).toNat=(256*n.toNat+c.toNat)%18446744073709551616:=by
  have hc:c.toNat<256:=c.toNat_lt
  have hn:n.toNat<18446744073709551616:=n.toNat_lt
  have e1:(u64OfI (IntL.toI u8T c)).toNat=c.toNat:=zcS (n:=(c.toNat:Int)) (by omega) (by omega)
  have e2:(shl64 n 8).toNat=n.toNat*256%18446744073709551616:=by
    unfold shl64
    rw [UInt64.toNat_ofNat']
    rfl
  rw [UInt64.toNat_or,e1,e2]
  have e3:n.toNat*256%18446744073709551616=(n.toNat%72057594037927936)*256:=by omega
  rw [e3,or_low hc]
  omega
def valN (l:List UInt8):Nat:=l.foldl (fun n c=>256*n+c.toNat) 0
theorem valN_snoc (l:List UInt8) (c:UInt8):valN (l++[c])=256*valN l+c.toNat:=by unfold valN;rw [List.foldl_append];rfl
theorem valU_snoc (l:List UInt8) (c:UInt8):valU (l++[c])=shl64 (valU l) 8|||u64OfI (IntL.toI u8T c):=by unfold valU;rw [List.foldl_append];rfl
theorem snoc_ind {α:Type} {P:List α→Prop} (h0:P []) (h1:∀l x,P l→P (l++[x])) (l:List α):P l:=by
  have:∀n:Nat,∀l:List α,l.length=n→P l:=by
    intro n
    induction n with
    | zero=>intro l hl;rw [List.length_eq_zero_iff.1 hl];exact h0
    | succ n ih =>
      intro l hl
      have hne:l≠[]:=by intro e;rw [e] at hl;cases hl
      rw [←List.dropLast_concat_getLast hne]
      exact h1 _ _ (ih _ (by rw [List.length_dropLast];omega))
  exact this _ l rfl
theorem valN_lt (l:List UInt8):valN l<256^l.length:=by
  refine snoc_ind (P:=fun l=>valN l<256^l.length) (by decide) (fun l c ih=>?_) l
  have hc:c.toNat<256:=c.toNat_lt
  rw [valN_snoc,List.length_append,List.length_singleton,Nat.pow_succ]
  omega
theorem valU_n:∀l:List UInt8,l.length≤8→(valU l).toNat=valN l:=by
  refine snoc_ind (P:=fun l=>l.length≤8→(valU l).toNat=valN l) (fun _=>rfl) (fun l c ih hl=>?_)
  rw [List.length_append,List.length_singleton] at hl
  rw [valU_snoc,valN_snoc,val_step,ih (by omega)]
  have h1:=valN_lt (l++[c])
  rw [valN_snoc] at h1
  have h2:256^(l++[c]).length≤256^8:=Nat.pow_le_pow_right (by decide) (by simp;omega)
  have h3:(256:Nat)^8=18446744073709551616:=rfl
  exact Nat.mod_eq_of_lt (by omega)
theorem numBytes_snoc (n:UInt64) (s:Nat) (hs:s<8):numBytes n (s+1)=numBytes (shr64 n 8) s++[u8OfI (IntL.toI u64T n)]:=by
  unfold numBytes
  rw [List.range_succ,List.map_append]
  congr 1
  · apply List.map_congr_left
    intro j hj
    rw [List.mem_range] at hj
    congr 2
    apply UInt64.toNat_inj.1
    rw [zd0 _ (by omega),zd0 _ (by omega),zd0 _ (by omega),Nat.div_div_eq_div_mul,←Nat.pow_add]
    congr 2;omega
  · show [u8OfI (IntL.toI u64T (shr64 n (8*(s+1-1-s))))]=_
    rw [show s+1-1-s=0 by omega,←shr_zero]
theorem zdi:∀l:List UInt8,l.length≤8→numBytes (valU l) l.length=l:=by
  refine snoc_ind (P:=fun l=>l.length≤8→numBytes (valU l) l.length=l) (fun _=>rfl) (fun l c ih hl=>?_)
  rw [List.length_append,List.length_singleton] at hl ⊢
  have hc:c.toNat<256:=c.toNat_lt
  have hv:=valU_n (l++[c]) (by simp;omega)
  have hw:=valU_n l (by omega)
  rw [valN_snoc] at hv
  rw [numBytes_snoc _ _ (by omega)]
  have e1:shr64 (valU (l++[c])) 8=valU l:=by
    apply UInt64.toNat_inj.1
    rw [zd0 _ (by decide),hv,hw]
    omega
  have e2:u8OfI (IntL.toI u64T (valU (l++[c])))=c:=by
    apply UInt8.toNat_inj.1
    unfold u8OfI
    show (UInt8.ofNat ((((valU (l++[c])).toNat:Nat):Int)%256).toNat).toNat=_
    rw [UInt8.toNat_ofNat_of_lt' (by show _<256;omega),hv]
    omega
  rw [e1,e2,ih (by omega)]
theorem val_bytes (n:UInt64):∀s:Nat,s≤8→valN (numBytes n s)=n.toNat%256^s
  | 0,_=>by show 0=_;simp [Nat.mod_one]
  | s+1,hs=>by
    have ih:=val_bytes (shr64 n 8) s (by omega)
    rw [numBytes_snoc _ _ (by omega),valN_snoc,ih,zd0 _ (by decide)]
    have e:(u8OfI (IntL.toI u64T n)).toNat=n.toNat%256:=by
      unfold u8OfI
      show (UInt8.ofNat (((n.toNat:Nat):Int)%256).toNat).toNat=_
      rw [UInt8.toNat_ofNat_of_lt' (by show _<256;omega)]
      omega
    have e8:(2:Nat)^8=256:=rfl
    have ep:256^(s+1)=256*256^s:=by rw [Nat.pow_succ,Nat.mul_comm]
    rw [e,e8,ep,Nat.mod_mul]
    omega
theorem two_bytes {n:Nat} (h:n≤65535):∃a c:UInt8,numBytes (u64OfI (n:Int)) 2=[a,c]∧256*a.toNat+c.toNat=n:=by
  have hl:=zH (u64OfI (n:Int)) 2
  have hv:=val_bytes (u64OfI (n:Int)) 2 (by decide)
  rw [zcS (by omega) (by omega)] at hv
  match hb:numBytes (u64OfI (n:Int)) 2 with
  | [a,c] =>
    rw [hb] at hv
    refine ⟨a,c,rfl,?_⟩
    have e:valN [a,c]=256*(256*0+a.toNat)+c.toNat:=rfl
    rw [e] at hv
    have:(256:Nat)^2=65536:=rfl
    omega
  | []=>rw [hb] at hl;cases hl
  | [_]=>rw [hb] at hl;cases hl
  | _::_::_::_=>rw [hb] at hl;simp at hl
theorem bytes_two (a c:UInt8):numBytes (u64OfI ((256*a.toNat+c.toNat:Nat):Int)) 2=[a,c]:=by
  have ha:a.toNat<256:=a.toNat_lt
  have hc:c.toNat<256:=c.toNat_lt
  have e:u64OfI ((256*a.toNat+c.toNat:Nat):Int)=valU [a,c]:=by
    apply UInt64.toNat_inj.1
    rw [zcS (by omega) (by omega),valU_n [a,c] (by simp)]
    show _=256*(256*0+a.toNat)+c.toNat
    omega
  rw [e]
  exact zdi [a,c] (by simp)
theorem cut_blob {x r:List UInt8} (h:blobOk x=true):cutN (blobL x++r)=some (x,r):=by
  have hx:=of_decide_eq_true h
  obtain ⟨a,c,e1,e2⟩:=two_bytes hx
  unfold blobL
  rw [e1]
  have e3:[a,c]++x++r=a::c::(x++r):=rfl
  rw [e3,cutN,e2,if_pos (by simp),List.take_left,List.drop_left]
theorem cut_back {b x z:List UInt8} (h:cutN b=some (x,z)):b=blobL x++z∧blobOk x=true:=by
  match b,h with
  | a::c::r,h =>
    have ha:a.toNat<256:=a.toNat_lt
    have hc:c.toNat<256:=c.toNat_lt
    rw [cutN] at h
    by_cases q:256*a.toNat+c.toNat≤r.length
    · rw [if_pos q] at h
      simp only [Option.some.injEq,Prod.mk.injEq] at h
      obtain ⟨rfl,rfl⟩:=h
      have hl:(r.take (256*a.toNat+c.toNat)).length=256*a.toNat+c.toNat:=by rw [List.length_take];omega
      refine ⟨?_,decide_eq_true (by rw [hl];omega)⟩
      unfold blobL
      rw [hl,bytes_two]
      show a::c::r=a::c::(r.take _++r.drop _)
      rw [List.take_append_drop]
    · rw [if_neg q] at h;cases h
  | [],h=>cases h
  | [_],h=>cases h
theorem ze4 (r:List UInt8):∀l:List (List UInt8),l.all blobOk=true→pieces l.length ((l.map blobL).flatten++r)=(l,r)
  | [],_=>rfl
  | x::l,h=>by
    rw [List.all_cons,Bool.and_eq_true] at h
    rw [List.map_cons,List.flatten_cons,List.append_assoc,List.length_cons,pieces,cut_blob h.1]
    simp only []
    rw [ze4 r l h.2]
theorem pieces_back:∀(n:Nat) (r:List UInt8),(pieces n r).1.length≤n∧r=((pieces n r).1.map blobL).flatten++(pieces n r).2∧(pieces n r).1.all blobOk=true
  | 0,r=>⟨Nat.le_refl _,rfl,rfl⟩
  | n+1,r=>by
    rw [pieces]
    match hc:cutN r with
    | none=>exact ⟨Nat.zero_le _,rfl,rfl⟩
    | some (x,z) =>
      obtain ⟨h1,h2⟩:=cut_back hc
      obtain ⟨i1,i2,i3⟩:=pieces_back n z
      refine ⟨Nat.succ_le_succ i1,?_,?_⟩
      · show r=((x::(pieces n z).1).map blobL).flatten++(pieces n z).2
        rw [List.map_cons,List.flatten_cons,List.append_assoc,←i2];exact h1
      · show (x::(pieces n z).1).all blobOk=true
        rw [List.all_cons,h2,i3];rfl
theorem u8_len {n:Nat} (h:n≤255):(u8OfI (n:Int)).toNat=n:=by
  unfold u8OfI
  rw [UInt8.toNat_ofNat_of_lt' (by show _<256;omega)]
  omega
theorem split_rows {l:List (List UInt8)} (h:rowsOk l=true):splitOf (rowsL l)=(l,true):=by
  unfold rowsOk at h
  rw [Bool.and_eq_true,decide_eq_true_eq] at h
  unfold rowsL splitOf
  have hp:=ze4 [] l h.2
  rw [List.append_nil] at hp
  simp only []
  rw [u8_len h.1,hp,if_pos ⟨rfl,rfl⟩]
theorem rows_split {b:List UInt8} (h:(splitOf b).2=true):rowsL (splitOf b).1=b∧rowsOk (splitOf b).1=true:=by
  match b,h with
  | n::r,h =>
    have hn:n.toNat<256:=n.toNat_lt
    unfold splitOf at h ⊢
    simp only [] at h ⊢
    by_cases q:(pieces n.toNat r).1.length=n.toNat∧(pieces n.toNat r).2=[]
    · rw [if_pos q]
      obtain ⟨i1,i2,i3⟩:=pieces_back n.toNat r
      rw [q.2,List.append_nil] at i2
      refine ⟨?_,?_⟩
      · show u8OfI ((pieces n.toNat r).1.length:Int)::((pieces n.toNat r).1.map blobL).flatten=n::r
        rw [←i2,q.1]
        congr 1
        apply UInt8.toNat_inj.1
        rw [u8_len (by omega)]
      · unfold rowsOk
        rw [i3,decide_eq_true (show (pieces n.toNat r).1.length≤255 by omega)];rfl
    · rw [if_neg q] at h;cases h
  | [],h=>cases h
theorem blob_len (x:List UInt8):(blobL x).length=2+x.length:=by unfold blobL;rw [List.length_append,zH]
theorem rows_len:∀l:List (List UInt8),(rowsL l).length=1+(l.map fun x=>2+x.length).sum
  | []=>rfl
  | x::l=>by
    have ih:=rows_len l
    unfold rowsL at ih ⊢
    rw [List.length_cons,List.map_cons,List.flatten_cons,List.length_append,blob_len,List.map_cons,List.sum_cons]
    rw [List.length_cons] at ih
    omega
set_option maxRecDepth 20000
def readHd (b:List UInt8):Head:=⟨((valU (b.take 4)).toNat:Int),(b.drop 4).take 32,(b.drop 36).take 32,(b.drop 68).take 32,(b.drop 100).take 32,of32W ((b.drop 132).take 32),UInt32.ofNat (valU ((b.drop 164).take 4)).toNat,valU ((b.drop 168).take 8)⟩
def readHOk (b:List UInt8):Bool:=decide (b.length=176)&&decide ((valU (b.take 4)).toNat≤1048576)
def readH (b:List UInt8):Head:=if readHOk b=true then readHd b else zHead
def sizeOk (p:Proof):Bool:=decide (1≤p.m∧p.m≤20∧1≤p.k∧p.k≤20∧p.p.length≤100)&&p.p.all fun x=>decide (x.l.length≤32)
def wOk (p:Proof):Bool:=sizeOk p&&p.p.all fun x=>hOk x.h
def partRow (x:Part):List UInt8:=rowsL (headBytes x.h::x.l)
def putL (p:Proof):List UInt8:=u8OfI p.m::u8OfI p.k::rowsL (p.p.map partRow)
def partOk (r:List UInt8):Bool:=(splitOf r).2&&match (splitOf r).1 with
  | []=>false
  | h::l=>readHOk h&&l.all fun x=>decide (x.length=32)
def readPart (r:List UInt8):Part:=match (splitOf r).1 with
  | []=>⟨zHead,[]⟩
  | h::l=>⟨readHd h,l⟩
def readP (b:List UInt8):Proof:=⟨((b.getD 0 0).toNat:Int),((b.getD 1 0).toNat:Int),(splitOf (b.drop 2)).1.map readPart⟩
def readOk (b:List UInt8):Bool:=decide (2<b.length)&&(splitOf (b.drop 2)).2&&(splitOf (b.drop 2)).1.all partOk&&sizeOk (readP b)
theorem u8_nat {n:Int} (h0:0≤n) (h1:n≤255):(u8OfI n).toNat=n.toNat:=by
  obtain ⟨m,rfl⟩:∃m:Nat,n=m:=⟨n.toNat,by omega⟩
  rw [u8_len (by omega)];rfl
theorem u8_back (c:UInt8):u8OfI (c.toNat:Int)=c:=by
  apply UInt8.toNat_inj.1
  have:c.toNat<256:=c.toNat_lt
  rw [u8_len (by omega)]
theorem of32_four (x0 x1 x2 x3 x4 x5 x6 x7 x8 x9 x10 x11 x12 x13 x14 x15 x16 x17 x18 x19 x20 x21 x22 x23 x24 x25 x26 x27 x28 x29 x30 x31:UInt8):of32W [x0,x1,x2,x3,x4,x5,x6,x7,x8,x9,x10,x11,x12,x13,x14,x15,x16,x17,x18,x19,x20,x21,x22,x23,x24,x25,x26,x27,x28,x29,x30,x31]=[valU [x24,x25,x26,x27,x28,x29,x30,x31],valU [x16,x17,x18,x19,x20,x21,x22,x23],valU [x8,x9,x10,x11,x12,x13,x14,x15],valU [x0,x1,x2,x3,x4,x5,x6,x7]]:=by kernel_rfl
theorem list32 {b:List UInt8} (h:b.length=32):∃x0 x1 x2 x3 x4 x5 x6 x7 x8 x9 x10 x11 x12 x13 x14 x15 x16 x17 x18 x19 x20 x21 x22 x23 x24 x25 x26 x27 x28 x29 x30 x31,b=[x0,x1,x2,x3,x4,x5,x6,x7,x8,x9,x10,x11,x12,x13,x14,x15,x16,x17,x18,x19,x20,x21,x22,x23,x24,x25,x26,x27,x28,x29,x30,x31]:=by
  match b,h with
  | [x0,x1,x2,x3,x4,x5,x6,x7,x8,x9,x10,x11,x12,x13,x14,x15,x16,x17,x18,x19,x20,x21,x22,x23,x24,x25,x26,x27,x28,x29,x30,x31],_=>exact ⟨x0,x1,x2,x3,x4,x5,x6,x7,x8,x9,x10,x11,x12,x13,x14,x15,x16,x17,x18,x19,x20,x21,x22,x23,x24,x25,x26,x27,x28,x29,x30,x31,rfl⟩
theorem bytes_of32 {b:List UInt8} (h:b.length=32):bytesW (of32W b)=b:=by
  obtain ⟨x0,x1,x2,x3,x4,x5,x6,x7,x8,x9,x10,x11,x12,x13,x14,x15,x16,x17,x18,x19,x20,x21,x22,x23,x24,x25,x26,x27,x28,x29,x30,x31,rfl⟩:=list32 h
  rw [of32_four,bytesW_four]
  have e1:=zdi [x0,x1,x2,x3,x4,x5,x6,x7] (Nat.le_refl _)
  have e2:=zdi [x8,x9,x10,x11,x12,x13,x14,x15] (Nat.le_refl _)
  have e3:=zdi [x16,x17,x18,x19,x20,x21,x22,x23] (Nat.le_refl _)
  have e4:=zdi [x24,x25,x26,x27,x28,x29,x30,x31] (Nat.le_refl _)
  have e1:numBytes (valU [x0,x1,x2,x3,x4,x5,x6,x7]) 8=[x0,x1,x2,x3,x4,x5,x6,x7]:=e1
  have e2:numBytes (valU [x8,x9,x10,x11,x12,x13,x14,x15]) 8=[x8,x9,x10,x11,x12,x13,x14,x15]:=e2
  have e3:numBytes (valU [x16,x17,x18,x19,x20,x21,x22,x23]) 8=[x16,x17,x18,x19,x20,x21,x22,x23]:=e3
  have e4:numBytes (valU [x24,x25,x26,x27,x28,x29,x30,x31]) 8=[x24,x25,x26,x27,x28,x29,x30,x31]:=e4
  rw [e1,e2,e3,e4];rfl
theorem of32_bytes {a:Wide} (ha:a.length=4):of32W (bytesW a)=a:=by
  have hl:(bytesW a).length=32:=zc1 a
  exact bytesW_inj of32_len ha (bytes_of32 hl)
theorem ze7 {h:Head} (hh:HW h) (ho:hOk h=true):(headBytes h).length=176:=by
  obtain ⟨h1,h2,h3,h4,h5⟩:=hh
  unfold headBytes
  rw [if_pos ho]
  simp [putHead,h1,h2,h3,h4,zc1,zH]
theorem head_parts {h : Head} (hh : HW h) : (putHead h).take 4 = numBytes (u64OfI (IntL.toI i64T h.height)) 4 ∧ ((putHead h).drop 4).take 32 = h.prev ∧ ((putHead h).drop 36).take 32 = h.links ∧ ((putHead h).drop 68).take 32 = h.txs ∧ ((putHead h).drop 100).take 32 = h.past ∧
    ((putHead h).drop 132).take 32=bytesW h.work∧((putHead h).drop 164).take 4=numBytes (u64OfI (IntL.toI u32T h.bits)) 4∧((putHead h).drop 168).take 8=numBytes h.nonce 8:=by
  obtain ⟨h1,h2,h3,h4,h5⟩:=hh
  have l0:=zH (u64OfI (IntL.toI i64T h.height)) 4
  have l6:=zH (u64OfI (IntL.toI u32T h.bits)) 4
  have l7:=zH h.nonce 8
  have l5:=zc1 h.work
  unfold putHead
  simp only [List.flatten_cons,List.flatten_nil,List.append_nil]
  generalize numBytes (u64OfI (IntL.toI i64T h.height)) 4=A at *
  generalize numBytes (u64OfI (IntL.toI u32T h.bits)) 4=F at *
  generalize numBytes h.nonce 8=G at *
  generalize bytesW h.work=E at *
  have d1:(A++(h.prev++(h.links++(h.txs++(h.past++(E++(F++G))))))).drop 4=h.prev++(h.links++(h.txs++(h.past++(E++(F++G))))):=List.drop_left' l0
  have d2:(A++(h.prev++(h.links++(h.txs++(h.past++(E++(F++G))))))).drop 36=h.links++(h.txs++(h.past++(E++(F++G)))):=by rw [show 36=4+32 from rfl,←List.drop_drop,d1];exact List.drop_left' h1
  have d3:(A++(h.prev++(h.links++(h.txs++(h.past++(E++(F++G))))))).drop 68=h.txs++(h.past++(E++(F++G))):=by rw [show 68=36+32 from rfl,←List.drop_drop,d2];exact List.drop_left' h2
  have d4:(A++(h.prev++(h.links++(h.txs++(h.past++(E++(F++G))))))).drop 100=h.past++(E++(F++G)):=by rw [show 100=68+32 from rfl,←List.drop_drop,d3];exact List.drop_left' h3
  have d5:(A++(h.prev++(h.links++(h.txs++(h.past++(E++(F++G))))))).drop 132=E++(F++G):=by rw [show 132=100+32 from rfl,←List.drop_drop,d4];exact List.drop_left' h4
  have d6:(A++(h.prev++(h.links++(h.txs++(h.past++(E++(F++G))))))).drop 164=F++G:=by rw [show 164=132+32 from rfl,←List.drop_drop,d5];exact List.drop_left' l5
  have d7:(A++(h.prev++(h.links++(h.txs++(h.past++(E++(F++G))))))).drop 168=G:=by rw [show 168=164+4 from rfl,←List.drop_drop,d6];exact List.drop_left' l6
  rw [d1,d2,d3,d4,d5,d6,d7]
  exact ⟨List.take_left' l0,List.take_left' h1,List.take_left' h2,List.take_left' h3,List.take_left' h4,List.take_left' l5,List.take_left' l6,List.take_of_length_le (Nat.le_of_eq l7)⟩
theorem val_num (n:UInt64) {s:Nat} (hs:s≤8):(valU (numBytes n s)).toNat=n.toNat%256^s:=by rw [valU_n _ (by rw [zH];exact hs),val_bytes n s hs]
theorem val_of_bytes (n:UInt64):valU (numBytes n 8)=n:=by
  apply UInt64.toNat_inj.1
  have hn:n.toNat<18446744073709551616:=n.toNat_lt
  rw [val_num n (Nat.le_refl _),show (256:Nat)^8=18446744073709551616 from rfl,Nat.mod_eq_of_lt hn]
theorem read_put {h:Head} (hh:HW h) (ho:hOk h=true):readHOk (putHead h)=true∧readHd (putHead h)=h:=by
  obtain ⟨p1,p2,p3,p4,p5,p6,p7,p8⟩:=head_parts hh
  have ho2:=hOk_iff.1 ho
  have hlen:(putHead h).length=176:=by
    have:=ze7 hh ho
    unfold headBytes at this
    rwa [if_pos ho] at this
  have hv:(valU ((putHead h).take 4)).toNat=h.height.toNat:=by
    rw [p1,val_num _ (by decide),show (256:Nat)^4=4294967296 from rfl]
    have e:(u64OfI (IntL.toI i64T h.height)).toNat=h.height.toNat:=zcS (n:=h.height) ho2.1 (by omega)
    rw [e];omega
  refine ⟨?_,?_⟩
  · unfold readHOk
    rw [decide_eq_true hlen,decide_eq_true (by rw [hv];omega)];rfl
  · unfold readHd
    rw [hv,p2,p3,p4,p5,p6,p7,p8,of32_bytes hh.2.2.2.2,val_of_bytes,val_num _ (by decide)]
    have eb:(u64OfI (IntL.toI u32T h.bits)).toNat=h.bits.toNat:=by
      have:h.bits.toNat<4294967296:=h.bits.toNat_lt
      exact zcS (n:=(h.bits.toNat:Int)) (by omega) (by omega)
    have eb2:UInt32.ofNat (h.bits.toNat%256^4)=h.bits:=by
      apply UInt32.toNat_inj.1
      have:h.bits.toNat<4294967296:=h.bits.toNat_lt
      rw [show (256:Nat)^4=4294967296 from rfl,Nat.mod_eq_of_lt this,UInt32.toNat_ofNat_of_lt' this]
    have eh:((h.height.toNat:Nat):Int)=h.height:=by omega
    rw [eb,eb2,eh]
theorem num4 {b:List UInt8} (h:b.length=4):numBytes (u64OfI (IntL.toI i64T ((valU b).toNat:Int))) 4=b:=by
  have v4:=valU_n b (by omega)
  have lt4:=valN_lt b
  rw [h,show (256:Nat)^4=4294967296 from rfl] at lt4
  have e:u64OfI (IntL.toI i64T ((valU b).toNat:Int))=valU b:=by
    apply UInt64.toNat_inj.1
    exact zcS (n:=((valU b).toNat:Int)) (by omega) (by omega)
  rw [e]
  have:=zdi b (by omega)
  rwa [h] at this
theorem bits4 {b:List UInt8} (h:b.length=4):numBytes (u64OfI (IntL.toI u32T (UInt32.ofNat (valU b).toNat))) 4=b:=by
  have v4:=valU_n b (by omega)
  have lt4:=valN_lt b
  rw [h,show (256:Nat)^4=4294967296 from rfl] at lt4
  have e0:(UInt32.ofNat (valU b).toNat).toNat=(valU b).toNat:=UInt32.toNat_ofNat_of_lt' (by show _<4294967296;omega)
  have e:u64OfI (IntL.toI u32T (UInt32.ofNat (valU b).toNat))=valU b:=by
    apply UInt64.toNat_inj.1
    show (u64OfI (((UInt32.ofNat (valU b).toNat).toNat:Nat):Int)).toNat=_
    rw [e0]
    exact zcS (n:=((valU b).toNat:Int)) (by omega) (by omega)
  rw [e]
  have:=zdi b (by omega)
  rwa [h] at this
theorem num8 {b:List UInt8} (h:b.length=8):numBytes (valU b) 8=b:=by
  have:=zdi b (by omega)
  rwa [h] at this
theorem step_at (b:List UInt8) (i n:Nat):(b.drop i).take n++b.drop (i+n)=b.drop i:=by rw [←List.drop_drop,List.take_append_drop]
theorem zeb {b:List UInt8} (hl:b.length=176) {i n:Nat} (h:i+n≤176):((b.drop i).take n).length=n:=by rw [List.length_take,List.length_drop];omega
theorem chunks {b:List UInt8} (hl:b.length=176):b.take 4++((b.drop 4).take 32++((b.drop 36).take 32++((b.drop 68).take 32++((b.drop 100).take 32++((b.drop 132).take 32++((b.drop 164).take 4++(b.drop 168).take 8))))))=b:=by
  have r7:(b.drop 168).take 8=b.drop 168:=List.take_of_length_le (by rw [List.length_drop];omega)
  rw [r7,step_at b 164 4,step_at b 132 32,step_at b 100 32,step_at b 68 32,step_at b 36 32,step_at b 4 32,List.take_append_drop]
theorem rd_ok {b:List UInt8} (hv:(valU (b.take 4)).toNat≤1048576):0≤(readHd b).height∧(readHd b).height≤1048576:=by
  have e:(readHd b).height=((valU (b.take 4)).toNat:Int):=by simp only [readHd]
  rw [e];omega
theorem rd_hw {b:List UInt8} (hl:b.length=176):HW (readHd b):=by
  have w:=of32_len (b:=(b.drop 132).take 32)
  have e1:(readHd b).prev=(b.drop 4).take 32:=by simp only [readHd]
  have e2:(readHd b).links=(b.drop 36).take 32:=by simp only [readHd]
  have e3:(readHd b).txs=(b.drop 68).take 32:=by simp only [readHd]
  have e4:(readHd b).past=(b.drop 100).take 32:=by simp only [readHd]
  have e5:(readHd b).work=of32W ((b.drop 132).take 32):=by simp only [readHd]
  unfold HW
  rw [e1,e2,e3,e4,e5]
  exact ⟨zeb hl (i:=4) (n:=32) (by decide),zeb hl (i:=36) (n:=32) (by decide),zeb hl (i:=68) (n:=32) (by decide),zeb hl (i:=100) (n:=32) (by decide),w⟩
theorem put_read {b:List UInt8} (h:readHOk b=true):HW (readHd b)∧hOk (readHd b)=true∧putHead (readHd b)=b:=by
  unfold readHOk at h
  rw [Bool.and_eq_true,decide_eq_true_eq,decide_eq_true_eq] at h
  obtain ⟨hl,hv⟩:=h
  have t4:(b.take 4).length=4:=by rw [List.length_take];omega
  have e1:=num4 t4
  have e6:=bits4 (zeb hl (i:=164) (n:=4) (by decide))
  have e7:=num8 (zeb hl (i:=168) (n:=8) (by decide))
  have e5:=bytes_of32 (zeb hl (i:=132) (n:=32) (by decide))
  refine ⟨rd_hw hl,hOk_iff.2 (rd_ok hv),?_⟩
  have ep : putHead (readHd b) = numBytes (u64OfI (IntL.toI i64T ((valU (b.take 4)).toNat : Int))) 4 ++ ((b.drop 4).take 32 ++ ((b.drop 36).take 32 ++ ((b.drop 68).take 32 ++ ((b.drop 100).take 32 ++ (bytesW (of32W ((b.drop 132).take 32)) ++
      (numBytes (u64OfI (IntL.toI u32T (UInt32.ofNat (valU ((b.drop 164).take 4)).toNat))) 4++numBytes (valU ((b.drop 168).take 8)) 8)))))):=by
    simp only [putHead,readHd,List.flatten_cons,List.flatten_nil,List.append_nil]
  rw [ep,e1,e5,e6,e7]
  exact chunks hl
theorem row_ok {x:Part} (hh:HW x.h) (ho:hOk x.h=true) (hi:∀y∈x.l,y.length=32) (hl:x.l.length≤32):rowsOk (headBytes x.h::x.l)=true:=by
  unfold rowsOk
  rw [Bool.and_eq_true,decide_eq_true_eq,List.all_cons,Bool.and_eq_true,List.all_eq_true]
  refine ⟨by simp;omega,decide_eq_true (by rw [ze7 hh ho];omega),fun y hy=>decide_eq_true (by rw [hi y hy];omega)⟩
theorem sum_32:∀l:List (List UInt8),(∀y∈l,y.length=32)→(l.map fun x=>2+x.length).sum=34*l.length
  | [],_=>rfl
  | x::l,h=>by
    rw [List.map_cons,List.sum_cons,sum_32 l (fun y hy=>h y (List.mem_cons_of_mem _ hy)),h x (List.mem_cons_self ..),List.length_cons];omega
theorem partRow_len {x:Part} (hh:HW x.h) (ho:hOk x.h=true) (hi:∀y∈x.l,y.length=32):(partRow x).length=179+34*x.l.length:=by
  unfold partRow
  rw [rows_len,List.map_cons,List.sum_cons,ze7 hh ho,sum_32 _ hi];omega
def PW (p:Proof):Prop:=∀x∈p.p,HW x.h∧∀y∈x.l,y.length=32
theorem zaS {p:Proof} (h:sizeOk p=true):(1≤p.m∧p.m≤20∧1≤p.k∧p.k≤20∧p.p.length≤100)∧∀x∈p.p,x.l.length≤32:=by
  unfold sizeOk at h
  rw [Bool.and_eq_true,decide_eq_true_eq,List.all_eq_true] at h
  exact ⟨h.1,fun x hx=>of_decide_eq_true (h.2 x hx)⟩
theorem wOk_spec {p:Proof} (h:wOk p=true):sizeOk p=true∧∀x∈p.p,hOk x.h=true:=by
  unfold wOk at h
  rw [Bool.and_eq_true,List.all_eq_true] at h
  exact h
theorem parts_ok {p:Proof} (hw:PW p) (h:wOk p=true):rowsOk (p.p.map partRow)=true:=by
  obtain ⟨h1,h2⟩:=wOk_spec h
  obtain ⟨h3,h4⟩:=zaS h1
  unfold rowsOk
  rw [Bool.and_eq_true,decide_eq_true_eq,List.all_eq_true]
  refine ⟨by simp;omega,fun r hr=>?_⟩
  obtain ⟨x,hx,rfl⟩:=List.mem_map.1 hr
  have:=h4 x hx
  exact decide_eq_true (by rw [partRow_len (hw x hx).1 (h2 x hx) (hw x hx).2];omega)
theorem part_read {x:Part} (hh:HW x.h) (ho:hOk x.h=true) (hi:∀y∈x.l,y.length=32) (hl:x.l.length≤32):partOk (partRow x)=true∧readPart (partRow x)=x:=by
  have hs:=split_rows (row_ok hh ho hi hl)
  have eb:headBytes x.h=putHead x.h:=by unfold headBytes;rw [if_pos ho]
  obtain ⟨r1,r2⟩:=read_put hh ho
  unfold partOk readPart partRow
  rw [hs]
  simp only []
  rw [eb,r1,r2]
  refine ⟨?_,rfl⟩
  rw [Bool.true_and,Bool.true_and,List.all_eq_true]
  exact fun y hy=>decide_eq_true (hi y hy)
theorem put_get {p:Proof} (h0:0≤p.m∧p.m≤255∧0≤p.k∧p.k≤255):(((putL p).getD 0 0).toNat:Int)=p.m∧(((putL p).getD 1 0).toNat:Int)=p.k:=by
  have e0:(putL p).getD 0 0=u8OfI p.m:=rfl
  have e1:(putL p).getD 1 0=u8OfI p.k:=rfl
  rw [e0,e1,u8_nat h0.1 h0.2.1,u8_nat h0.2.2.1 h0.2.2.2]
  omega
theorem proof_back {p:Proof} (hw:PW p) (h:wOk p=true):readOk (putL p)=true∧readP (putL p)=p:=by
  obtain ⟨h1,h2⟩:=wOk_spec h
  obtain ⟨h3,h4⟩:=zaS h1
  have hs:=split_rows (parts_ok hw h)
  have hd:(putL p).drop 2=rowsL (p.p.map partRow):=rfl
  have hm:(p.p.map partRow).map readPart=p.p:=by
    rw [List.map_map]
    conv=>rhs;rw [←List.map_id p.p]
    exact List.map_congr_left fun x hx=>(part_read (hw x hx).1 (h2 x hx) (hw x hx).2 (h4 x hx)).2
  obtain ⟨g1,g2⟩:=put_get (p:=p) (by omega)
  have hr:readP (putL p)=p:=by
    unfold readP
    rw [hd,hs,g1,g2]
    show (⟨p.m,p.k,(p.p.map partRow).map readPart⟩:Proof)=p
    rw [hm]
  refine ⟨?_,hr⟩
  unfold readOk
  rw [hr,h1,hd,hs,decide_eq_true (show 2<(putL p).length by unfold putL rowsL;simp)]
  simp only [Bool.true_and,Bool.and_true]
  rw [List.all_eq_true]
  intro r hr
  obtain ⟨x,hx,rfl⟩:=List.mem_map.1 hr
  exact (part_read (hw x hx).1 (h2 x hx) (hw x hx).2 (h4 x hx)).1
theorem part_put {r:List UInt8} (h:partOk r=true):HW (readPart r).h∧hOk (readPart r).h=true∧(∀y∈(readPart r).l,y.length=32)∧partRow (readPart r)=r:=by
  unfold partOk at h
  rw [Bool.and_eq_true] at h
  obtain ⟨h1,h2⟩:=h
  obtain ⟨e1,e2⟩:=rows_split h1
  unfold readPart partRow
  match hl:(splitOf r).1 with
  | []=>rw [hl] at h2;cases h2
  | b::l =>
    rw [hl] at h2 e1
    simp only [] at h2 ⊢
    rw [Bool.and_eq_true,List.all_eq_true] at h2
    obtain ⟨p1,p2,p3⟩:=put_read h2.1
    refine ⟨p1,p2,fun y hy=>of_decide_eq_true (h2.2 y hy),?_⟩
    unfold headBytes
    rw [if_pos p2,p3,e1]
theorem back_proof {b:List UInt8} (h:readOk b=true):wOk (readP b)=true∧PW (readP b)∧putL (readP b)=b:=by
  unfold readOk at h
  rw [Bool.and_eq_true,Bool.and_eq_true,Bool.and_eq_true,decide_eq_true_eq,List.all_eq_true] at h
  obtain ⟨⟨⟨h1,h2⟩,h3⟩,h4⟩:=h
  obtain ⟨e1,e2⟩:=rows_split h2
  have hp:(readP b).p=(splitOf (b.drop 2)).1.map readPart:=rfl
  refine ⟨?_,?_,?_⟩
  · unfold wOk
    rw [h4,Bool.true_and,List.all_eq_true]
    intro x hx
    rw [hp] at hx
    obtain ⟨r,hr,rfl⟩:=List.mem_map.1 hx
    exact (part_put (h3 r hr)).2.1
  · intro x hx
    rw [hp] at hx
    obtain ⟨r,hr,rfl⟩:=List.mem_map.1 hx
    exact ⟨(part_put (h3 r hr)).1,(part_put (h3 r hr)).2.2.1⟩
  · match b,h1 with
    | m::k::t,_ =>
      have hm:((splitOf t).1.map readPart).map partRow=(splitOf t).1:=by
        rw [List.map_map]
        conv=>rhs;rw [←List.map_id (splitOf t).1]
        exact List.map_congr_left fun r hr=>(part_put (h3 r hr)).2.2.2
      show u8OfI (m.toNat:Int)::u8OfI (k.toNat:Int)::rowsL (((splitOf t).1.map readPart).map partRow)=m::k::t
      rw [u8_back,u8_back,hm]
      congr 2
    | [],h1=>simp at h1
    | [_],h1=>simp at h1
theorem rows_ahead {l m:List (List UInt8)} {z:List UInt8} (hl:rowsOk l=true) (hm:rowsOk m=true) (h:rowsL l=rowsL m++z):z=[]:=by
  have h1:=split_rows hl
  unfold rowsOk at hl hm
  rw [Bool.and_eq_true,decide_eq_true_eq] at hl hm
  unfold rowsL at h
  rw [List.cons_append] at h
  injection h with e1 e2
  have e1:=congrArg UInt8.toNat e1
  rw [u8_len hl.1,u8_len hm.1] at e1
  have p1:=ze4 [] l hl.2
  have p2:=ze4 z m hm.2
  rw [List.append_nil,e2,e1,p2] at p1
  exact congrArg (·.2) p1
theorem put_ahead {p q:Proof} {z:List UInt8} (hp:PW p) (hq:PW q) (h1:wOk p=true) (h2:wOk q=true) (h:putL p=putL q++z):z=[]:=by
  unfold putL at h
  rw [List.cons_append,List.cons_append] at h
  injection h with _ h
  injection h with _ h
  exact rows_ahead (parts_ok hp h1) (parts_ok hq h2) h
theorem put_len {p:Proof} (hw:PW p) (h:wOk p=true):(putL p).length=3+(p.p.map fun x=>181+34*x.l.length).sum:=by
  obtain ⟨h1,h2⟩:=wOk_spec h
  unfold putL
  rw [List.length_cons,List.length_cons,rows_len,List.map_map]
  have:p.p.map ((fun x:List UInt8=>2+x.length) ∘ partRow)=p.p.map fun x=>181+34*x.l.length:=List.map_congr_left fun x hx=>by
    show 2+(partRow x).length=_
    rw [partRow_len (hw x hx).1 (h2 x hx) (hw x hx).2];omega
  rw [this];omega
set_option maxRecDepth 20000
theorem zcA {b:List UInt8} {p size:Int} (h:size<0∨8<size∨p<0∨(b.length:Int)<p∨(b.length:Int)-p<size):getOk b p size=false:=by
  unfold getOk;apply decide_eq_false;omega
theorem getOk_yes {b:List UInt8} {p size:Int} (h1:¬size<0) (h2:¬8<size) (h3:¬p<0) (h4:¬(b.length:Int)<p) (h5:¬(b.length:Int)-p<size):getOk b p size=true:=by
  unfold getOk;apply decide_eq_true;omega
theorem getU_no {b:List UInt8} {p size:Int} (h:getOk b p size=false):getU b p size=0:=by unfold getU;rw [h];rfl
theorem getU_yes {b:List UInt8} {p size:Int} (h:getOk b p size=true):getU b p size=valU ((b.drop p.toNat).take size.toNat):=by unfold getU;rw [if_pos h]
theorem get2_le {b:List UInt8} {p:Int} (h:getOk b p 2=true):(getU b p 2).toNat≤65535:=by
  rw [getU_yes h,show (2:Int).toNat=2 from rfl]
  have hl:((b.drop p.toNat).take 2).length≤2:=by rw [List.length_take];omega
  have h2:=valU_n ((b.drop p.toNat).take 2) (by omega)
  have h3:=valN_lt ((b.drop p.toNat).take 2)
  have h4:256^((b.drop p.toNat).take 2).length≤256^2:=Nat.pow_le_pow_right (by decide) hl
  have h5:(256:Nat)^2=65536:=rfl
  omega
theorem cut_no {b:List UInt8} {p:Int} (h:cutE b p=false):cutX b p=[]∧cutP2 b p=0:=by
  unfold cutX cutP2
  rw [h];exact ⟨rfl,rfl⟩
theorem cut_yes {b:List UInt8} {p:Int} (h:cutE b p=true):cutX b p=(b.drop (p.toNat+2)).take (getU b p 2).toNat∧cutP2 b p=p+2+(getU b p 2).toNat:=by
  unfold cutX cutP2
  rw [h];exact ⟨rfl,rfl⟩
def blobR (x:List UInt8):List UInt8:=if blobOk x=true then blobL x else []
def rowsR (l:List (List UInt8)):List UInt8:=if rowsOk l=true then rowsL l else []
theorem rows_no {l:List (List UInt8)} (h:255<l.length):rowsOk l=false:=by unfold rowsOk;rw [decide_eq_false (by omega)];rfl
theorem rows_bad {l:List (List UInt8)} {k:Nat} {x:List UInt8} (hx:l[k]?=some x) (h:¬blobOk x=true):rowsOk l=false:=by
  unfold rowsOk
  rw [Bool.and_eq_false_iff];right
  rw [List.all_eq_false]
  exact ⟨x,List.mem_of_getElem? hx,h⟩
theorem rows_all {l:List (List UInt8)} {k:Nat} (h:¬255<l.length) (hb:∀x∈l.take k,blobOk x=true) (hk:l.length≤k):rowsOk l=true:=by
  rw [List.take_of_length_le hk] at hb
  unfold rowsOk
  rw [decide_eq_true (by omega),Bool.true_and,List.all_eq_true];exact hb
def rowsN (l:List (List UInt8)) (k:Nat):List UInt8:=u8OfI (IntL.toI i64T (l.length:Int))::((l.take k).map blobL).flatten
theorem rowsN_step {l:List (List UInt8)} {k:Nat} {x:List UInt8} (h:l[k]?=some x):rowsN l (k+1)=rowsN l k++blobL x:=by
  unfold rowsN
  rw [List.take_add_one,h]
  simp
theorem rowsN_all {l:List (List UInt8)} {k:Nat} (h:l.length≤k):rowsN l k=rowsL l:=by
  unfold rowsN rowsL
  rw [List.take_of_length_le h];rfl
theorem rowsN_len {l:List (List UInt8)} {k:Nat} (h:∀x∈l.take k,blobOk x=true):(rowsN l k).length≤1+k*65537:=by
  unfold rowsN
  rw [List.length_cons]
  have:∀(m:List (List UInt8)),(∀x∈m,blobOk x=true)→(m.map blobL).flatten.length≤m.length*65537:=by
    intro m
    induction m with
    | nil=>intro _;simp
    | cons x m ih =>
      intro hm
      have h1:=ih (fun y hy=>hm y (List.mem_cons_of_mem _ hy))
      have h2:=of_decide_eq_true (hm x (List.mem_cons_self ..))
      rw [List.map_cons,List.flatten_cons,List.length_append,blob_len,List.length_cons]
      omega
  have h1:=this (l.take k) h
  have h2:(l.take k).length≤k:=by rw [List.length_take];omega
  have h3:(l.take k).length*65537≤k*65537:=Nat.mul_le_mul_right _ h2
  omega
theorem cloneU8 (l:List UInt8) (hl:l.length*1≤140737488355328∧l.length≤9223372036854775807):Tells P 306 [.val (bsl u8T) l] (.fresh 5 u8T l):=by
 refine zc Tryz.func306 rfl rfl rfl (fun ext w hext=>?_)
 refine ze (d:=0) rfl zk (fun hsl0=>?_)
 refine qao ?_;refine qaT ?_;refine zfg rfl rfl rfl rfl rfl za3 (fun c4 hc4=>?_)
 refine CN ?_;refine zr (p:=c4=true) rfl (by simp) (fun ht4=>?_) (fun ht4=>?_)
 ·
  obtain rfl:=hc4 ht4
  refine qao ?_;refine CN ?_
  exact zb rfl rfl (zm rfl)
 ·
  refine CSQR ?_;refine zbo (T:=u8T) (xs:=[]) rfl rfl rfl rfl zar zaZ trivial rfl rfl ?_;refine qaw ?_;refine zD rfl rfl rfl rfl rfl rfl rfl zaZ (by simpa using hl) ?_;refine qbk ?_
  exact zb rfl rfl (zf rfl rfl (by simp))
theorem binGet_ok (b:List UInt8) (p size:Int):Tells P 204 [.val (bsl u8T) b,.val i64T p,.val i64T size] (.tup2 (.val u64T (getU b p size)) (.val boolT (getOk b p size))):=by
 refine zc Tryz.func204 rfl rfl rfl (fun ext w hext=>?_)
 refine ze (d:=0) rfl zk (fun hsl0=>?_)
 refine ze (d:=1) rfl zn (fun hin1=>?_)
 refine ze (d:=2) rfl zn (fun hin2=>?_)
 refine CQR ?_;refine A0 aV ?_;refine qai ?_;refine A0 zbx ?_;refine Sp (d:=12) (p:=size<0) (fun g12=>?_) (fun g12=>?_)
 ·
  refine qaw ?_;refine qaC ?_;refine qae ?_;refine A2 ?_;refine qay ?_;refine qaM ?_;refine qab ?_;refine qat ?_;refine Ct ?_;refine CQR ?_;refine qbo ?_
  exact zT rfl rfl (za rfl ((getU_no (zcA (.inl g12))).symm)) (za rfl ((zcA (.inl g12)).symm))
 ·
  refine qbr ?_;refine A1 zaI ?_;refine Sp (d:=15) (p:=8<size) (fun g15=>?_) (fun g15=>?_)
  ·
   refine qae ?_;refine A2 ?_;refine qay ?_;refine qaM ?_;refine qab ?_;refine qat ?_;refine Ct ?_;refine CQR ?_;refine qbo ?_
   exact zT rfl rfl (za rfl ((getU_no (zcA (.inr (.inl g15)))).symm)) (za rfl ((zcA (.inr (.inl g15))).symm))
  ·
   refine qbs ?_;refine A1 zbx ?_;refine Sp (d:=19) (p:=p<0) (fun g19=>?_) (fun g19=>?_)
   ·
    refine qaM ?_;refine A2 ?_;refine qaM ?_;refine qab ?_;refine qat ?_;refine Ct ?_;refine CQR ?_;refine qbo ?_
    exact zT rfl rfl (za rfl ((getU_no (zcA (.inr (.inr (.inl g19))))).symm)) (za rfl ((zcA (.inr (.inr (.inl g19)))).symm))
   ·
    refine qae ?_;refine qaH ?_;refine A1 (zR rfl rfl za3) ?_;refine A1 zaI ?_;refine Sp (d:=25) (p:=(b.length:Int)<p) (fun g25=>?_) (fun g25=>?_)
    ·
     refine qaM ?_;refine qab ?_;refine qat ?_;refine Ct ?_;refine CQR ?_;refine qbo ?_
     exact zT rfl rfl (za rfl ((getU_no (zcA (.inr (.inr (.inr (.inl g25)))))).symm)) (za rfl ((zcA (.inr (.inr (.inr (.inl g25))))).symm))
    ·
     refine qae ?_;refine qaH ?_;refine A1 (zR rfl rfl za3) ?_;refine A1 mV ?_;refine A1 zaT ?_;refine A1 zaI ?_;refine qat ?_;refine Cf (p:=(b.length:Int)-p<size) (fun ht34=>?_) (fun ht34=>?_)
     ·
      refine CQR ?_;refine qbo ?_
      exact zT rfl rfl (za rfl ((getU_no (zcA (.inr (.inr (.inr (.inr ht34)))))).symm)) (za rfl ((zcA (.inr (.inr (.inr (.inr ht34))))).symm))
     ·
      have hok:=getOk_yes g12 g15 g19 g25 ht34
      obtain ⟨M,hM⟩:∃M,M=(b.drop p.toNat).take size.toNat:=⟨_,rfl⟩
      have hml:M.length=size.toNat:=by rw [hM,List.length_take,List.length_drop];omega
      refine CSQR ?_;refine qai ?_;refine qak ?_;refine qaY ?_;refine A0 (g_sl_lh rfl rfl rfl rfl zar (by first|assumption|omega|(simp;omega))) ?_;refine zi (d:=40) (y:=M) rfl (by rw [hM,List.drop_take];congr 1;omega) ?_;refine qbD ?_;refine qa8 ?_;refine Lp (ι:=Nat) 0 (fun (k:Nat)=>((((Fr.none).set 8 (.val u64T (valU (M.take k)))).set 40 (.val (bsl u8T) M)).set 41 (.val i64T (M.length:Int))).set 42 (.val i64T (k:Int))) (fun (k:Nat)=>Hp.none) (fun (k:Nat)=>k≤M.length) (fun (k:Nat)=>M.length-k) (0) (Nat.zero_le _) ?_
      intro k hinv
      refine qaj ?_;refine Cf (p:=k<M.length) (fun ht43=>?_) (fun ht43=>?_)
      ·
       obtain ⟨x,hx⟩:∃x,M[k]?=some x:=⟨_,List.getElem?_eq_getElem ht43⟩
       refine CSQBQR ?_;refine A0 (zu (i:=k) rfl rfl rfl (by omega) zar (by assumption)) ?_;refine A0 (zg rfl rfl ty_5) ?_;refine A0 aX ?_;refine CNR ?_;refine qaw ?_;refine A0 (g_shl64 rfl rfl rfl (by first|decide|(simp [IntL.toI];done)|(simp [IntL.toI];omega)) rfl) ?_;refine A0 mX ?_;refine A0 (zdH rfl (ui_47) (us_5) rfl) ?_;refine A0 (g_or64 rfl rfl rfl) ?_;refine A0 aV ?_;refine qaW ?_;refine zi (d:=8) (y:=valU (M.take (k+1))) rfl (by rw [List.take_add_one,hx];show _=valU (M.take k++[x]);rw [valU_snoc];rfl) ?_
       exact Nx (k+1) (by omega) (by omega)
      ·
       refine CE ?_;refine qa1 ?_;refine qbo ?_
       exact zT rfl rfl (za rfl (by rw [getU_yes hok,List.take_of_length_le (by omega),hM])) (za rfl (hok.symm))
theorem binBlob_ok (x:List UInt8):Tells P 202 [.val (bsl u8T) x] (.tup2 (.fresh 5 u8T (blobR x)) (.val boolT (blobOk x))):=by
 refine zc Tryz.func202 rfl rfl rfl (fun ext w hext=>?_)
 refine ze (d:=0) rfl zk (fun hsl0=>?_)
 refine qao ?_;refine qai ?_;refine qbD ?_;refine A0 zaI ?_;refine CN ?_;refine Cf (p:=65535<x.length) (fun ht6=>?_) (fun ht6=>?_)
 ·
  refine qaZ ?_
  exact zT rfl rfl (by rw [show blobR x=[] by unfold blobR blobOk;rw [if_neg (by rw [decide_eq_true_eq];omega)]];exact zm rfl) (za rfl (by unfold blobOk;symm;apply decide_eq_false;omega))
 ·
  have hbo:blobOk x=true:=decide_eq_true (by omega)
  have hn:=zH (u64OfI (IntL.toI i64T (x.length:Int))) 2
  refine qbF ?_;refine qbD ?_;refine A0 (zdH rfl (ui_47) (us_3) rfl) ?_;refine A0 (oCl (zp (zeO _ 2 (by decide))) rfl fn_144 ⟨(zd rfl),(zd rfl),trivial⟩) ?_;refine aw_lend (S:=bsl u8T) (d:=10) rfl ?_;refine qaw ?_;refine A0 (zt (T:=(bsl u8T)) (xs:=[_,_]) rfl zeF zdB ⟨rfl,rfl,rfl,rfl,trivial⟩ rfl rfl) ?_;refine zaA (zeL [numBytes (u64OfI (IntL.toI i64T (x.length:Int))) 2,x] (by simp [hn];omega)) rfl fn_143 ⟨(zd rfl),trivial⟩ rfl rfl rfl ?_;refine qbP ?_
  exact zT rfl rfl (zf rfl rfl (by unfold blobR;rw [if_pos hbo];unfold blobL;simp [IntL.toI])) (za rfl (hbo.symm))
theorem binCut_ok (b:List UInt8) (p:Int) (hb:b.length≤1000000000):Tells P 262 [.val (bsl u8T) b,.val i64T p] (.tup3 (.fresh 5 u8T (cutX b p)) (.val i64T (cutP2 b p)) (.val boolT (cutE b p))):=by
 have hu:=get2_le (b:=b) (p:=p)
 refine zc Tryz.func262 rfl rfl rfl (fun ext w hext=>?_)
 refine ze (d:=0) rfl zk (fun hsl0=>?_)
 refine ze (d:=1) rfl zn (fun hin1=>?_)
 refine qao ?_;refine qbw ?_;refine qaw ?_;refine A0 (oCl (binGet_ok b p 2) rfl fn_204 ⟨(zd rfl),(zd rfl),(zd rfl),trivial⟩) ?_;refine A0 mX ?_;refine A0 (by first|exact zN rfl rfl|exact zM rfl rfl) ?_;refine A0 (by first|exact zQ rfl rfl|exact zP rfl rfl) ?_;refine A0 aV ?_;refine qai ?_;refine A0 oN ?_;refine zL (d:=18) (p:=getOk b p 2=false) rfl (by cases getOk b p 2<;>rfl) (fun g18=>?_) (fun g18=>?_)
 ·
  have hcn:cutE b p=false:=by unfold cutE;rw [g18];rfl
  refine qbJ ?_;refine qab ?_;refine qaC ?_;refine qat ?_;refine Ct ?_;refine qao ?_;refine qbo ?_
  exact zdw rfl rfl (by rw [(cut_no hcn).1];exact zm rfl) (za rfl (by rw [(cut_no hcn).2])) (za rfl hcn.symm)
 ·
  have hg:getOk b p 2=true:=by simpa using g18
  have hu2:=hu hg
  have hgs:0≤p∧p≤b.length∧2≤(b.length:Int)-p:=by have h:=hg;unfold getOk at h;rw [decide_eq_true_eq] at h;omega
  have hti:IntL.toI u64T (getU b p 2)=((getU b p 2).toNat:Int):=rfl
  refine qbr ?_;refine A1 (zev rfl (ui_3) (us_47) rfl (by first|exact zaa (by omega)|rfl)) ?_;refine A1 mV ?_;refine A1 (zR rfl rfl za3) ?_;refine A1 mV ?_;refine A1 zaT ?_;refine A1 zaT ?_;refine A1 zaI ?_;refine qat ?_;refine Cf (p:=(b.length:Int)-p-2<((getU b p 2).toNat:Int)) (fun ht28=>?_) (fun ht28=>?_)
  ·
   have hcn:cutE b p=false:=by unfold cutE;rw [hg,Bool.true_and,decide_eq_false_iff_not];omega
   refine qao ?_;refine qbo ?_
   exact zdw rfl rfl (by rw [(cut_no hcn).1];exact zm rfl) (za rfl (by rw [(cut_no hcn).2])) (za rfl hcn.symm)
  ·
   have hce:cutE b p=true:=by unfold cutE;rw [hg,Bool.true_and,decide_eq_true_eq];omega
   refine CSQR ?_;refine qaY ?_;refine qaY ?_;refine qaw ?_;refine A0 (zev rfl (ui_3) (us_47) rfl (by first|exact zaa (by omega)|rfl)) ?_;refine A0 zby ?_;refine qbw ?_;refine qak ?_;refine qaw ?_;refine A0 (g_sl_lhm rfl rfl rfl rfl rfl zar (by first|assumption|omega|(simp;omega))) ?_;refine zi (d:=40) (y:=cutX b p) rfl (by rw [(cut_yes hce).1,List.drop_take];congr 1<;>first|omega|(congr 1;omega)) ?_
   have hcl:(cutX b p).length≤b.length:=by rw [(cut_yes hce).1,List.length_take,List.length_drop];omega
   refine zaA (cloneU8 (cutX b p) (by constructor<;>omega)) rfl fn_306 ⟨(zd rfl),trivial⟩ rfl rfl rfl ?_;refine qaw ?_;refine A0 aO ?_;refine qbo ?_
   exact zdw rfl rfl (zf rfl rfl (by simp)) (za rfl (by rw [(cut_yes hce).2,hti])) (za rfl hce.symm)
theorem binRows_ok (l:List (List UInt8)):Tells P 145 [.val (bsl (bsl u8T)) l] (.tup2 (.fresh 5 u8T (rowsR l)) (.val boolT (rowsOk l))):=by
 refine zc Tryz.func145 rfl rfl rfl (fun ext w hext=>?_)
 refine ze (d:=0) rfl zk (fun hsl0=>?_)
 refine qao ?_;refine qai ?_;refine A0 (zR rfl rfl isl_89) ?_;refine A0 zaI ?_;refine CN ?_;refine Cf (p:=255<l.length) (fun ht11=>?_) (fun ht11=>?_)
 ·
  refine qaZ ?_
  exact zT rfl rfl (by rw [show rowsR l=[] by unfold rowsR;rw [if_neg (by rw [rows_no ht11];decide)]];exact zm rfl) (za rfl ((rows_no ht11).symm))
 ·
  refine qbF ?_;refine A0 (zR rfl rfl isl_89) ?_;refine A0 (zew rfl (ui_5) (us_3) rfl) ?_;refine zbo (T:=u8T) (xs:=[_]) rfl rfl rfl rfl zar zaZ ⟨rfl,rfl,trivial⟩ rfl rfl ?_;refine A0 aO ?_;refine qaT ?_;refine A0 (zR rfl rfl isl_89) ?_;refine qa8 ?_;refine zA (n:=0) (y:=rowsN l 0) rfl (by rfl) ?_
  refine Lp (ι:=Nat) 1 (fun (k:Nat)=>(((((Fr.none).set 0 (.val (bsl (bsl u8T)) l)).set 4 (.own 0)).set 16 (.val (bsl (bsl u8T)) l)).set 17 (.val i64T (l.length:Int))).set 18 (.val i64T (k:Int))) (fun (k:Nat)=>(Hp.none).set 0 (.row 5 u8T (rowsN l k))) (fun (k:Nat)=>k≤l.length∧∀x∈l.take k,blobOk x=true) (fun (k:Nat)=>l.length-k) (0) (⟨Nat.zero_le _,fun x hx=>by simp at hx⟩) ?_
  intro k hinv
  refine qaj ?_;refine Cf (p:=k<l.length) (fun ht19=>?_) (fun ht19=>?_)
  ·
   obtain ⟨x,hx⟩:∃x,l[k]?=some x:=⟨_,List.getElem?_eq_getElem ht19⟩
   have hnl:=rowsN_len hinv.2
   refine CSQBQR ?_;refine A0 (zu (i:=k) rfl rfl rfl (by omega) zeF (by assumption)) ?_;refine A0 (zg rfl rfl zc6) ?_;refine qbe ?_;refine A0 (oCl (zbT (binBlob_ok x)) rfl fn_202 ⟨(by first|exact zB rfl|exact zZ rfl|exact zG rfl rfl|exact zX rfl|exact zx rfl|exact zag rfl rfl|exact zY rfl),trivial⟩) ?_;refine A0 mX ?_;refine A0 (by first|exact zN rfl rfl|exact zM rfl rfl) ?_;refine A0 (by first|exact zQ rfl rfl|exact zP rfl rfl) ?_;refine A0 aV ?_;refine qai ?_;refine qaN ?_
   refine zr (p:=¬blobOk x=true) rfl (by cases blobOk x<;>rfl) (fun ht28=>?_) (fun ht28=>?_)
   ·
    refine qaZ ?_
    exact zT rfl rfl (by rw [show rowsR l=[] by unfold rowsR;rw [if_neg (by rw [rows_bad hx ht28];decide)]];exact zm rfl) (za rfl ((rows_bad hx ht28).symm))
   ·
    have hbo:blobOk x=true:=Classical.not_not.1 ht28
    have hbr:blobR x=blobL x:=by unfold blobR;rw [if_pos hbo]
    have hbx:=of_decide_eq_true hbo
    have hbl:=blob_len x
    refine CS ?_;refine CR ?_;refine A0 mO ?_;refine qaw ?_;refine zD rfl rfl rfl rfl rfl rfl rfl zaZ (by rw [hbr];simp;omega) ?_;refine A0 aO ?_;refine qaW ?_;refine zaG 1 0 2 rfl rfl rfl rfl rfl rfl ?_;refine zA (n:=0) (y:=rowsN l (k+1)) rfl (by rw [hbr,rowsN_step hx]) ?_
    exact Nx (k+1) (⟨by omega,fun y hy=>by rw [List.take_add_one,hx] at hy;rcases List.mem_append.1 hy with h|h;exact hinv.2 y h;simp at h;rw [h];exact hbo⟩) (by omega)
  ·
   refine CE ?_;refine qb1 ?_;refine qbP ?_
   exact zT rfl rfl (zf rfl rfl (by unfold rowsR;rw [rows_all ht11 hinv.2 (by omega),if_pos rfl];exact rowsN_all (by omega))) (za rfl ((rows_all ht11 hinv.2 (by omega)).symm))
set_option maxRecDepth 20000
theorem ret_fnil {J:Job} {hp:Hp} {X:AV} {e:Nat} {α:Type} {T:GoT α} {l:List α} (h:X = .lit (.slice none 0 0)) (el:l=[]):RetOk J hp X (.fresh e T l):=by subst el;exact zm h
theorem zn_rows:ZeroAt P 89 nilT ():=zeB zero_nil (by kernel_rfl)
theorem drop_two {b:List UInt8} {p:Nat} (h:p+2≤b.length):∃a c r,b.drop p=a::c::r∧r=b.drop (p+2):=by
  obtain ⟨a,ha⟩:∃a,b[p]?=some a:=⟨_,List.getElem?_eq_getElem (by omega)⟩
  obtain ⟨c,hc⟩:∃c,b[p+1]?=some c:=⟨_,List.getElem?_eq_getElem (by omega)⟩
  refine ⟨a,c,b.drop (p+2),?_,rfl⟩
  have h1:b.drop p=a::b.drop (p+1):=by
    obtain ⟨h1,e⟩:=List.getElem?_eq_some_iff.1 ha
    rw [List.drop_eq_getElem_cons h1,e]
  have h2:b.drop (p+1)=c::b.drop (p+2):=by
    obtain ⟨h1,e⟩:=List.getElem?_eq_some_iff.1 hc
    rw [List.drop_eq_getElem_cons h1,e]
  rw [h1,h2]
theorem cut_drop {b:List UInt8} {p:Nat} (hp:p≤b.length):cutN (b.drop p)=if cutE b p=true then some (cutX b p,b.drop (cutP2 b p).toNat) else none:=by
  by_cases h2:p+2≤b.length
  · obtain ⟨a,c,r,e,er⟩:=drop_two h2
    have hg:getOk b p 2=true:=by unfold getOk;rw [decide_eq_true_eq];omega
    have hu:(getU b p 2).toNat=256*a.toNat+c.toNat:=by
      rw [getU_yes hg]
      have e1:(b.drop (p:Int).toNat).take (2:Int).toNat=[a,c]:=by
        rw [show ((p:Int)).toNat=p by omega,show (2:Int).toNat=2 from rfl,e];rfl
      rw [e1,valU_n [a,c] (by simp)]
      show 256*(256*0+a.toNat)+c.toNat=_
      omega
    have hrl:r.length=b.length-(p+2):=by rw [er,List.length_drop]
    rw [e,cutN]
    by_cases h3:256*a.toNat+c.toNat≤r.length
    · have hce : cutE b p = true := by
        unfold cutE
        rw [hg,Bool.true_and,decide_eq_true_eq,hu];omega
      obtain ⟨c1,c2⟩:=cut_yes hce
      rw [if_pos h3,if_pos hce,c1,c2,hu,show ((p:Int)).toNat=p by omega,←er]
      congr 2
      rw [er,List.drop_drop]
      congr 1
    · have hce : ¬ cutE b p = true := by
        unfold cutE
        rw [hg,Bool.true_and,decide_eq_true_eq,hu];omega
      rw [if_neg h3,if_neg hce]
  · have hg:getOk b p 2=false:=zcA (by omega)
    have hce:¬cutE b p=true:=by unfold cutE;rw [hg];simp
    rw [if_neg hce]
    match hd:b.drop p with
    | []=>rfl
    | [_]=>rfl
    | _::_::r =>
      have:=congrArg List.length hd
      rw [List.length_drop] at this
      simp at this;omega
structure SplitAt (b:List UInt8) (N:Nat) (p:Nat) (out:List (List UInt8)):Prop where
  p1:1≤p
  p2:p≤b.length
  n:out.length≤N
  l:(pieces N (b.drop 1)).1=out++(pieces (N-out.length) (b.drop p)).1
  z:(pieces N (b.drop 1)).2=(pieces (N-out.length) (b.drop p)).2
theorem split_start {b:List UInt8} {N:Nat} (h:1≤b.length):SplitAt b N 1 []:=⟨Nat.le_refl _,h,Nat.zero_le _,rfl,rfl⟩
theorem cut_next {b:List UInt8} {p:Nat} (hp:p≤b.length) (hc:cutE b p=true):∃q:Nat,cutP2 b p=(q:Int)∧p<q∧q≤b.length∧(cutX b p).length≤65535:=by
  have hg:getOk b p 2=true:=by
    unfold cutE at hc
    rw [Bool.and_eq_true] at hc;exact hc.1
  have hu:=get2_le hg
  have hgs:=hg
  unfold getOk at hgs
  rw [decide_eq_true_eq] at hgs
  have h2:=hc
  unfold cutE at h2
  rw [Bool.and_eq_true,decide_eq_true_eq] at h2
  obtain ⟨c1,c2⟩:=cut_yes hc
  refine ⟨p+2+(getU b p 2).toNat,by rw [c2];omega,by omega,by omega,?_⟩
  rw [c1,List.length_take];omega
theorem split_go {b:List UInt8} {N p:Nat} {out:List (List UInt8)} (h:SplitAt b N p out) (hc:cutE b p=true) (hn:¬out.length=N):SplitAt b N (cutP2 b p).toNat (out++[cutX b p]):=by
  obtain ⟨q,hq,h1,h2,_⟩:=cut_next h.p2 hc
  have hN:N-out.length=(N-(out++[cutX b p]).length)+1:=by
    have:=h.n
    rw [List.length_append,List.length_singleton];omega
  have hp:pieces (N-out.length) (b.drop p)=(cutX b p::(pieces (N-(out++[cutX b p]).length) (b.drop (cutP2 b p).toNat)).1,(pieces (N-(out++[cutX b p]).length) (b.drop (cutP2 b p).toNat)).2):=by
    rw [hN,pieces,cut_drop h.p2,if_pos hc]
  have hp1:=h.p1
  have hnn:=h.n
  refine ⟨by rw [hq];omega,by rw [hq];omega,by rw [List.length_append,List.length_singleton];omega,?_,?_⟩
  · rw [h.l,hp,List.append_assoc];rfl
  · rw [h.z,hp]
theorem za6 {b:List UInt8} {N p:Nat} {out:List (List UInt8)} (h:SplitAt b N p out) (hc:cutE b p=false∨out.length=N):pieces N (b.drop 1)=(out,b.drop p):=by
  have hp:pieces (N-out.length) (b.drop p)=([],b.drop p):=by
    by_cases e:out.length=N
    · rw [show N-out.length=0 by omega];rfl
    · have hn:=h.n
      rw [show N-out.length=(N-out.length-1)+1 by omega,pieces,cut_drop h.p2,if_neg (by rw [hc.resolve_right e];decide)]
  have h1:=h.l
  have h2:=h.z
  rw [hp] at h1 h2
  rw [List.append_nil] at h1
  exact Prod.ext h1 h2
theorem za7 {b:List UInt8} {n0:UInt8} {p:Nat} {out:List (List UInt8)} (h0:b[0]?=some n0) (h:pieces n0.toNat (b.drop 1)=(out,b.drop p)):splitOf b=if out.length=n0.toNat∧b.drop p=[] then (out,true) else ([],false):=by
  match b,h0 with
  | n::r,h0 =>
    have e:n=n0:=by simpa using h0
    subst e
    have h:pieces n.toNat r=(out,(n::r).drop p):=h
    unfold splitOf
    simp only []
    rw [h]
theorem binSplit_ok (b:List UInt8) (hb:b.length≤1000000000):Tells P 147 [.val (bsl u8T) b] (.tup2 (.fresh 26 (sl u8T) (splitOf b).1) (.val boolT (splitOf b).2)):=by
 refine zc Tryz.func147 rfl rfl rfl (fun ext w hext=>?_)
 refine ze (d:=0) rfl zk (fun hsl0=>?_)
 refine qaf ?_;refine A0 aL ?_;refine A0 aV ?_;refine CNQQR ?_;refine A0 (oLs rfl rfl rfl zc6) ?_;refine qbD ?_;refine A0 zbf ?_;refine CN ?_;refine zr (p:=b.length=0) rfl (by simp [IntL.toI]) (fun ht10=>?_) (fun ht10=>?_)
 ·
  refine qaZ ?_
  exact zT rfl rfl (by rw [List.length_eq_zero_iff.1 ht10];exact zm rfl) (za rfl (by rw [List.length_eq_zero_iff.1 ht10];rfl))
 ·
  obtain ⟨n0,hn0⟩:∃n0,b[0]?=some n0:=⟨_,List.getElem?_eq_getElem (by omega)⟩
  have hn8:n0.toNat<256:=n0.toNat_lt
  have hti8:IntL.toI u8T n0=(n0.toNat:Int):=rfl
  refine CSQR ?_;refine zw zn_rows rfl rfl rfl rfl ?_;refine CN ?_;refine aw_nilbox 1 26 (sl u8T) rfl ?_;refine CQR ?_;refine zw ze_3 rfl rfl rfl rfl ?_;refine zh rfl rfl rfl rfl rfl (Lens.self _) ty_3 rfl ?_;refine CNQQR ?_;refine A0 (oLs rfl rfl rfl zc6) ?_;refine zU rfl rfl rfl rfl Tryz.func203 fn_203 rfl rfl (fun ia2 iok2=>?_)
  refine qaf ?_;refine A0 aL ?_;refine CNQR ?_;refine A0 (g_mkf (caps:=[_]) rfl rfl) ?_;refine A0 aC ?_;refine CN ?_;refine zaK rfl ?_;refine CNB ?_;refine aw_range rfl rfl rfl Tryz.func261 fn_261 rfl rfl (by intro n hn;simp only [List.mem_cons,List.not_mem_nil,or_false] at hn;rcases hn with rfl<;>rfl) (fun fid3 ca3 lN3 DN3 cok3 rc3 hrc3=>?_)
  refine CQR ?_;refine A0 aV ?_;refine CNB ?_;refine zaG 2 7 8 rfl rfl rfl rfl rfl rfl ?_
  refine Lp (ι:=Nat×List (List UInt8)) 8 (fun (i:Nat×List (List UInt8))=>match i with|(p,out)=>(((Fr.none).set 0 (.lit (.func (.yield lN3) #[] #[]))).set 1 (.ptr 4 0)).set 3 (.val i64T (p:Int))) (fun (i:Nat×List (List UInt8))=>match i with|(p,out)=>(((((((Hp.none).set 0 (.box 26 (bsl u8T) b)).set 1 (.parts 89 [.own 7])).set 3 (.box 3 i64T (p:Int))).set 4 (.box 26 (bsl u8T) b)).set 7 (.row 26 (sl u8T) out)).set 5 (.objAt DN3 (.deferred (some [])))).set 6 (.objAt lN3 (rc3 .ready none))) (fun (i:Nat×List (List UInt8))=>match i with|(p,out)=>SplitAt b n0.toNat p out) (fun (i:Nat×List (List UInt8))=>match i with|(p,out)=>b.length-p) ((1,[])) (split_start (by omega)) ?_
  intro ⟨p,out⟩ hinv
  dsimp only at hinv
  refine CB ?_;refine CQR ?_;refine A0 (oLs rfl rfl rfl zc6) ?_;refine qaw ?_;refine A0 (oCl (tells_pub3 (binCut_ok b p hb)) rfl fn_262 ⟨(zd rfl),(zd rfl),trivial⟩) ?_;refine A0 mX ?_;refine A0 (by first|exact zN rfl rfl|exact zM rfl rfl) ?_;refine A0 (by first|exact zQ rfl rfl|exact zP rfl rfl) ?_;refine A0 e32 ?_;refine A0 aV ?_;refine A0 aV ?_;refine qai ?_;refine A0 oN ?_;refine zL (d:=15) (p:=cutE b p=false) rfl (by cases cutE b p<;>rfl) (fun g15=>?_) (fun g15=>?_)
  ·
   refine qbJ ?_;refine qaC ?_;refine qat ?_;refine Ct ?_;refine aw_iter_ret (nL:=6) rfl hrc3 rfl (by decide) ?_;refine CI ?_;refine CQ ?_;refine qbc ?_;refine G0 (by first|exact zo rfl rfl rfl rfl rfl ty_89|exact zaU rfl rfl rfl rfl ty_89) ?_;refine G0 (zan rfl rfl rfl isl_89) ?_;refine G0 (oLs rfl rfl rfl zc6) ?_;refine G0 (zu (i:=0) rfl rfl rfl (by omega) zar (by assumption)) ?_;refine G0 (zg rfl rfl ty_5) ?_;refine G0 (zev rfl (ui_3) (us_5) rfl (by first|exact zaa (by omega)|rfl)) ?_;refine G0 zdr ?_
   refine zai (d:=33) (p:=¬out.length=n0.toNat) rfl (by rw [←decide_not,decide_eq_decide,hti8];simp only [IntL.toI,id_eq];omega) (fun g33=>?_) (fun g33=>?_)
   ·
    refine G0 mV ?_;refine qau ?_;refine G2 ?_;refine qaE ?_;refine Ct ?_;refine qaZ ?_;refine zao (zbP (nD:=5) rfl rfl rfl ?_)
    exact ar_ret2 rfl rfl (ret_fnil rfl (by rw [za7 hn0 (za6 hinv (.inl g15)),if_neg (fun h=>g33 h.1)])) (za rfl (by rw [za7 hn0 (za6 hinv (.inl g15)),if_neg (fun h=>g33 h.1)]))
   ·
    refine G0 mV ?_;refine G1 (oLs rfl rfl rfl ty_3) ?_;refine G1 (oLs rfl rfl rfl zc6) ?_;refine G1 (zR rfl rfl za3) ?_;refine G1 zdr ?_;refine qaE ?_;refine zr (p:=¬p=b.length) rfl (by simp [IntL.toI];omega) (fun ht39=>?_) (fun ht39=>?_)
    ·
     refine qaZ ?_;refine zao (zbP (nD:=5) rfl rfl rfl ?_)
     exact ar_ret2 rfl rfl (ret_fnil rfl (by rw [za7 hn0 (za6 hinv (.inl g15)),if_neg (fun h=>ht39 (by have:=List.drop_eq_nil_iff.1 h.2;have:=hinv.p2;omega))])) (za rfl (by rw [za7 hn0 (za6 hinv (.inl g15)),if_neg (fun h=>ht39 (by have:=List.drop_eq_nil_iff.1 h.2;have:=hinv.p2;omega))]))
    ·
     refine CSQR ?_;refine A0 (by first|exact zo rfl rfl rfl rfl rfl ty_89|exact zaU rfl rfl rfl rfl ty_89) ?_;refine qbP ?_;refine zao (zbP (nD:=5) rfl rfl rfl ?_)
     exact ar_ret2 rfl rfl (zf rfl rfl (by rw [za7 hn0 (za6 hinv (.inl g15)),if_pos (⟨Classical.not_not.1 g33,List.drop_eq_nil_iff.2 (by have:=Classical.not_not.1 ht39;omega)⟩)])) (za rfl (by rw [za7 hn0 (za6 hinv (.inl g15)),if_pos (⟨Classical.not_not.1 g33,List.drop_eq_nil_iff.2 (by have:=Classical.not_not.1 ht39;omega)⟩)]))
  ·
   have hce:cutE b p=true:=by simpa using g15
   obtain ⟨q,hq,hpq,hqb,hxl⟩:=cut_next hinv.p2 hce
   have hol:=hinv.n
   refine qaw ?_;refine A1 mL ?_;refine qaH ?_;refine aw_unguard rfl rfl rfl rfl rfl rfl ?_;refine aw_yield (nL:=6) rfl rfl rfl rfl rfl hrc3 rfl rfl rfl (fun ya4 yok4=>?_)
   refine CQR ?_;refine qbG ?_;refine qac ?_;refine aw_begin (nL:=6) hrc3 rfl ?_;refine CB ?_;refine CQ ?_;refine qbc ?_;refine G0 (by first|exact zo rfl rfl rfl rfl rfl ty_89|exact zaU rfl rfl rfl rfl ty_89) ?_;refine G0 (zan rfl rfl rfl isl_89) ?_;refine G0 (oLs rfl rfl rfl zc6) ?_;refine G0 (zu (i:=0) rfl rfl rfl (by omega) zar (by assumption)) ?_;refine G0 (zg rfl rfl ty_5) ?_;refine G0 (zev rfl (ui_3) (us_5) rfl (by first|exact zaa (by omega)|rfl)) ?_;refine G0 zbf ?_;refine GK.nil ?_;refine Cf (p:=out.length=n0.toNat) (fun ht21=>?_) (fun ht21=>?_)
   ·
    refine aw_round_exit (nL:=6) rfl hrc3 rfl ?_;refine A1 oN ?_;refine qat ?_;refine Ct ?_;refine aw_iter_ret (nL:=6) rfl hrc3 rfl (by decide) ?_;refine CE ?_;refine CQ ?_;refine qbc ?_;refine G0 (by first|exact zo rfl rfl rfl rfl rfl ty_89|exact zaU rfl rfl rfl rfl ty_89) ?_;refine G0 (zan rfl rfl rfl isl_89) ?_;refine G0 (oLs rfl rfl rfl zc6) ?_;refine G0 (zu (i:=0) rfl rfl rfl (by omega) zar (by assumption)) ?_;refine G0 (zg rfl rfl ty_5) ?_;refine G0 (zev rfl (ui_3) (us_5) rfl (by first|exact zaa (by omega)|rfl)) ?_;refine G0 zdr ?_
    refine zai (d:=33) (p:=¬out.length=n0.toNat) rfl (by rw [←decide_not,decide_eq_decide,hti8];simp only [IntL.toI,id_eq];omega) (fun g33=>?_) (fun g33=>?_)
    ·
     refine G0 mV ?_;refine qau ?_;refine G2 ?_;refine qaE ?_;refine Ct ?_;refine qaZ ?_;refine zao (zbP (nD:=5) rfl rfl rfl ?_)
     exact ar_ret2 rfl rfl (ret_fnil rfl (by rw [za7 hn0 (za6 hinv (.inr ht21)),if_neg (fun h=>g33 h.1)])) (za rfl (by rw [za7 hn0 (za6 hinv (.inr ht21)),if_neg (fun h=>g33 h.1)]))
    ·
     refine G0 mV ?_;refine G1 (oLs rfl rfl rfl ty_3) ?_;refine G1 (oLs rfl rfl rfl zc6) ?_;refine G1 (zR rfl rfl za3) ?_;refine G1 zdr ?_;refine qaE ?_;refine zr (p:=¬p=b.length) rfl (by simp [IntL.toI];omega) (fun ht39=>?_) (fun ht39=>?_)
     ·
      refine qaZ ?_;refine zao (zbP (nD:=5) rfl rfl rfl ?_)
      exact ar_ret2 rfl rfl (ret_fnil rfl (by rw [za7 hn0 (za6 hinv (.inr ht21)),if_neg (fun h=>ht39 (by have:=List.drop_eq_nil_iff.1 h.2;have:=hinv.p2;omega))])) (za rfl (by rw [za7 hn0 (za6 hinv (.inr ht21)),if_neg (fun h=>ht39 (by have:=List.drop_eq_nil_iff.1 h.2;have:=hinv.p2;omega))]))
     ·
      refine CSQR ?_;refine A0 (by first|exact zo rfl rfl rfl rfl rfl ty_89|exact zaU rfl rfl rfl rfl ty_89) ?_;refine qbP ?_;refine zao (zbP (nD:=5) rfl rfl rfl ?_)
      exact ar_ret2 rfl rfl (zf rfl rfl (by rw [za7 hn0 (za6 hinv (.inr ht21)),if_pos (⟨Classical.not_not.1 g33,List.drop_eq_nil_iff.2 (by have:=Classical.not_not.1 ht39;omega)⟩)])) (za rfl (by rw [za7 hn0 (za6 hinv (.inr ht21)),if_pos (⟨Classical.not_not.1 g33,List.drop_eq_nil_iff.2 (by have:=Classical.not_not.1 ht39;omega)⟩)]))
   ·
    refine CSQR ?_;refine A0 (by first|exact zo rfl rfl rfl rfl rfl ty_89|exact zaU rfl rfl rfl rfl ty_89) ?_;refine qaw ?_;refine A0 (zt (T:=(sl u8T)) (xs:=[_]) rfl zeF zdB ⟨rfl,rfl,trivial⟩ rfl rfl) ?_;refine zD rfl rfl rfl rfl rfl rfl rfl zdB (by simp;omega) ?_;refine zaj rfl rfl rfl rfl rfl rfl rfl rfl rfl rfl ty_89 ?_;refine CNR ?_;refine qaw ?_;refine zh rfl rfl rfl rfl rfl (Lens.self _) ty_3 rfl ?_;refine CN ?_;refine CI ?_;refine zdl (nL:=6) hrc3 rfl ?_;refine A1 oN ?_;refine qat ?_;refine Cg ?_;refine CS ?_;refine CR ?_;refine qaw ?_
    refine qac ?_;refine CI ?_;refine zaG 8 7 9 rfl rfl rfl rfl rfl rfl ?_;refine zS (n:=3) (y:=(((cutP2 b p).toNat:Nat):Int)) rfl (by rw [hq];omega) ?_;refine zi (d:=3) (y:=(((cutP2 b p).toNat:Nat):Int)) rfl (by rw [hq];omega) ?_
    exact Nx (((cutP2 b p).toNat,out++[cutX b p])) (split_go hinv hce ht21) (by show b.length-(cutP2 b p).toNat<b.length-p;omega)
end Go.Proofs.YtjjlfapfjjkomaaGreat
