/- Parts of the proof: the layer that reads Go values as data, and what the functions of the program tell. -/
import Derived.Test.YtjjlfapfjjkomaaGreatK5
set_option linter.unusedVariables false
set_option linter.unusedSimpArgs false
set_option maxRecDepth 20000
namespace Go.Proofs.YtjjlfapfjjkomaaGreat
open Go.Ab Go.RowKit
def sortI_ren:Go.Shelf.Ren:=⟨fun|189=>102|125=>155|257=>154|128=>214|129=>215|294=>206|295=>207|296=>208|297=>209|298=>210|299=>211|216=>77|300=>212|301=>213|328=>263|329=>264|330=>265|331=>266|332=>267|215=>132|343=>307|n=>n,fun|28=>41|3=>3|46=>135|0=>0|51=>50|53=>47|4=>4|183=>250|182=>249|131=>79|5=>5|9=>9|218=>286|222=>290|228=>326|229=>327|n=>n,fun|n=>n⟩
theorem sortI:Go.Proofs.Lays.n189 P sortI_ren:={
  mixed:=by kernel_rfl,
  f125:=Tryz.func155.trans (congrArg some (by kernel_rfl)),
  f128:=Tryz.func214.trans (congrArg some (by kernel_rfl)),
  f129:=Tryz.func215.trans (congrArg some (by kernel_rfl)),
  f189:=Tryz.func102.trans (congrArg some (by kernel_rfl)),
  f215:=Tryz.func132.trans (congrArg some (by kernel_rfl)),
  f216:=Tryz.func77.trans (congrArg some (by kernel_rfl)),
  f257:=Tryz.func154.trans (congrArg some (by kernel_rfl)),
  f294:=Tryz.func206.trans (congrArg some (by kernel_rfl)),
  f295:=Tryz.func207.trans (congrArg some (by kernel_rfl)),
  f296:=Tryz.func208.trans (congrArg some (by kernel_rfl)),
  f297:=Tryz.func209.trans (congrArg some (by kernel_rfl)),
  f298:=Tryz.func210.trans (congrArg some (by kernel_rfl)),
  f299:=Tryz.func211.trans (congrArg some (by kernel_rfl)),
  f300:=Tryz.func212.trans (congrArg some (by kernel_rfl)),
  f301:=Tryz.func213.trans (congrArg some (by kernel_rfl)),
  f328:=Tryz.func263.trans (congrArg some (by kernel_rfl)),
  f329:=Tryz.func264.trans (congrArg some (by kernel_rfl)),
  f330:=Tryz.func265.trans (congrArg some (by kernel_rfl)),
  f331:=Tryz.func266.trans (congrArg some (by kernel_rfl)),
  f332:=Tryz.func267.trans (congrArg some (by kernel_rfl)),
  f343:=Tryz.func307.trans (congrArg some (by kernel_rfl)),
  t0:=Tryz.underlying0,
  a0:=Tryz.isAgg0,
  z0:=Tryz.sizeOf0,
  v0:=Tryz.zeroValue0,
  t3:=Tryz.underlying3,
  a3:=Tryz.isAgg3,
  z3:=Tryz.sizeOf3,
  v3:=Tryz.zeroValue3,
  t4:=Tryz.underlying4,
  a4:=Tryz.isAgg4,
  z4:=Tryz.sizeOf4,
  v4:=Tryz.zeroValue4,
  t5:=Tryz.underlying5,
  a5:=Tryz.isAgg5,
  z5:=Tryz.sizeOf5,
  v5:=Tryz.zeroValue5,
  t9:=Tryz.underlying9,
  a9:=Tryz.isAgg9,
  z9:=Tryz.sizeOf9,
  v9:=Tryz.zeroValue9,
  t28:=Tryz.underlying41,
  a28:=Tryz.isAgg41,
  z28:=Tryz.sizeOf41,
  v28:=Tryz.zeroValue41,
  t46:=Tryz.underlying135,
  a46:=Tryz.isAgg135,
  z46:=Tryz.sizeOf135,
  v46:=Tryz.zeroValue135,
  t51:=Tryz.underlying50,
  a51:=Tryz.isAgg50,
  z51:=Tryz.sizeOf50,
  v51:=Tryz.zeroValue50,
  t53:=Tryz.underlying47,
  a53:=Tryz.isAgg47,
  z53:=Tryz.sizeOf47,
  v53:=Tryz.zeroValue47,
  t131:=Tryz.underlying79,
  a131:=Tryz.isAgg79,
  z131:=Tryz.sizeOf79,
  v131:=Tryz.zeroValue79,
  t182:=Tryz.underlying249,
  a182:=Tryz.isAgg249,
  z182:=Tryz.sizeOf249,
  v182:=Tryz.zeroValue249,
  t183:=Tryz.underlying250,
  a183:=Tryz.isAgg250,
  z183:=Tryz.sizeOf250,
  v183:=Tryz.zeroValue250,
  t218:=Tryz.underlying286,
  a218:=Tryz.isAgg286,
  z218:=Tryz.sizeOf286,
  v218:=Tryz.zeroValue286,
  t222:=Tryz.underlying290,
  a222:=Tryz.isAgg290,
  z222:=Tryz.sizeOf290,
  v222:=Tryz.zeroValue290,
  t228:=Tryz.underlying326,
  a228:=Tryz.isAgg326,
  z228:=Tryz.sizeOf326,
  v228:=Tryz.zeroValue326,
  t229:=Tryz.underlying327,
  a229:=Tryz.isAgg327,
  z229:=Tryz.sizeOf327,
  v229:=Tryz.zeroValue327 }
theorem sortInt_ok (l:List Int) (hn:l.length<1000000000):TellsM P 102 (.row 3 i64T l) [.own 0] (.lit (.tuple #[])) (.row 3 i64T (sortInts l)):=sorti_tells sortI hn
def mayV (v:List Int):Bool:=decide (0<v.length∧v.length≤200∧v[0]?=some 31) && !(v.any fun n=>decide (n<0∨31<n))
def mayP (v:List Int) (m k:Int):Bool:=mayV v&&decide (1≤m∧1≤k∧k<v.length)
def upR (v:List Int) (n:Int) (a i:Nat):List Int:=((List.range' a (i-a)).filter fun j:Nat=>decide (n≤v.getD j 0)).map fun j:Nat=>(j:Int)
def upOf (v:List Int) (a b n:Int):List Int:=upR v n (max a 0).toNat (min b v.length).toNat
theorem upR_length (v:List Int) (n:Int) (a i:Nat):(upR v n a i).length≤i-a:=by
  unfold upR
  rw [List.length_map]
  exact Nat.le_trans (List.length_filter_le _ _) (by simp)
theorem up_length (v:List Int) (a b n:Int):(upOf v a b n).length≤v.length:=Nat.le_trans (upR_length ..) (by omega)
theorem upR_same (v:List Int) (n:Int) (a:Nat):upR v n a a=[]:=by unfold upR;simp
theorem upR_succ {v:List Int} {n x:Int} {a i:Nat} (hx:v[i]?=some x) (ha:a≤i):upR v n a (i+1)=upR v n a i++(if n≤x then [(i:Int)] else []):=by
  unfold upR
  rw [show i+1-a=(i-a)+1 by omega,List.range'_1_concat,show a+(i-a)=i by omega,List.filter_append,List.map_append]
  congr 1
  have:v.getD i 0=x:=by simp [hx]
  by_cases c:n≤x<;>simp [c,hx]
theorem upR_yes {v:List Int} {n x:Int} {a i:Nat} (hx:v[i]?=some x) (ha:a≤i) (h:n≤x):upR v n a (i+1)=upR v n a i++[(i:Int)]:=by rw [upR_succ hx ha,if_pos h]
theorem upR_no {v:List Int} {n x:Int} {a i:Nat} (hx:v[i]?=some x) (ha:a≤i) (h:¬n≤x):upR v n a (i+1)=upR v n a i:=by rw [upR_succ hx ha,if_neg h,List.append_nil]
theorem upR_empty {v:List Int} {n:Int} {a i:Nat} (h:i≤a):upR v n a i=[]:=by unfold upR;rw [show i-a=0 by omega];rfl
theorem upOf_end {v:List Int} {a b n:Int} {i:Nat} (h1:(max a 0).toNat≤i) (h2:(i:Int)≤min b v.length∨i=(max a 0).toNat) (h3:¬(i:Int)<min b v.length):upR v n (max a 0).toNat i=upOf v a b n:=by
  unfold upOf
  by_cases c:(i:Int)=min b v.length
  · rw [show (min b v.length).toNat=i by omega]
  · rw [upR_empty (by omega),upR_empty (by omega)]
theorem mem_upR {v:List Int} {n:Int} {a i:Nat} {x:Int}:x∈upR v n a i↔∃j:Nat,x=j∧a≤j∧j<i∧n≤v.getD j 0:=by
  unfold upR
  simp only [List.mem_map,List.mem_filter,List.mem_range'_1,decide_eq_true_eq]
  constructor
  · rintro ⟨j,⟨h1,h2⟩,rfl⟩;exact ⟨j,rfl,h1.1,by omega,h2⟩
  · rintro ⟨j,rfl,h1,h2,h3⟩;exact ⟨j,⟨⟨h1,by omega⟩,h3⟩,rfl⟩
theorem zdw {v:List Int} {a b n x:Int}:x∈upOf v a b n↔∃j:Nat,x=j∧a≤j∧(j:Int)<b∧j<v.length∧n≤v.getD j 0:=by
  unfold upOf
  rw [mem_upR]
  constructor
  · rintro ⟨j,rfl,h1,h2,h3⟩;exact ⟨j,rfl,by omega,by omega,by omega,h3⟩
  · rintro ⟨j,rfl,h1,h2,h3,h4⟩;exact ⟨j,rfl,by omega,by omega,h4⟩
def climbS (v:List Int) (m k:Int):Nat→Int×List Int
  | 0=>(0,[])
  | i+1 =>
    (if m<(upOf v (climbS v m k i).1 ((v.length:Int)-k) (31-(i:Int))).length then (upOf v (climbS v m k i).1 ((v.length:Int)-k) (31-(i:Int))).getD ((upOf v (climbS v m k i).1 ((v.length:Int)-k) (31-(i:Int))).length-m.toNat) 0 else (climbS v m k i).1,
      (upOf v (climbS v m k i).1 ((v.length:Int)-k) (31-(i:Int))).foldl setAdd (climbS v m k i).2)
def prefixOf (v:List Int) (m k:Int):List Int×Bool:=if mayP v m k=true then (sortInts (climbS v m k 32).2,true) else ([],false)
theorem zbV {v L:List Int} {m k c:Int} {i:Nat} (hL:L=upOf v (climbS v m k i).1 ((v.length:Int)-k) (31-(i:Int))) (hc:L[L.length-m.toNat]?=some c) (h:m<L.length):c=(climbS v m k (i+1)).1:=by
  show c=if _ then _ else _
  rw [←hL,if_pos h];simp [hc]
theorem zbN {v L:List Int} {m k:Int} {i:Nat} (hL:L=upOf v (climbS v m k i).1 ((v.length:Int)-k) (31-(i:Int))) (h:¬m<L.length):(climbS v m k i).1=(climbS v m k (i+1)).1:=by
  show _=if _ then _ else _
  rw [←hL,if_neg h]
theorem zcC:∀(L K:List Int) (x:Int),x∈L.foldl setAdd K↔x∈K∨x∈L
  | [],K,x=>by simp
  | y::L,K,x=>by rw [List.foldl_cons,zcC L,mem_setAdd,List.mem_cons];exact ⟨fun h=>by rcases h with (h|h)|h<;>simp [h],fun h=>by rcases h with h|h|h<;>simp [h]⟩
theorem fold_nodup:∀(L K:List Int),K.Nodup→(L.foldl setAdd K).Nodup
  | [],K,h=>h
  | y::L,K,h=>fold_nodup L _ (setAdd_nodup h)
theorem zcV {v:List Int} {m k:Int} (h:mayP v m k=true):mayV v=true∧1≤m∧1≤k∧k<v.length:=by
  unfold mayP at h
  rw [Bool.and_eq_true,decide_eq_true_eq] at h
  exact h
theorem mayV_spec {v:List Int} (h:mayV v=true):0<v.length∧v.length≤200∧v[0]?=some 31∧∀n∈v,0≤n∧n≤31:=by
  unfold mayV at h
  rw [Bool.and_eq_true,decide_eq_true_eq,Bool.not_eq_true',List.any_eq_false] at h
  refine ⟨h.1.1,h.1.2.1,h.1.2.2,fun n hn=>?_⟩
  have:=h.2 n hn
  rw [decide_eq_true_eq] at this
  omega
theorem zci {v:List Int} {m k:Int} (h:mayP v m k=true):1≤m∧1≤k∧k<v.length∧v.length≤200:=⟨(zcV h).2.1,(zcV h).2.2.1,(zcV h).2.2.2,(mayV_spec (zcV h).1).2.1⟩
theorem climb_ok {v:List Int} {m k:Int} (h:mayP v m k=true):∀i:Nat,i≤32→(0≤(climbS v m k i).1∧(climbS v m k i).1<v.length)∧(climbS v m k i).2.Nodup∧∀x∈(climbS v m k i).2,0≤x∧x<(v.length:Int)-k
  | 0,_=>by
    have:=zci h
    exact ⟨⟨Int.le_refl _,by show (0:Int)<_;omega⟩,List.nodup_nil,fun x hx=>by cases hx⟩
  | i+1,hi=>by
    obtain ⟨h1,h2,h3⟩:=climb_ok h i (by omega)
    have hl:=zci h
    obtain ⟨L,hL⟩:∃L,L=upOf v (climbS v m k i).1 ((v.length:Int)-k) (31-(i:Int)):=⟨_,rfl⟩
    have hm:∀x∈L,0≤x∧x<(v.length:Int)-k:=fun x hx=>by
      rw [hL] at hx
      obtain ⟨j,rfl,_,h5,_⟩:=zdw.1 hx
      omega
    refine ⟨?_,?_,?_⟩
    · by_cases c:m<L.length
      · obtain ⟨z,hz⟩:∃z,L[L.length-m.toNat]?=some z:=⟨_,List.getElem?_eq_getElem (by omega)⟩
        rw [←zbV hL hz c]
        have:=hm z (List.mem_of_getElem? hz)
        omega
      · rw [←zbN hL c];exact h1
    · show (List.foldl setAdd _ _).Nodup
      exact fold_nodup _ _ h2
    · intro x hx
      have hx:x∈(upOf v (climbS v m k i).1 ((v.length:Int)-k) (31-(i:Int))).foldl setAdd (climbS v m k i).2:=hx
      rw [←hL,zcC] at hx
      exact hx.elim (h3 x) (hm x)
theorem filter_two {α:Type} (p:α→Bool):∀l:List α,l.length=(l.filter p).length+(l.filter fun x=>!p x).length
  | []=>rfl
  | x::l=>by
    have:=filter_two p l
    cases h:p x<;>simp [h,this]<;>omega
theorem nodup_le:∀{n:Nat} {l:List Nat},l.Nodup→(∀i∈l,i<n)→l.length≤n
  | 0,[],_,_=>Nat.le_refl _
  | 0,x::l,_,h=>absurd (h x (List.mem_cons_self ..)) (Nat.not_lt_zero _)
  | n+1,l,hd,h=>by
    have h1:(l.filter fun i=>decide (i≠n)).length≤n:=nodup_le (hd.sublist List.filter_sublist) (fun i hi=>by
      rw [List.mem_filter] at hi
      have:=h i hi.1
      have:=of_decide_eq_true hi.2
      omega)
    have h2:(l.filter fun i=>!decide (i≠n)).length≤1:=by
      have hs:(l.filter fun i=>!decide (i≠n)).Nodup:=hd.sublist List.filter_sublist
      match hf:l.filter (fun i=>!decide (i≠n)) with
      | []=>simp
      | [_]=>simp
      | a::b::_ =>
        rw [hf] at hs
        have ha:a∈l.filter fun i=>!decide (i≠n):=by rw [hf];simp
        have hb:b∈l.filter fun i=>!decide (i≠n):=by rw [hf];simp
        simp only [List.mem_filter,Bool.not_eq_true',decide_eq_false_iff_not,Decidable.not_not] at ha hb
        simp [ha.2,hb.2] at hs
    have h3:=filter_two (fun i=>decide (i≠n)) l
    omega
theorem seen_step {K : List Int} {seen : List Nat} {i : Nat} {v : Int} (hs : seen.Nodup ∧ ∀ i ∈ seen, i < K.length) (hv : K[i]? = some v) (hi : i ∉ seen) :
    ((seen++[i]).Nodup∧∀j∈seen++[i],j<K.length)∧K.length-(seen++[i]).length<K.length-seen.length∧seen.length<K.length:=by
  have h1:(seen++[i]).Nodup∧∀j∈seen++[i],j<K.length:=⟨List.nodup_append.2 ⟨hs.1,by simp,fun a ha b hb=>by simp at hb;subst hb;exact fun e=>hi (e▸ha)⟩,fun j hj=>by
    rcases List.mem_append.1 hj with h|h
    · exact hs.2 j h
    · simp at h;subst h;exact (List.getElem?_eq_some_iff.1 hv).1⟩
  have h2:=nodup_le h1.1 h1.2
  simp only [List.length_append,List.length_cons,List.length_nil] at h2
  exact ⟨h1,by simp;omega,by omega⟩
theorem seen_all {K:List Int} {seen:List Nat} (hs:seen.Nodup∧∀i∈seen,i<K.length) (h:∀i,i<K.length→i∈seen):(seen.map fun i=>K.getD i 0).Perm K:=by
  have h1:seen.Perm (List.range K.length):=(List.perm_ext_iff_of_nodup hs.1 List.nodup_range).2 fun i=>by rw [List.mem_range];exact ⟨hs.2 i,h i⟩
  refine (h1.map _).trans ?_
  have:(List.range K.length).map (fun i=>K.getD i 0)=K:=by
    apply List.ext_getElem?
    intro i
    rw [List.getElem?_map]
    by_cases c:i<K.length
    · rw [List.getElem?_range c,List.getElem?_eq_getElem c];simp [c]
    · rw [List.getElem?_eq_none (by simpa using c),List.getElem?_eq_none (by omega)];rfl
  rw [this]
theorem zfu {l:List Int} {x:Int}:x∈sortInts l↔x∈l:=(List.mergeSort_perm l _).mem_iff
theorem zft (l:List Int):(sortInts l).Pairwise fun a b=>a≤b:=by
  have:=List.pairwise_mergeSort (le:=fun x y:Int=>decide (x≤y)) (fun a b c h1 h2=>by simp at *;omega) (fun a b=>by simp;omega) l
  exact this.imp fun h=>of_decide_eq_true h
theorem sort_perm {l r:List Int} (h:l.Perm r):sortInts l=sortInts r :=
  (((List.mergeSort_perm l _).trans h).trans (List.mergeSort_perm r _).symm).eq_of_pairwise (fun a b _ _ h1 h2=>Int.le_antisymm h1 h2) (zft l) (zft r)
theorem climb_length {v K:List Int} {m k a:Int} (h:(0≤a∧a<v.length)∧K.Nodup∧∀x∈K,0≤x∧x<(v.length:Int)-k) (hl:1≤m∧1≤k∧k<v.length∧v.length≤200):K.length≤200:=by
  have h1:(K.map Int.toNat).length≤v.length:=nodup_le (by
    rw [List.Nodup,List.pairwise_map]
    exact h.2.1.imp_of_mem fun {a b} ha hb hne=>by
      have:=h.2.2 a ha
      have:=h.2.2 b hb
      omega) (fun i hi=>by
    obtain ⟨x,hx,rfl⟩:=List.mem_map.1 hi
    have:=h.2.2 x hx
    omega)
  rw [List.length_map] at h1
  omega
theorem indexFuncInt (l:List Int) (p:Int→Bool):Tells P 194 [.val (bsl i64T) l,.fn1 P i64T boolT p] (.val i64T (idx p l)):=by
 refine zc Tryz.func194 rfl rfl rfl (fun ext w hext=>?_)
 refine ze (d:=0) rfl zl (fun hsl0=>?_)
 refine CQR ?_;refine qaj ?_;refine qbL ?_;refine qaA ?_;refine Lp (ι:=Nat) 0 (fun (k:Nat)=>(((((Fr.none).set 0 (.val (bsl i64T) l)).set 1 (.fn1 P i64T boolT p)).set 6 (.val (bsl i64T) l)).set 7 (.val i64T (l.length:Int))).set 8 (.val i64T (k:Int))) (fun (k:Nat)=>Hp.none) (fun (k:Nat)=>k≤l.length∧idx p l=shift k (idx p (l.drop k))) (fun (k:Nat)=>l.length-k) (0) (⟨Nat.zero_le _,ze7 p l⟩) ?_
 intro k hinv
 refine qak ?_;refine Cf (p:=k<l.length) (fun ht9=>?_) (fun ht9=>?_)
 ·
  obtain ⟨x,hx⟩:∃x,l[k]?=some x:=⟨_,List.getElem?_eq_getElem ht9⟩
  refine qaQ ?_;refine qat ?_;refine A0 mF ?_;refine qal ?_;refine A0 (zaK rfl rfl rfl zbt (by assumption)) ?_;refine qbT ?_;refine A0 (zfB rfl rfl (by first|exact zy rfl|exact zW rfl|exact zF rfl rfl|exact zU rfl|exact zs rfl|exact zag rfl rfl|exact zV rfl)) ?_;refine CN ?_;refine zp (p:=p x=true) rfl (by simp) (fun ht16=>?_) (fun ht16=>?_)
  ·
   refine qbj ?_
   exact za rfl rfl (zb rfl (hinv.2.trans (idx_yes hx ht16)).symm)
  ·
   refine qbe ?_
   exact Nx (k+1) (⟨by omega,hinv.2.trans (idx_no hx ht16)⟩) (by omega)
 ·
  refine CE ?_;refine qay ?_
  exact za rfl rfl (zb rfl (hinv.2.trans (idx_end (by omega))).symm)
theorem containsFuncInt (l:List Int) (p:Int→Bool):Tells P 134 [.val (bsl i64T) l,.fn1 P i64T boolT p] (.val boolT (l.any p)):=by
 refine zc Tryz.func134 rfl rfl rfl (fun ext w hext=>?_)
 refine ze (d:=0) rfl zl (fun hsl0=>?_)
 refine qbP ?_;refine A0 mF ?_;refine A0 (oCl (indexFuncInt _ _) rfl fn_194 ⟨(zd rfl),(zag rfl rfl),trivial⟩) ?_;refine A0 zcU ?_;refine qac ?_
 exact za rfl rfl (zb rfl (idx_any p l))
theorem mayN_ok (n:Int):Tells P 133 [.val i64T n] (.val boolT (decide (n<0∨31<n))):=by
 refine zc Tryz.func133 rfl rfl rfl (fun ext w hext=>?_)
 refine ze (d:=0) rfl zn (fun hin0=>?_)
 refine qbP ?_;refine A0 zbF ?_;refine qav ?_;refine Sp (d:=5) (p:=n<0) (fun g5=>?_) (fun g5=>?_)
 ·
  refine qaE ?_;refine qa1 ?_
  exact za rfl rfl (zb rfl ((decide_eq_true (.inl g5)).symm))
 ·
  refine A1 mV ?_;refine A1 zaG ?_;refine qa1 ?_
  exact za rfl rfl (zb rfl (by rw [decide_eq_decide];simp only [IntL.toI,id_eq];omega))
theorem mayV_ok (v:List Int):Tells P 79 [.val (bsl i64T) v] (.val boolT (mayV v)):=by
 refine zc Tryz.func79 rfl rfl rfl (fun ext w hext=>?_)
 refine ze (d:=0) rfl zl (fun hsl0=>?_)
 refine CQR ?_;refine qat ?_;refine A0 aC ?_;refine CNQR ?_;refine qav ?_;refine qbL ?_;refine A0 zaG ?_;refine qav ?_;refine Sp (d:=7) (p:=0<v.length) (fun g7=>?_) (fun g7=>?_)
 ·
  refine A1 mV ?_;refine A1 (zK rfl rfl zb3) ?_;refine A1 zcP ?_;refine qag ?_;refine Sp (d:=12) (p:=v.length≤200) (fun g12=>?_) (fun g12=>?_)
  ·
   obtain ⟨x,hx⟩:∃x,v[0]?=some x:=⟨_,List.getElem?_eq_getElem g7⟩
   refine A1 mV ?_;refine A1 (zo (i:=0) rfl rfl rfl (by omega) zbt (by assumption)) ?_;refine A1 (zf rfl rfl ty_3) ?_;refine A1 zaW ?_;refine qag ?_;refine Sp (d:=18) (p:=x=31) (fun g18=>?_) (fun g18=>?_)
   ·
    refine A1 mV ?_;refine A1 mC ?_;refine A1 (oCl (containsFuncInt v (fun n=>decide (n<0∨31<n))) rfl fn_134 ⟨(zd rfl),(by first|exact zc6 (Cs:=[]) rfl fn_133 (by intro n hn;cases hn) trivial rfl (fun x=>mayN_ok x)|exact zc5 (Cs:=[]) rfl fn_133 (by intro n hn;cases hn) trivial rfl (fun x y=>mayN_ok x)|exact zc7 rfl),trivial⟩) ?_;refine A1 oN ?_;refine qa1 ?_
    exact za rfl rfl (zb rfl ((by unfold mayV;rw [decide_eq_true ⟨g7,g12,by rw [hx,g18]⟩];rfl)))
   ·
    refine qab ?_;refine A2 ?_;refine qa1 ?_
    exact za rfl rfl (zb rfl ((by unfold mayV;rw [decide_eq_false (fun h=>g18 (by have:=h.2.2;rw [hx] at this;exact Option.some.inj this))];rfl)))
  ·
   refine qab ?_;refine qaz ?_;refine qa1 ?_
   exact za rfl rfl (zb rfl ((by unfold mayV;rw [decide_eq_false (fun h=>g12 h.2.1)];rfl)))
 ·
  refine qab ?_;refine qaM ?_;refine qaz ?_;refine qa1 ?_
  exact za rfl rfl (zb rfl ((by unfold mayV;rw [decide_eq_false (fun h=>g7 h.1)];rfl)))
theorem mayP_ok (v:List Int) (m k:Int):Tells P 55 [.val (bsl i64T) v,.val i64T m,.val i64T k] (.val boolT (mayP v m k)):=by
 refine zc Tryz.func55 rfl rfl rfl (fun ext w hext=>?_)
 refine ze (d:=0) rfl zl (fun hsl0=>?_)
 refine ze (d:=1) rfl zn (fun hin1=>?_)
 refine ze (d:=2) rfl zn (fun hin2=>?_)
 refine qbP ?_;refine A0 (oCl (mayV_ok v) rfl fn_79 ⟨(zd rfl),trivial⟩) ?_;refine qav ?_;refine Sp (d:=9) (p:=mayV v=true) (fun g9=>?_) (fun g9=>?_)
 ·
  refine A1 mV ?_;refine A1 zcU ?_;refine qag ?_;refine Sp (d:=13) (p:=1≤m) (fun g13=>?_) (fun g13=>?_)
  ·
   refine A1 mV ?_;refine A1 zcU ?_;refine qag ?_;refine Sp (d:=17) (p:=1≤k) (fun g17=>?_) (fun g17=>?_)
   ·
    refine A1 mV ?_;refine A1 (zK rfl rfl zb3) ?_;refine A1 mV ?_;refine A1 zaG ?_;refine qa1 ?_
    exact za rfl rfl (zb rfl ((by unfold mayP;rw [g9,Bool.true_and,decide_eq_decide];simp only [IntL.toI,id_eq];omega)))
   ·
    refine qab ?_;refine A2 ?_;refine qa1 ?_
    exact za rfl rfl (zb rfl ((by unfold mayP;rw [decide_eq_false (fun h=>g17 h.2.1),Bool.and_false])))
  ·
   refine A2 ?_;refine qaz ?_;refine qa1 ?_
   exact za rfl rfl (zb rfl ((by unfold mayP;rw [decide_eq_false (fun h=>g13 h.1),Bool.and_false])))
 ·
  refine qaE ?_;refine qag ?_;refine A2 ?_;refine qaz ?_;refine qa1 ?_
  exact za rfl rfl (zb rfl ((by unfold mayP;rw [Bool.eq_false_iff.2 g9];rfl)))
theorem up_ok (v:List Int) (a b n:Int) (hl:v.length≤1000000000000):Tells P 100 [.val (bsl i64T) v,.val i64T a,.val i64T b,.val i64T n] (.fresh 3 i64T (upOf v a b n)):=by
 refine zc Tryz.func100 rfl rfl rfl (fun ext w hext=>?_)
 refine ze (d:=0) rfl zl (fun hsl0=>?_)
 refine ze (d:=1) rfl zn (fun hin1=>?_)
 refine ze (d:=2) rfl zn (fun hin2=>?_)
 refine ze (d:=3) rfl zn (fun hin3=>?_)
 refine qbc ?_;refine A0 aL ?_;refine qaZ ?_;refine A0 (g_max rfl rfl rfl) ?_;refine A0 aV ?_;refine CNB ?_;refine zi (d:=10) (y:=(((max a 0).toNat:Nat):Int)) rfl (by first|omega|(simp only [IntL.toI,id_eq];omega)) ?_;refine zc4 (T:=i64T) (d:=9) 3 rfl ?_;refine zz (n:=0) (y:=upR v n (max a 0).toNat (max a 0).toNat) rfl (upR_same v n _).symm ?_
 refine Lp (ι:=Nat) 1 (fun (i:Nat)=>(((((Fr.none).set 0 (.val (bsl i64T) v)).set 2 (.val i64T b)).set 3 (.val i64T n)).set 9 (.own 0)).set 10 (.val i64T (i:Int))) (fun (i:Nat)=>(Hp.none).set 0 (.row 3 i64T (upR v n (max a 0).toNat i))) (fun (i:Nat)=>(max a 0).toNat≤i∧((i:Int)≤min b v.length∨i=(max a 0).toNat)) (fun (i:Nat)=>v.length-i) ((max a 0).toNat) (⟨Nat.le_refl _,.inr rfl⟩) ?_
 intro i hinv
 refine CQQR ?_;refine qal ?_;refine qav ?_;refine qbL ?_;refine A0 (g_min rfl rfl rfl) ?_;refine qaK ?_;refine Cf (p:=(i:Int)<min b v.length) (fun ht18=>?_) (fun ht18=>?_)
 ·
  obtain ⟨x,hx⟩:∃x,v[i]?=some x:=⟨_,List.getElem?_eq_getElem (by omega)⟩
  refine CSQBQR ?_;refine qal ?_;refine A0 (zo (i:=i) rfl rfl rfl (by omega) zbt (by assumption)) ?_;refine qbT ?_;refine qav ?_;refine qbR ?_;refine Cf (p:=n≤x) (fun ht26=>?_) (fun ht26=>?_)
  ·
   refine CR ?_;refine A0 mO ?_;refine qav ?_;refine A0 (zu (T:=i64T) (xs:=[_]) rfl zbt zcI ⟨rfl,rfl,trivial⟩ rfl rfl) ?_;refine zB rfl rfl rfl rfl rfl rfl rfl zcI (by have:=upR_length v n (max a 0).toNat i;simp;omega) ?_;refine A0 aO ?_;refine CNIR ?_;refine qbd ?_;refine qac ?_;refine zaH 1 0 2 rfl rfl rfl rfl rfl rfl ?_;refine zz (n:=0) (y:=upR v n (max a 0).toNat (i+1)) rfl (upR_yes hx hinv.1 ht26).symm ?_
   exact Nx (i+1) (⟨by omega,by omega⟩) (by omega)
  ·
   refine qaw ?_;refine zz (n:=0) (y:=upR v n (max a 0).toNat (i+1)) rfl (upR_no hx hinv.1 ht26).symm ?_
   exact Nx (i+1) (⟨by omega,by omega⟩) (by omega)
 ·
  refine qa8 ?_
  exact za rfl rfl (zg rfl rfl (upOf_end hinv.1 hinv.2 ht18))
theorem prefix_ok (v:List Int) (m k:Int):Tells P 24 [.val (bsl i64T) v,.val i64T m,.val i64T k] (.tup2 (.fresh 3 i64T (prefixOf v m k).1) (.val boolT (prefixOf v m k).2)):=by
 refine zc Tryz.func24 rfl rfl rfl (fun ext w hext=>?_)
 refine ze (d:=0) rfl zl (fun hsl0=>?_)
 refine ze (d:=1) rfl zn (fun hin1=>?_)
 refine ze (d:=2) rfl zn (fun hin2=>?_)
 refine qaq ?_;refine qaj ?_;refine qal ?_;refine A0 (oCl (mayP_ok v m k) rfl fn_55 ⟨(zd rfl),(zd rfl),(zd rfl),trivial⟩) ?_;refine qaR ?_;refine zp (p:=¬mayP v m k=true) rfl (by simp) (fun ht13=>?_) (fun ht13=>?_)
 ·
  refine qbg ?_
  exact zZ rfl rfl (by unfold prefixOf;rw [if_neg ht13];exact zm rfl) (zb rfl (by unfold prefixOf;rw [if_neg ht13]))
 ·
  have hmp:mayP v m k=true:=Classical.byContradiction ht13
  have hcl:=climb_ok hmp
  have hvl:=zci hmp
  refine CSQR ?_;refine aw_mkmap rfl rfl rfl rfl (fun b0=>?_)
  refine aw_alloc_p zp_102 rfl rfl rfl rfl rfl rfl ?_;refine zaj rfl rfl rfl rfl rfl rfl rfl rfl rfl rfl ty_102 ?_;refine CNQR ?_;refine qal ?_;refine qav ?_;refine A0 (g_mkf (caps:=[_]) rfl rfl) ?_;refine z6 rfl rfl rfl rfl Tryz.func56 fn_56 rfl rfl (fun ia2 iok2=>?_)
  refine qbP ?_;refine CNB ?_;refine Lp (ι:=Nat) 2 (fun (i:Nat)=>((((((Fr.none).set 0 (.val (bsl i64T) v)).set 1 (.val i64T m)).set 2 (.val i64T k)).set 3 (.clo 57 [1])).set 8 (.val i64T (climbS v m k i).1)).set 12 (.val i64T (i:Int))) (fun (i:Nat)=>((Hp.none).set 0 (.objAt b0 (setO (climbS v m k i).2))).set 1 (.parts 102 [.lit (.map (some b0))])) (fun (i:Nat)=>i≤32) (fun (i:Nat)=>32-i) (0) (Nat.zero_le _) ?_
  intro i hi
  refine qak ?_;refine Cf (p:=i<32) (fun ht13=>?_) (fun ht13=>?_)
  ·
   have hci:=hcl i (by omega)
   have hup:=zq (up_ok v (climbS v m k i).1 ((v.length:Int)-k) (31-(i:Int)) (by omega))
   obtain ⟨L,hL⟩:∃L,L=upOf v (climbS v m k i).1 ((v.length:Int)-k) (31-(i:Int)):=⟨_,rfl⟩
   rw [←hL] at hup
   have hLl:L.length≤200:=by rw [hL];have:=up_length v (climbS v m k i).1 ((v.length:Int)-k) (31-(i:Int));omega
   refine qaQ ?_;refine qae ?_;refine A0 zaL ?_;refine qae ?_;refine qal ?_;refine qbL ?_;refine qbJ ?_;refine qav ?_;refine A0 (oCl (hup) rfl fn_100 ⟨(zd rfl),(zd rfl),(zd rfl),(zd rfl),trivial⟩) ?_;refine qat ?_;refine A0 mC ?_;refine qal ?_;refine qav ?_;refine aw_inlinec rfl rfl rfl rfl rfl Tryz.func57 fn_57 rfl rfl (by intro n hn;simp only [List.mem_cons,List.not_mem_nil,or_false] at hn;rcases hn with rfl<;>rfl) (fun ia3 iok3=>?_)
   refine qa2 ?_;refine qbL ?_;refine qaA ?_;refine Lp (ι:=Nat) 2 (fun (j:Nat)=>((((Fr.none).set 3 (.ptr 1 0)).set 9 (.val (sl i64T) L)).set 10 (.val i64T (L.length:Int))).set 11 (.val i64T (j:Int))) (fun (j:Nat)=>((Hp.none).set 0 (.objAt b0 (setO ((L.take j).foldl setAdd (climbS v m k i).2)))).set 1 (.parts 102 [.lit (.map (some b0))])) (fun (j:Nat)=>j≤L.length) (fun (j:Nat)=>L.length-j) (0) (Nat.zero_le _) ?_
   intro j hj
   refine qak ?_;refine Cf (p:=j<L.length) (fun ht12=>?_) (fun ht12=>?_)
   ·
    obtain ⟨x,hx⟩:∃x,L[j]?=some x:=⟨_,List.getElem?_eq_getElem ht12⟩
    refine CSQBQR ?_;refine A0 (zaK rfl rfl rfl zbt (by assumption)) ?_;refine qbT ?_;refine A0 aX ?_;refine CNR ?_;refine A0 (by first|exact zr rfl rfl rfl rfl rfl ty_102|exact za7 rfl rfl rfl rfl ty_102) ?_;refine A0 mX ?_;refine A0 (g_build0 rfl zu_104 su_104) ?_;refine aw_mapput (n:=0) rfl rfl rfl rfl rfl rfl rfl mp_102 ui_3 ?_;refine qaW ?_;refine aw_reobj 0 (setO ((L.take (j+1)).foldl setAdd (climbS v m k i).2)) rfl (by rw [List.take_add_one,hx,List.foldl_append];rfl) ?_
    exact Nx (j+1) (by omega) (by omega)
   ·
    refine CE ?_;refine aw_back0f rfl ?_;refine CNQ ?_;refine aw_reobj 0 (setO (L.foldl setAdd (climbS v m k i).2)) rfl (by rw [List.take_of_length_le (by omega)]) ?_;refine CR ?_;refine qav ?_;refine qbL ?_;refine qav ?_;refine A0 zaG ?_;refine CN ?_;refine Cf (p:=m<L.length) (fun ht33=>?_) (fun ht33=>?_)
    ·
     obtain ⟨c,hc⟩:∃c,L[L.length-m.toNat]?=some c:=⟨_,List.getElem?_eq_getElem (by omega)⟩
     refine CR ?_;refine qal ?_;refine qbL ?_;refine qbJ ?_;refine A0 (zo (i:=L.length-m.toNat) rfl rfl rfl (by omega) zbt (by assumption)) ?_;refine qbT ?_;refine A0 aX ?_;refine qaW ?_;refine zi (d:=8) (y:=(climbS v m k (i+1)).1) rfl (zbV hL hc ht33) ?_;refine aw_reobj 0 (setO (climbS v m k (i+1)).2) rfl (by rw [hL];rfl) ?_
     exact Nx (i+1) (by omega) (by omega)
    ·
     refine qbe ?_;refine zi (d:=8) (y:=(climbS v m k (i+1)).1) rfl (zbN hL ht33) ?_;refine aw_reobj 0 (setO (climbS v m k (i+1)).2) rfl (by rw [hL];rfl) ?_
     exact Nx (i+1) (by omega) (by omega)
  ·
   refine CE ?_;refine aw_back0f rfl ?_;refine CNQ ?_
   have hi32:i=32:=by omega
   subst hi32
   obtain ⟨K,hK⟩:∃K,K=(climbS v m k 32).2:=⟨_,rfl⟩
   have hck:=hcl 32 (by omega)
   rw [←hK] at hck
   refine aw_reobj 0 (setO K) rfl (by rw [hK]) ?_
   have hkeys:∀x∈K,-9223372036854775808≤x∧x≤9223372036854775807:=fun x hx=>by have:=hck.2.2 x hx;omega
   have hKl:=climb_length hck hvl
   refine CR ?_;refine A0 (by first|exact zr rfl rfl rfl rfl rfl ty_102|exact za7 rfl rfl rfl rfl ty_102) ?_;refine z6 rfl rfl rfl rfl Tryz.func59 fn_59 rfl rfl (fun ia4 iok4=>?_)
   refine CQR ?_;refine aw_box_p rfl rfl rfl rfl rfl rfl rfl ?_;refine A0 aL ?_;refine CNQR ?_;refine A0 (g_mkf (caps:=[_]) rfl rfl) ?_;refine A0 aC ?_;refine CN ?_;refine zaX rfl ?_;refine z6 rfl rfl rfl rfl Tryz.func58 fn_58 rfl rfl (fun ia6 iok6=>?_)
   refine qbc ?_;refine A0 mC ?_;refine z6 rfl rfl rfl rfl Tryz.func101 fn_101 rfl rfl (fun ia7 iok7=>?_)
   refine qbc ?_;refine A0 mC ?_;refine z6 rfl rfl rfl rfl Tryz.func153 fn_153 rfl rfl (fun ia8 iok8=>?_)
   refine CQR ?_;refine aw_box_p rfl rfl rfl rfl rfl rfl rfl ?_;refine A0 aL ?_;refine CN ?_;refine aw_nilpart 3 3 i64T rfl ?_;refine CQQR ?_;refine A0 mC ?_;refine CNB ?_;refine aw_range rfl rfl rfl Tryz.func103 fn_103 rfl rfl (by intro n hn;simp only [List.mem_cons,List.not_mem_nil,or_false] at hn;rcases hn with rfl<;>rfl) (fun fid11 ca11 lN11 DN11 cok11 rc11 hrc11=>?_)
   refine CQR ?_;refine A0 (by first|exact zr rfl rfl rfl rfl rfl ty_102|exact za7 rfl rfl rfl rfl ty_102) ?_;refine aw_rangemap (n:=0) rfl rfl rfl rfl rfl rfl mp_102 (fun it0=>?_)
   refine CNB ?_;refine zaH 4 8 9 rfl rfl rfl rfl rfl rfl ?_;refine Lp (ι:=List Nat) 9 (fun (seen:List Nat)=>((Fr.none).set 0 (.lit (.func (.yield lN11) #[] #[]))).set 5 (.ptr 7 0)) (fun (seen:List Nat)=>((((((Hp.none).set 0 (.objAt b0 (setO K))).set 3 (.parts 41 [.own 8])).set 8 (.row 3 i64T (seen.map fun i=>K.getD i 0))).set 5 (.objAt DN11 (.deferred (some [])))).set 6 (.objAt lN11 (rc11 .ready none))).set 7 (.objAt it0 (itO b0 K.length seen))) (fun (seen:List Nat)=>seen.Nodup∧∀i∈seen,i<K.length) (fun (seen:List Nat)=>K.length-seen.length) ([]) (⟨List.nodup_nil,fun i h=>by cases h⟩) ?_
   intro seen hs
   refine CQR ?_;refine aw_nextmap (n1:=0) (n2:=7) rfl rfl rfl rfl rfl (hkeys) rfl rfl (fun hall=>?_) (fun i v hiv his=>?_)
   ·
    refine A0 (g_x1f rfl rfl) ?_;refine CNQ ?_;refine Cg ?_;refine CE ?_;refine zeP (nL:=6) rfl hrc11 rfl (by decide) ?_;refine CI ?_;refine CQR ?_;refine A0 (by first|exact zr rfl rfl rfl rfl rfl zco|exact za7 rfl rfl rfl rfl zco) ?_;refine qbq ?_;refine zas (zb9 (nD:=5) rfl rfl rfl (ar_back1 rfl ?_))
    refine qbq ?_;refine zaX rfl ?_;refine A0 aO ?_;refine CNQR ?_;refine A0 mO ?_;refine zfJ (sortInt_ok (seen.map fun i=>K.getD i 0) (by rw [List.length_map];have:=nodup_le hs.1 hs.2;omega)) rfl fn_102 rfl trivial trivial rfl ⟨(by first|exact za0 rfl|exact zaZ rfl|exact zaA rfl|exact za3 rfl|exact za1 rfl|exact za2 rfl|exact zaY rfl rfl (by decide)),trivial⟩ rfl rfl rfl ?_;refine CNQR ?_;refine A0 mO ?_;refine qbq ?_;refine zaX rfl ?_;refine qbW ?_
    exact zZ rfl rfl (zg rfl rfl (by unfold prefixOf;rw [if_pos hmp,←hK];exact sort_perm (seen_all hs hall))) (zb rfl (by unfold prefixOf;rw [if_pos hmp]))
   ·
    obtain ⟨hs1,hs2,hs3⟩:=seen_step hs hiv his
    refine A0 e30 ?_;refine CNQ ?_;refine Ct ?_;refine CS ?_;refine CB ?_;refine CQR ?_;refine aw_entry (n1:=0) (n2:=7) (v:=v) (i:=i) rfl rfl rfl rfl rfl (by exact rfl) (by exact rfl) (by assumption) (hkeys) ?_;refine A0 (by first|exact zO rfl rfl|exact zM rfl rfl) ?_;refine A0 aX ?_;refine CNQR ?_;refine A0 mL ?_;refine A0 mX ?_;refine aw_yield (nL:=6) rfl rfl rfl rfl rfl hrc11 rfl rfl rfl (fun ya12 yok12=>?_)
    refine CR ?_;refine qaI ?_;refine aw_begin (nL:=6) hrc11 rfl ?_;refine CB ?_;refine CR ?_;refine A0 (by first|exact zr rfl rfl rfl rfl rfl zco|exact za7 rfl rfl rfl rfl zco) ?_;refine A0 mX ?_;refine A0 (zu (T:=i64T) (xs:=[_]) rfl zbt zcI ⟨rfl,rfl,trivial⟩ rfl rfl) ?_;refine zB rfl rfl rfl rfl rfl rfl rfl zcI (by simp;omega) ?_;refine zaj rfl rfl rfl rfl rfl rfl rfl rfl rfl rfl zco ?_;refine CN ?_;refine CI ?_;refine zdJ (nL:=6) hrc11 rfl ?_;refine qaR ?_;refine Cg ?_;refine CS ?_;refine CI ?_;refine zaH 9 8 10 rfl rfl rfl rfl rfl rfl ?_
    refine zz (n:=8) (y:=(seen++[i]).map fun i=>K.getD i 0) rfl (by rw [List.map_append];simp [hiv]) ?_
    exact Nx (seen++[i]) (hs1) (hs2)
set_option maxRecDepth 20000
def proverN:GoT (List Block×Int×Int×List Int×Unit):=pairT (bsl blockT) (pairT i64T (pairT i64T (pairT (sl i64T) nilT)))
def proofN:GoT (Int×Int×Unit):=pairT i64T (pairT i64T nilT)
theorem zn_prover:ZeroAt P 82 proverN ([],0,0,[],()):=zac (zX zcQ (zX zbL (zX zbL (zX zcQ zero_nil)))) (by kernel_rfl)
theorem zn_proof:ZeroAt P 25 proofN (0,0,()):=zac (zX zbL (zX zbL zero_nil)) (by kernel_rfl)
theorem split_prover {l:List Block} {m k:Int} {v:List Int}:SplitOk proverN (l,m,k,v,()) [.val (bsl blockT) l,.val i64T m,.val i64T k,.val (sl i64T) v,.lit (.slice none 0 0)]:=zbD zbP (zbD zbP (zbD zbP (zbD zbP split_nil)))
theorem zfr {m k:Int}:SplitOk proofN (m,k,()) [.val i64T m,.val i64T k,.lit (.slice none 0 0)]:=zbD zbP (zbD zbP split_nil)
theorem join_proof {m k:Int} {l:List Part}:JoinOk proofT (⟨m,k,l⟩:Proof) [.val i64T m,.val i64T k] partT l:=join_via (zen (zen join_last))
def placesOf (l:List Block) (m k:Int):List Int:=(prefixOf (levelsOf l) m k).1++(List.range k.toNat).map fun j:Nat=>(l.length:Int)-k+(j:Int)
def prPart (l:List Block) (i:Int):Part:=⟨(l.getD i.toNat default).h,(l.getD i.toNat default).l⟩
def prE (l:List Block) (m k:Int):Int:=if ¬(checkOf l).2=0 then (checkOf l).2 else if m<1∨20<m∨k<1∨20<k∨l.length≤k then 1 else 0
def prOf (l:List Block) (m k:Int):Proof:=if prE l m k=0 then ⟨m,k,(placesOf l m k).map (prPart l)⟩ else zProof
theorem prefix_mem {v:List Int} {m k x:Int} (h:x∈(prefixOf v m k).1):0≤x∧x<(v.length:Int)-k:=by
  unfold prefixOf at h
  split at h
  · rename_i c
    exact (climb_ok c 32 (Nat.le_refl _)).2.2 x (zfu.1 h)
  · cases h
theorem zfx (v:List Int) (m k:Int):(prefixOf v m k).1.length≤200:=by
  unfold prefixOf
  split
  · rename_i c
    have:=climb_length (climb_ok c 32 (Nat.le_refl _)) (zci c)
    simpa [sortInts] using this
  · simp
theorem zaM (l:List Block):(levelsOf l).length=l.length:=by unfold levelsOf;simp
theorem zbE {l:List Block} {m k x:Int} (hk:1≤k∧k<l.length) (h:x∈placesOf l m k):0≤x∧x<l.length:=by
  unfold placesOf at h
  rcases List.mem_append.1 h with h|h
  · have:=prefix_mem h
    rw [zaM] at this
    omega
  · obtain ⟨j,hj,rfl⟩:=List.mem_map.1 h
    rw [List.mem_range] at hj
    omega
theorem places_length {l:List Block} {m k:Int} (hk:k≤20):(placesOf l m k).length≤220:=by
  unfold placesOf
  have:=zfx (levelsOf l) m k
  simp;omega
theorem zbU (l:List Block) (m k:Int) (hl:smallC l):Tells P 14 [.val (bsl blockT) l,.val i64T m,.val i64T k] (.tup2 (.val proofT (prOf l m k)) (.val i64T (prE l m k))):=by
 have hll:=hl.1
 refine zc Tryz.func14 rfl rfl rfl (fun ext w hext=>?_)
 refine ze (d:=0) rfl zl (fun hsl0=>?_)
 refine ze (d:=1) rfl zn (fun hin1=>?_)
 refine ze (d:=2) rfl zn (fun hin2=>?_)
 refine CQR ?_;refine zw zcR rfl rfl rfl rfl ?_;refine qae ?_;refine qal ?_;refine z6 rfl rfl rfl rfl Tryz.func31 fn_31 rfl rfl (fun ia1 iok1=>?_)
 refine qaq ?_;refine qaj ?_;refine A0 (oCl (check_ok l hl) rfl fn_26 ⟨(zd rfl),trivial⟩) ?_;refine A0 mX ?_;refine A0 (by first|exact zO rfl rfl|exact zM rfl rfl) ?_;refine A0 (by first|exact zR rfl rfl|exact zQ rfl rfl) ?_;refine qbw ?_;refine qa7 ?_;refine qae ?_;refine qaO ?_;refine zp (p:=¬(checkOf l).2=0) rfl (by simp [IntL.toI]) (fun ht18=>?_) (fun ht18=>?_)
 ·
  refine qa2 ?_;refine A0 aL ?_;refine qac ?_;refine zb1 rfl ?_;refine A0 (by first|exact zdA (.inl rfl) rfl|exact zdz (.inl rfl) rfl) ?_;refine A0 (by first|exact zO rfl rfl|exact zM rfl rfl) ?_;refine A0 (by first|exact zR rfl rfl|exact zQ rfl rfl) ?_;refine qax ?_;refine aw_if_t rfl (by simp;exact ht18) ?_;refine CQR ?_;refine A0 (zD rfl zcR zdT .nil rfl) ?_;refine qbr ?_
  exact zC rfl rfl (zJ rfl rfl zaE (by unfold prOf;rw [if_neg (by unfold prE;rw [if_pos ht18];exact ht18)])) (zai (zb rfl (by unfold prE;rw [if_pos ht18])))
 ·
  refine qb2 ?_;refine A0 zbF ?_;refine qav ?_;refine Sp (d:=22) (p:=m<1) (fun g22=>?_) (fun g22=>?_)
  ·
   refine qaE ?_;refine qag ?_;refine qaE ?_;refine qag ?_;refine A2 ?_;refine qaz ?_;refine qas ?_;refine Ct ?_;refine qbg ?_;refine zb1 rfl ?_;refine A0 (by first|exact zdA (.inl rfl) rfl|exact zdz (.inl rfl) rfl) ?_;refine A0 (by first|exact zO rfl rfl|exact zM rfl rfl) ?_;refine A0 (by first|exact zR rfl rfl|exact zQ rfl rfl) ?_;refine qax ?_;refine Ct ?_;refine CQR ?_;refine A0 (zD rfl zcR zdT .nil rfl) ?_;refine qbr ?_
   exact zC rfl rfl (zJ rfl rfl zaE (by unfold prOf;rw [if_neg (by unfold prE;rw [if_neg (by omega),if_pos (by omega)];decide)])) (zai (zb rfl (by unfold prE;rw [if_neg (by omega),if_pos (by omega)])))
  ·
   refine A1 mV ?_;refine A1 zaG ?_;refine qag ?_;refine Sp (d:=26) (p:=20<m) (fun g26=>?_) (fun g26=>?_)
   ·
    refine qaE ?_;refine qag ?_;refine A2 ?_;refine qaz ?_;refine qas ?_;refine Ct ?_;refine qbg ?_;refine zb1 rfl ?_;refine A0 (by first|exact zdA (.inl rfl) rfl|exact zdz (.inl rfl) rfl) ?_;refine A0 (by first|exact zO rfl rfl|exact zM rfl rfl) ?_;refine A0 (by first|exact zR rfl rfl|exact zQ rfl rfl) ?_;refine qax ?_;refine Ct ?_;refine CQR ?_;refine A0 (zD rfl zcR zdT .nil rfl) ?_;refine qbr ?_
    exact zC rfl rfl (zJ rfl rfl zaE (by unfold prOf;rw [if_neg (by unfold prE;rw [if_neg (by omega),if_pos (by omega)];decide)])) (zai (zb rfl (by unfold prE;rw [if_neg (by omega),if_pos (by omega)])))
   ·
    refine A1 mV ?_;refine A1 zbF ?_;refine qag ?_;refine Sp (d:=30) (p:=k<1) (fun g30=>?_) (fun g30=>?_)
    ·
     refine A2 ?_;refine qaz ?_;refine qas ?_;refine Ct ?_;refine qbg ?_;refine zb1 rfl ?_;refine A0 (by first|exact zdA (.inl rfl) rfl|exact zdz (.inl rfl) rfl) ?_;refine A0 (by first|exact zO rfl rfl|exact zM rfl rfl) ?_;refine A0 (by first|exact zR rfl rfl|exact zQ rfl rfl) ?_;refine qax ?_;refine Ct ?_;refine CQR ?_;refine A0 (zD rfl zcR zdT .nil rfl) ?_;refine qbr ?_
     exact zC rfl rfl (zJ rfl rfl zaE (by unfold prOf;rw [if_neg (by unfold prE;rw [if_neg (by omega),if_pos (by omega)];decide)])) (zai (zb rfl (by unfold prE;rw [if_neg (by omega),if_pos (by omega)])))
    ·
     refine A1 mV ?_;refine A1 zaG ?_;refine qag ?_;refine Sp (d:=34) (p:=20<k) (fun g34=>?_) (fun g34=>?_)
     ·
      refine qab ?_;refine A2 ?_;refine qas ?_;refine Ct ?_;refine qbg ?_;refine zb1 rfl ?_;refine A0 (by first|exact zdA (.inl rfl) rfl|exact zdz (.inl rfl) rfl) ?_;refine A0 (by first|exact zO rfl rfl|exact zM rfl rfl) ?_;refine A0 (by first|exact zR rfl rfl|exact zQ rfl rfl) ?_;refine qax ?_;refine Ct ?_;refine CQR ?_;refine A0 (zD rfl zcR zdT .nil rfl) ?_;refine qbr ?_
      exact zC rfl rfl (zJ rfl rfl zaE (by unfold prOf;rw [if_neg (by unfold prE;rw [if_neg (by omega),if_pos (by omega)];decide)])) (zai (zb rfl (by unfold prE;rw [if_neg (by omega),if_pos (by omega)])))
     ·
      refine A1 mV ?_;refine A1 (zK rfl rfl zdf) ?_;refine A1 mV ?_;refine A1 zcP ?_;refine qas ?_;refine Cf (p:=l.length≤k) (fun ht39=>?_) (fun ht39=>?_)
      ·
       refine qbg ?_;refine zb1 rfl ?_;refine A0 (by first|exact zdA (.inl rfl) rfl|exact zdz (.inl rfl) rfl) ?_;refine A0 (by first|exact zO rfl rfl|exact zM rfl rfl) ?_;refine A0 (by first|exact zR rfl rfl|exact zQ rfl rfl) ?_;refine qax ?_;refine Ct ?_;refine CQR ?_;refine A0 (zD rfl zcR zdT .nil rfl) ?_;refine qbr ?_
       exact zC rfl rfl (zJ rfl rfl zaE (by unfold prOf;rw [if_neg (by unfold prE;rw [if_neg (by omega),if_pos (by omega)];decide)])) (zai (zb rfl (by unfold prE;rw [if_neg (by omega),if_pos (by omega)])))
      ·
       have hpl:=zfx (levelsOf l) m k
       refine qcd ?_;refine qal ?_;refine A0 (oCl (zq (levels_ok l (by omega))) rfl fn_25 ⟨(zd rfl),trivial⟩) ?_;refine A0 (zD rfl zn_prover bd_82 (.cons fd_82_0 (Lens.fst _ _) ty_22 rfl (.cons fd_82_1 ((Lens.snd _ _).comp (Lens.fst _ _)) ty_3 rfl (.cons fd_82_2 ((Lens.snd _ _).comp ((Lens.snd _ _).comp (Lens.fst _ _))) ty_3 rfl (.cons fd_82_3 ((Lens.snd _ _).comp ((Lens.snd _ _).comp ((Lens.snd _ _).comp (Lens.fst _ _)))) zco rfl .nil)))) rfl) ?_;refine aw_box rfl rfl rfl rfl rfl ?_;refine A0 aP ?_;refine CN ?_;refine zdI 2 (x:=(l,m,k,levelsOf l,())) split_prover rfl ?_
       refine zcH 2 3 i64T [.val (bsl blockT) l,.val i64T m,.val i64T k,.val (sl i64T) (levelsOf l)] rfl (by intro x hx;simp only [List.mem_cons,List.not_mem_nil,or_false] at hx;rcases hx with rfl|rfl|rfl|rfl<;>trivial) ?_;refine CQR ?_;refine A0 mP ?_;refine A0 mP ?_;refine A0 (g_nc rfl rfl) ?_;refine A0 (oFp fd_82_3) ?_;refine A0 (zr rfl rfl rfl rfl rfl zco) ?_;refine qal ?_;refine aw_callf2 (prefix_ok (levelsOf l) m k) rfl fn_24 ⟨(zd rfl),(zd rfl),(zd rfl),trivial⟩ flat_bool rfl rfl rfl ?_;refine A0 (by first|exact zdA (.inl rfl) rfl|exact zdz (.inl rfl) rfl) ?_
       refine A0 (by first|exact zO rfl rfl|exact zM rfl rfl) ?_;refine A0 (by first|exact zR rfl rfl|exact zQ rfl rfl) ?_;refine A0 (g_nc rfl rfl) ?_;refine A0 (oFp zcY) ?_;refine zaj rfl rfl rfl rfl rfl rfl rfl rfl rfl rfl zco ?_;refine CNQQR ?_;refine qal ?_;refine CNB ?_;refine zz (n:=4) (y:=(prefixOf (levelsOf l) m k).1++(List.range 0).map fun j:Nat=>(l.length:Int)-k+(j:Int)) rfl (by simp) ?_
       refine Lp (ι:=Nat) 5 (fun (i:Nat)=>(((((Fr.none).set 0 (.val (bsl blockT) l)).set 2 (.val i64T k)).set 10 (.ptr 2 0)).set 60 (.val i64T k)).set 61 (.val i64T (i:Int))) (fun (i:Nat)=>(((Hp.none).set 0 (.box 25 proofT zProof)).set 2 (.parts 82 ([.val (bsl blockT) l,.val i64T m,.val i64T k,.val (sl i64T) (levelsOf l)]++[.own 4]))).set 4 (.row 3 i64T ((prefixOf (levelsOf l) m k).1++(List.range i).map fun j:Nat=>(l.length:Int)-k+(j:Int)))) (fun (i:Nat)=>(i:Int)≤k) (fun (i:Nat)=>k.toNat-i) (0) (by simp;omega) ?_
       intro i hi
       refine qak ?_;refine Cf (p:=(i:Int)<k) (fun ht62=>?_) (fun ht62=>?_)
       ·
        refine qaQ ?_;refine qbN ?_;refine A0 mP ?_;refine A0 mP ?_;refine A0 (g_nc rfl rfl) ?_;refine A0 (oFp zcY) ?_;refine A0 (zr rfl rfl rfl rfl rfl zco) ?_;refine qav ?_;refine A0 (zK rfl rfl zdf) ?_;refine qbJ ?_;refine qbd ?_;refine A0 (zu (T:=i64T) (xs:=[_]) rfl zbt zcI ⟨rfl,rfl,trivial⟩ rfl rfl) ?_;refine zB rfl rfl rfl rfl rfl rfl rfl zcI (by simp;omega) ?_;refine A0 (g_nc rfl rfl) ?_;refine A0 (oFp zcY) ?_;refine zaj rfl rfl rfl rfl rfl rfl rfl rfl rfl rfl zco ?_;refine qaW ?_;refine zaH 5 4 6 rfl rfl rfl rfl rfl rfl ?_
        refine zz (n:=4) (y:=(prefixOf (levelsOf l) m k).1++(List.range (i+1)).map fun j:Nat=>(l.length:Int)-k+(j:Int)) rfl (by rw [List.range_succ,List.map_append];simp) ?_
        exact Nx (i+1) (by omega) (by omega)
       ·
        refine CE ?_;refine CQ ?_
        obtain ⟨PL,hPL⟩:∃PL,PL=placesOf l m k:=⟨_,rfl⟩
        refine zz (n:=4) (y:=PL) rfl (by rw [hPL];unfold placesOf;rw [show k.toNat=i by omega]) ?_
        have hpm:∀x∈PL,0≤x∧x<l.length:=fun x hx=>zbE (by omega) (hPL▸hx)
        have hpn:PL.length≤220:=hPL▸places_length (by omega)
        refine CR ?_;refine A0 mP ?_;refine A0 aP ?_;refine qac ?_;refine zb1 rfl ?_;refine A0 (by first|exact zdA (.inl rfl) rfl|exact zdz (.inl rfl) rfl) ?_;refine A0 (by first|exact zO rfl rfl|exact zM rfl rfl) ?_;refine A0 (by first|exact zR rfl rfl|exact zQ rfl rfl) ?_;refine A0 aP ?_;refine A0 aX ?_;refine CNQQR ?_;refine A0 mX ?_;refine qaO ?_;refine Cg ?_;refine CSQR ?_;refine A0 mP ?_;refine z6 rfl rfl rfl rfl Tryz.func32 fn_32 rfl rfl (fun ia3 iok3=>?_)
        refine CQR ?_;refine zw zcR rfl rfl rfl rfl ?_;refine CNQ ?_;refine zE [some 1000001,some 1000001,some 1000001,some 1000001,some 1000001,some 1000001,some 1000001,some 1000001,some 1000001,none,none] mixed (by decide +kernel) ?_;refine XK.ga (fun _=>g_mp (.inl rfl) rfl) rfl rfl rfl ?_;refine XK.ga (fun _=>g_nc rfl rfl) rfl rfl rfl ?_;refine XK.ga (fun _=>g_fa_p rfl rfl fd_82_1 rfl) rfl rfl rfl ?_;refine XK.gf (t:=8) rfl rfl (fun _ he=>zr rfl rfl he rfl rfl ty_3) ⟨rfl,trivial⟩ rfl rfl rfl ?_;refine XK.ga (fun _=>g_mp (.inl rfl) rfl) rfl rfl rfl ?_
        refine XK.ga (fun _=>g_nc rfl rfl) rfl rfl rfl ?_;refine XK.ga (fun _=>g_fa_p rfl rfl fd_82_2 rfl) rfl rfl rfl ?_;refine XK.gf (t:=12) rfl rfl (fun _ he=>zr rfl rfl he rfl rfl ty_3) ⟨rfl,trivial⟩ rfl rfl rfl ?_;refine XK.ga (fun _=>zD rfl zn_proof zdT (.cons zcG (Lens.fst _ _) ty_3 rfl (.cons zb6 ((Lens.snd _ _).comp (Lens.fst _ _)) ty_3 rfl .nil)) rfl) rfl rfl rfl ?_;refine XK.e (fun fr' hfr kk H=>by exact zw zn_proof rfl rfl rfl rfl (zH H)) ?_
        refine XK.e (x:=.idk) (fun fr' hfr kk H=>by exact zh rfl rfl rfl ((hfr 3 (by decide +kernel)).trans rfl) rfl (Lens.self _) zaE ((hfr 14 (by decide +kernel)).trans rfl) (zH H)) ?_;refine XK.nilp ⟨⟨rfl,rfl,trivial⟩,⟨rfl,rfl,trivial⟩,trivial⟩ ?_;refine zdI 6 (x:=(m,k,())) zfr rfl ?_;refine zcH 6 55 partT [.val i64T m,.val i64T k] rfl (by intro x hx;simp only [List.mem_cons,List.not_mem_nil,or_false] at hx;rcases hx with rfl|rfl<;>trivial) ?_;refine CQQR ?_;refine A0 mP ?_;refine A0 (g_nc rfl rfl) ?_;refine A0 (oFp zcY) ?_
        refine A0 (zr rfl rfl rfl rfl rfl zco) ?_;refine A0 (zak rfl rfl rfl zb3) ?_;refine qaA ?_
        refine Lp (ι:=Nat) 8 (fun (i:Nat)=>((((((Fr.none).set 0 (.ptr 2 0)).set 2 (.ptr 5 0)).set 3 (.ptr 6 0)).set 18 (.own 4)).set 19 (.val i64T (PL.length:Int))).set 20 (.val i64T (i:Int))) (fun (i:Nat)=>((((((Hp.none).set 0 (.box 25 proofT zProof)).set 2 (.parts 82 ([.val (bsl blockT) l,.val i64T m,.val i64T k,.val (sl i64T) (levelsOf l)]++[.own 4]))).set 4 (.row 3 i64T PL)).set 5 (.box 25 proofT zProof)).set 6 (.parts 25 [.val i64T m,.val i64T k,.own 7])).set 7 (.row 55 partT ((PL.take i).map (prPart l)))) (fun (i:Nat)=>i≤PL.length) (fun (i:Nat)=>PL.length-i) (0) (Nat.zero_le _) ?_
        intro i hi2
        refine qak ?_;refine Cf (p:=i<PL.length) (fun ht21=>?_) (fun ht21=>?_)
        ·
         obtain ⟨x,hx⟩:∃x,PL[i]?=some x:=⟨_,List.getElem?_eq_getElem ht21⟩
         have hxb:=hpm x (List.mem_of_getElem? hx)
         obtain ⟨b,hb⟩:∃b,l[x.toNat]?=some b:=⟨_,List.getElem?_eq_getElem (by omega)⟩
         refine CSQBQR ?_;refine A0 (zdB (i:=i) rfl rfl rfl rfl (by first|omega|rfl) zbt (by first|assumption|omega|(simp;omega))) ?_;refine A0 (zbZ rfl rfl rfl rfl (by assumption) (Lens.self _) ty_3) ?_;refine qac ?_;refine zE [some 1,some 1,some 1,some 1,some 1,some 1,some 1,some 1,some 1,some 1,some 1,some 1,some 1,some 1,some 1,some 1,some 1,some 1,some 1,some 1,some 1,none,some 1,none] mixed (by decide +kernel) ?_;refine X0 (oFp zaq) ?_;refine X0 (zr rfl rfl rfl rfl rfl zcd) ?_;refine X0 mP ?_;refine X0 (g_nc rfl rfl) ?_;refine X0 (oFp fd_82_0) ?_
         refine X0 (zr rfl rfl rfl rfl rfl ty_22) ?_;refine X0 mV ?_;refine X0 (zo (i:=x.toNat) rfl rfl rfl (by omega) zda (by assumption)) ?_;refine X0 (oFr zar zah) ?_;refine X0 (zf rfl rfl zal) ?_;refine X0 mP ?_;refine X0 (g_nc rfl rfl) ?_;refine X0 (oFp fd_82_0) ?_;refine X0 (zr rfl rfl rfl rfl rfl ty_22) ?_;refine X0 mV ?_;refine X0 (zo (i:=x.toNat) rfl rfl rfl (by omega) zda (by assumption)) ?_;refine X0 (oFr zbH zbq) ?_;refine X0 (zf rfl rfl zbc) ?_
         refine X0 (oCl (zq (cloneId b.l (by have:=(hl.2 b (List.mem_of_getElem? hb)).1;constructor<;>omega))) rfl fn_74 ⟨(by first|exact zy rfl|exact zW rfl|exact zF rfl rfl|exact zU rfl|exact zs rfl|exact zag rfl rfl|exact zV rfl),trivial⟩) ?_;refine X0 (zD rfl ze_55 bd_55 (.cons za6 zaO zal rfl (.cons zbv zbA zbc rfl .nil)) rfl) ?_;refine X0 (zu (T:=partT) (xs:=[_]) rfl zaP row_23 ⟨rfl,rfl,trivial⟩ rfl rfl) ?_
         refine XK.e (fun fr' hfr kk H=>by exact zB rfl rfl rfl rfl ((hfr 25 (by decide +kernel)).trans rfl) rfl ((hfr 44 (by decide +kernel)).trans rfl) row_23 (by simp;omega) (zH H)) ?_;refine X0 (oFp zaq) ?_;refine XK.e (x:=.idk) (fun fr' hfr kk H=>by exact zaj rfl rfl rfl ((hfr 46 (by decide +kernel)).trans rfl) rfl rfl ((hfr 45 (by decide +kernel)).trans rfl) rfl rfl rfl zcd (zH H)) ?_;refine qaL ?_;refine zaH 8 7 9 rfl rfl rfl rfl rfl rfl ?_
         refine zz (n:=7) (y:=(PL.take (i+1)).map (prPart l)) rfl (by rw [List.take_add_one,hx,List.map_append];simp [prPart,hb]) ?_
         exact Nx (i+1) (by omega) (by omega)
        ·
         refine CE ?_;refine CQ ?_;refine zz (n:=7) (y:=PL.map (prPart l)) rfl (by rw [List.take_of_length_le (by omega)]) ?_;refine aw_joinb 6 7 [.val i64T m,.val i64T k] (z:=(⟨m,k,PL.map (prPart l)⟩:Proof)) (R:=proofT) rfl rfl rfl join_proof ?_;refine CR ?_;refine A0 (oLs rfl rfl rfl zaE) ?_;refine qai ?_;refine CN ?_;refine zdM rfl rfl rfl zaE ?_;refine qai ?_;refine qac ?_
         exact zC rfl rfl (zJ rfl rfl zaE (by unfold prOf;rw [if_pos (by unfold prE;rw [if_neg (by omega),if_neg (by omega)]),hPL])) (zai (zb rfl (by unfold prE;rw [if_neg (by omega),if_neg (by omega)])))
set_option maxRecDepth 20000
theorem toI_u32 {a b:UInt32}:IntL.toI u32T a=IntL.toI u32T b↔a=b:=⟨fun h=>UInt32.toNat_inj.1 (Int.ofNat.inj h),fun h=>by rw [h]⟩
def idsP (p:Proof):List Ab.Id:=p.p.map fun x=>headId x.h
def levelsP (p:Proof):List Int:=p.p.map fun x=>headLevel x.h
def leadsB (l:List Ab.Id) (prev id:Ab.Id):Bool:=decide (prev=id)||l.any fun x=>decide (id=x)
def prevF (y z:Part) (last:Prop) [Decidable last] (d:Ab.Id):Int :=
  if y.h.height≤z.h.height∨¬y.h.bits=z.h.bits∨last∧(¬y.h.height=IntKind.i64.wrap (z.h.height+1)∨¬y.h.prev=d) then 5 else 0
def linkF (y:Part) (c d:Ab.Id):Int :=
  if y.l.length=0∨32<y.l.length∨¬y.l.getD 0 zId=c∨leadsB y.l y.h.prev d=false∨¬linkRoot y.l=y.h.links then 6 else 0
def workF (y:Part):Int:=if ¬headMay y.h=true then 4 else 0
def zPartD:Part:=⟨zHead,[]⟩
def yOf (x:CTrial):Part:=x.p.p.getD x.at_.toNat zPartD
def zOf (x:CTrial):Part:=x.p.p.getD (x.at_.toNat-1) zPartD
def dOf (x:CTrial):Ab.Id:=x.ids.getD (x.at_.toNat-1) zId
def cOf (x:CTrial):Ab.Id:=x.ids.getD 0 zId
def prevC (x:CTrial):Int:=prevF (yOf x) (zOf x) ((x.p.p.length:Int)-x.p.k≤x.at_) (dOf x)
def linkC (x:CTrial):Int:=linkF (yOf x) (cOf x) (dOf x)
def workC (x:CTrial):Int:=workF (yOf x)
def TrOk (x:CTrial):Prop:=1≤x.at_∧x.at_<x.p.p.length∧x.ids.length=x.p.p.length∧x.p.p.length≤100∧1≤x.p.k∧x.p.k≤20
theorem yOf_at {x:CTrial} {y:Part} (h:x.p.p[x.at_.toNat]?=some y):yOf x=y:=by unfold yOf;simp [h]
theorem zOf_at {x:CTrial} {y:Part} (h:x.p.p[x.at_.toNat-1]?=some y):zOf x=y:=by unfold zOf;simp [h]
theorem dOf_at {x:CTrial} {y:Ab.Id} (h:x.ids[x.at_.toNat-1]?=some y):dOf x=y:=by unfold dOf;simp [h]
theorem cOf_at {x:CTrial} {y:Ab.Id} (h:x.ids[0]?=some y):cOf x=y:=by unfold cOf;simp [h]
theorem prevC_yes {x : CTrial} {y z : Part} {d : Ab.Id} (hy : x.p.p[x.at_.toNat]? = some y) (hz : x.p.p[x.at_.toNat - 1]? = some z) (hd : x.ids[x.at_.toNat - 1]? = some d)
    (h:y.h.height≤z.h.height∨¬y.h.bits=z.h.bits∨((x.p.p.length:Int)-x.p.k≤x.at_)∧(¬y.h.height=IntKind.i64.wrap (z.h.height+1)∨¬y.h.prev=d)):prevC x=5:=by
  unfold prevC prevF;rw [yOf_at hy,zOf_at hz,dOf_at hd,if_pos h]
theorem prevC_no {x : CTrial} {y z : Part} {d : Ab.Id} (hy : x.p.p[x.at_.toNat]? = some y) (hz : x.p.p[x.at_.toNat - 1]? = some z) (hd : x.ids[x.at_.toNat - 1]? = some d)
    (h:¬(y.h.height≤z.h.height∨¬y.h.bits=z.h.bits∨((x.p.p.length:Int)-x.p.k≤x.at_)∧(¬y.h.height=IntKind.i64.wrap (z.h.height+1)∨¬y.h.prev=d))):prevC x=0:=by
  unfold prevC prevF;rw [yOf_at hy,zOf_at hz,dOf_at hd,if_neg h]
theorem linkC_yes {x : CTrial} {y : Part} {c d : Ab.Id} (hy : x.p.p[x.at_.toNat]? = some y) (hc : x.ids[0]? = some c) (hd : x.ids[x.at_.toNat - 1]? = some d)
    (h:y.l.length=0∨32<y.l.length∨¬y.l.getD 0 zId=c∨leadsB y.l y.h.prev d=false∨¬linkRoot y.l=y.h.links):linkC x=6:=by
  unfold linkC linkF;rw [yOf_at hy,cOf_at hc,dOf_at hd,if_pos h]
theorem linkC_no {x : CTrial} {y : Part} {c d : Ab.Id} (hy : x.p.p[x.at_.toNat]? = some y) (hc : x.ids[0]? = some c) (hd : x.ids[x.at_.toNat - 1]? = some d)
    (h:¬(y.l.length=0∨32<y.l.length∨¬y.l.getD 0 zId=c∨leadsB y.l y.h.prev d=false∨¬linkRoot y.l=y.h.links)):linkC x=0:=by
  unfold linkC linkF;rw [yOf_at hy,cOf_at hc,dOf_at hd,if_neg h]
def three:List (Option Nat):=[some 68,some 69,some 70]
def askC (f:Option Nat) (x:CTrial):Int:=if f=some 68 then prevC x else if f=some 69 then linkC x else workC x
def firstC:List (Option Nat)→CTrial→Int
  | [],_=>0
  | f::l,x=>if askC f x=0 then firstC l x else askC f x
theorem firstC_three (x:CTrial):firstC three x=if ¬prevC x=0 then prevC x else if ¬linkC x=0 then linkC x else workC x:=by
  have e1:askC (some 68) x=prevC x:=by unfold askC;rw [if_pos rfl]
  have e2:askC (some 69) x=linkC x:=by unfold askC;rw [if_neg (by decide),if_pos rfl]
  have e3:askC (some 70) x=workC x:=by unfold askC;rw [if_neg (by decide),if_neg (by decide)]
  unfold three
  simp only [firstC,e1,e2,e3]
  by_cases h1:prevC x=0
  · by_cases h2:linkC x=0
    · by_cases h3:workC x=0<;>simp [h1,h2,h3]
    · simp [h1,h2]
  · simp [h1]
theorem firstC_step {l:List (Option Nat)} {j:Nat} {f:Option Nat} {x:CTrial} (h:l[j]?=some f) (h0:askC f x=0):firstC (l.drop j) x=firstC (l.drop (j+1)) x:=by
  obtain ⟨hj,rfl⟩:=List.getElem?_eq_some_iff.1 h
  rw [List.drop_eq_getElem_cons hj]
  show (if _ then _ else _)=_
  rw [if_pos h0]
theorem zdk {l:List (Option Nat)} {j:Nat} {f:Option Nat} {x:CTrial} (h:l[j]?=some f) (h0:¬askC f x=0):firstC (l.drop j) x=askC f x:=by
  obtain ⟨hj,rfl⟩:=List.getElem?_eq_some_iff.1 h
  rw [List.drop_eq_getElem_cons hj]
  show (if _ then _ else _)=_
  rw [if_neg h0]
def trialsE (p:Proof) (ids:List Ab.Id):Nat→Nat→Int
  | 0,_=>0
  | n+1,i=>if firstC three ⟨p,ids,i⟩=0 then trialsE p ids n (i+1) else firstC three ⟨p,ids,i⟩
theorem trials_go {p:Proof} {ids:List Ab.Id} {i:Nat} (hi:i<p.p.length) (h:firstC three ⟨p,ids,i⟩=0):trialsE p ids (p.p.length-i) i=trialsE p ids (p.p.length-(i+1)) (i+1):=by
  rw [show p.p.length-i=(p.p.length-(i+1))+1 by omega]
  show (if _ then _ else _)=_
  rw [if_pos h]
theorem trials_stop {p:Proof} {ids:List Ab.Id} {i:Nat} (hi:i<p.p.length) (h:¬firstC three ⟨p,ids,i⟩=0):trialsE p ids (p.p.length-i) i=firstC three ⟨p,ids,i⟩:=by
  rw [show p.p.length-i=(p.p.length-(i+1))+1 by omega]
  show (if _ then _ else _)=_
  rw [if_neg h]
def checkP (p:Proof):Int :=
  if p.m<1∨20<p.m∨p.k<1∨20<p.k then 1
  else if 100<p.p.length∨(p.p.length:Int)≤p.k then 3
  else if tgtOk (p.p.getD 0 zPartD).h.bits=false∨0<(p.p.getD 0 zPartD).l.length∨¬(p.p.getD 0 zPartD).h=(firstTip (p.p.getD 0 zPartD).h.bits).b.h then 12
  else trialsE p (idsP p) (p.p.length-1) 1
def fewPr (p:Proof):Bool:=p.p.all (fun x=>decide (x.l.length≤40))&&decide (p.p.length≤110)
theorem ids_ok (p:Proof) (hl:p.p.length≤1000000000000):Tells P 66 [.val proofT p] (.fresh 46 idT (idsP p)):=by
 refine zc Tryz.func66 rfl rfl rfl (fun ext w hext=>?_)
 refine qbV ?_;refine CNQR ?_;refine A0 aL ?_;refine CNQQR ?_;refine qa3 ?_;refine qaA ?_;refine zc4 (T:=idT) (d:=3) 46 rfl ?_;refine Lp (ι:=Nat) 2 (fun (k:Nat)=>((((Fr.none).set 3 (.own 1)).set 7 (.val (sl partT) p.p)).set 8 (.val i64T (p.p.length:Int))).set 9 (.val i64T (k:Int))) (fun (k:Nat)=>(Hp.none).set 1 (.row 46 idT ((p.p.take k).map fun x=>headId x.h))) (fun (k:Nat)=>k≤p.p.length) (fun (k:Nat)=>p.p.length-k) (0) (Nat.zero_le _) ?_
 intro k hinv
 refine qak ?_;refine Cf (p:=k<p.p.length) (fun ht10=>?_) (fun ht10=>?_)
 ·
  obtain ⟨x,hx⟩:∃x,p.p[k]?=some x:=⟨_,List.getElem?_eq_getElem ht10⟩
  refine CSQBQR ?_;refine A0 (zaK rfl rfl rfl zaP (by assumption)) ?_;refine qaP ?_;refine CNR ?_;refine A0 mO ?_;refine A0 (oFp za6) ?_;refine A0 (oLb zaO zal) ?_;refine A0 (oCl (zfb x.h) rfl fn_67 ⟨(zd rfl),trivial⟩) ?_;refine A0 (zu (T:=idT) (xs:=[_]) rfl zbW zde ⟨rfl,rfl,trivial⟩ rfl rfl) ?_;refine zB rfl rfl rfl rfl rfl rfl rfl zde (by simp;omega) ?_;refine qbU ?_;refine zaH 3 1 4 rfl rfl rfl rfl rfl rfl ?_;refine zz (n:=1) (y:=(p.p.take (k+1)).map fun x=>headId x.h) rfl (by rw [List.take_add_one,hx,List.map_append];simp) ?_
  exact Nx (k+1) (by omega) (by omega)
 ·
  refine qa8 ?_
  exact za rfl rfl (zg rfl rfl (by rw [List.take_of_length_le (by omega)];rfl))
theorem levelsP_ok (p:Proof) (hl:p.p.length≤1000000000000):Tells P 65 [.val proofT p] (.fresh 3 i64T (levelsP p)):=by
 refine zc Tryz.func65 rfl rfl rfl (fun ext w hext=>?_)
 refine qbV ?_;refine CNQR ?_;refine A0 aL ?_;refine CNQQR ?_;refine qa3 ?_;refine qaA ?_;refine zc4 (T:=i64T) (d:=3) 3 rfl ?_;refine Lp (ι:=Nat) 2 (fun (k:Nat)=>((((Fr.none).set 3 (.own 1)).set 7 (.val (sl partT) p.p)).set 8 (.val i64T (p.p.length:Int))).set 9 (.val i64T (k:Int))) (fun (k:Nat)=>(Hp.none).set 1 (.row 3 i64T ((p.p.take k).map fun x=>headLevel x.h))) (fun (k:Nat)=>k≤p.p.length) (fun (k:Nat)=>p.p.length-k) (0) (Nat.zero_le _) ?_
 intro k hinv
 refine qak ?_;refine Cf (p:=k<p.p.length) (fun ht10=>?_) (fun ht10=>?_)
 ·
  obtain ⟨x,hx⟩:∃x,p.p[k]?=some x:=⟨_,List.getElem?_eq_getElem ht10⟩
  refine CSQBQR ?_;refine A0 (zaK rfl rfl rfl zaP (by assumption)) ?_;refine qaP ?_;refine CNR ?_;refine A0 mO ?_;refine A0 (oFp za6) ?_;refine A0 (oLb zaO zal) ?_;refine A0 (oCl (zeJ x.h) rfl fn_104 ⟨(zd rfl),trivial⟩) ?_;refine A0 (zu (T:=i64T) (xs:=[_]) rfl zbt zcI ⟨rfl,rfl,trivial⟩ rfl rfl) ?_;refine zB rfl rfl rfl rfl rfl rfl rfl zcI (by simp;omega) ?_;refine qbU ?_;refine zaH 3 1 4 rfl rfl rfl rfl rfl rfl ?_;refine zz (n:=1) (y:=(p.p.take (k+1)).map fun x=>headLevel x.h) rfl (by rw [List.take_add_one,hx,List.map_append];simp) ?_
  exact Nx (k+1) (by omega) (by omega)
 ·
  refine qa8 ?_
  exact za rfl rfl (zg rfl rfl (by rw [List.take_of_length_le (by omega)];rfl))
theorem cprev_ok (x:CTrial) (h:TrOk x):Tells P 68 [.rptr cTrialT x] (.val i64T (prevC x)):=by
 obtain ⟨h1,h2,h3,h4,h5,h6⟩:=h
 obtain ⟨y,hy⟩:∃y,x.p.p[x.at_.toNat]?=some y:=⟨_,List.getElem?_eq_getElem (by omega)⟩
 obtain ⟨z,hz⟩:∃z,x.p.p[x.at_.toNat-1]?=some z:=⟨_,List.getElem?_eq_getElem (by omega)⟩
 obtain ⟨d,hd⟩:∃d,x.ids[x.at_.toNat-1]?=some d:=⟨_,List.getElem?_eq_getElem (by omega)⟩
 refine zc Tryz.func68 rfl rfl rfl (fun ext w hext=>?_)
 refine CQR ?_;refine qaH ?_;refine aw_drawf 25 (.box 52 headT zHead) [some 1000001,some 1000001,some 1000001,some 1000001,some 1000001,some 1000001,some 1000001,some 1000001,some 1000001,some 1000001,some 1000001,some 1000001,some 1000001,some 1000001,some 1000001,some 1000001,some 1000001,some 1000001,some 1000001,some 1000001,some 1000001,some 1000001,some 1000001,some 1000001,some 1000001,some 1000001,none,none,none] mixed (by decide +kernel) rfl ?_;refine XKF.ga rfl (fun _=>g_mr (.inl rfl) rfl) rfl rfl rfl rfl ?_;refine XKF.ga rfl (fun _=>zaT rfl rfl) rfl rfl rfl rfl ?_
 refine XKF.ga rfl (fun _=>g_fa_r rfl rfl zfF zdr) rfl rfl rfl rfl ?_;refine XKF.ga rfl (fun _=>g_fa_r rfl rfl zaq zao) rfl rfl rfl rfl ?_;refine XKF.ga rfl (fun _=>zf rfl rfl zcd) rfl rfl rfl rfl ?_;refine XKF.ga rfl (fun _=>g_mr (.inl rfl) rfl) rfl rfl rfl rfl ?_;refine XKF.ga rfl (fun _=>zaT rfl rfl) rfl rfl rfl rfl ?_;refine XKF.ga rfl (fun _=>g_fa_r rfl rfl zc0 zaV) rfl rfl rfl rfl ?_;refine XKF.ga rfl (fun _=>zf rfl rfl ty_3) rfl rfl rfl rfl ?_
 refine XKF.ga rfl (fun _=>zo (i:=x.at_.toNat) rfl rfl rfl (by omega) zaP (by assumption)) rfl rfl rfl rfl ?_;refine XKF.ga rfl (fun _=>g_fa_r rfl rfl za6 zaO) rfl rfl rfl rfl ?_;refine XKF.ga rfl (fun _=>zf rfl rfl zal) rfl rfl rfl rfl ?_;refine XKF.ga rfl (fun _=>g_mr (.inl rfl) rfl) rfl rfl rfl rfl ?_;refine XKF.ga rfl (fun _=>zaT rfl rfl) rfl rfl rfl rfl ?_;refine XKF.ga rfl (fun _=>g_fa_r rfl rfl zfF zdr) rfl rfl rfl rfl ?_;refine XKF.ga rfl (fun _=>g_fa_r rfl rfl zaq zao) rfl rfl rfl rfl ?_
 refine XKF.ga rfl (fun _=>zf rfl rfl zcd) rfl rfl rfl rfl ?_;refine XKF.ga rfl (fun _=>g_mr (.inl rfl) rfl) rfl rfl rfl rfl ?_;refine XKF.ga rfl (fun _=>zaT rfl rfl) rfl rfl rfl rfl ?_;refine XKF.ga rfl (fun _=>g_fa_r rfl rfl zc0 zaV) rfl rfl rfl rfl ?_;refine XKF.ga rfl (fun _=>zf rfl rfl ty_3) rfl rfl rfl rfl ?_;refine XKF.ga rfl (fun _=>by first|exact g_sub rfl rfl rfl (zae (by first|omega|(simp;omega)))|exact g_sub rfl rfl rfl rfl) rfl rfl rfl rfl ?_
 refine XKF.ga rfl (fun _=>zo (i:=x.at_.toNat-1) rfl rfl rfl (by omega) zaP (by assumption)) rfl rfl rfl rfl ?_;refine XKF.ga rfl (fun _=>g_fa_r rfl rfl za6 zaO) rfl rfl rfl rfl ?_;refine XKF.ga rfl (fun _=>zf rfl rfl zal) rfl rfl rfl rfl ?_;refine XKF.f rfl ze_52 rfl rfl rfl rfl rfl rfl ?_
 refine XKF.e rfl (fun fr' hfr kk H=>by exact zw ze_52 rfl rfl rfl rfl (zH H)) (EffA.conv (fun fr' hfr kk H=>by exact zw ze_52 rfl rfl rfl rfl (zH H)) (by first|exact hp_out rfl|exact hp_out2 rfl rfl|exact hp_out3 rfl rfl rfl|rfl)) (by exact rfl) (by exact rfl) (by exact rfl) (by (repeat refine av_set ?_ rfl);exact fun _ _=>rfl) ?_
 refine XKF.ew (x:=.idk) rfl (by decide +kernel) (fun fr' hfr kk H=>by exact zh rfl rfl rfl ((hfr 3 (by decide +kernel)).trans rfl) rfl (Lens.self _) zal ((hfr 17 (by decide +kernel)).trans rfl) (zH H)) (by exact rfl) (by (repeat refine av_set ?_ rfl);exact fun _ _=>rfl) ?_;refine XKF.ew (x:=.idk) rfl (by decide +kernel) (fun fr' hfr kk H=>by exact zh rfl rfl rfl ((hfr 4 (by decide +kernel)).trans rfl) rfl (Lens.self _) zal ((hfr 30 (by decide +kernel)).trans rfl) (zH H)) (by exact rfl) (by (repeat refine av_set ?_ rfl);exact fun _ _=>rfl) ?_
 refine XKF.nilp trivial ?_;refine qaU ?_;refine G0 mR ?_;refine G0 (zaT rfl rfl) ?_;refine G0 (oFr zc0 zaV) ?_;refine G0 (zf rfl rfl ty_3) ?_;refine G0 mR ?_;refine G0 (zaT rfl rfl) ?_;refine G0 (oFr zfF zdr) ?_;refine G0 (oFr zaq zao) ?_;refine G0 (zf rfl rfl zcd) ?_;refine G0 (by first|exact zK rfl rfl zbY|exact zak rfl rfl rfl zbY|exact zaw rfl rfl zbY) ?_;refine G0 mR ?_;refine G0 (zaT rfl rfl) ?_;refine G0 (oFr zfF zdr) ?_;refine G0 (oFr zb6 zct) ?_;refine G0 (zf rfl rfl ty_3) ?_
 refine G0 zaL ?_;refine G0 zcU ?_;refine qbn ?_;refine CQ ?_;refine qaU ?_;refine G0 (oFp zaU) ?_;refine G0 (oLb z7 ty_3) ?_;refine G0 (oFp zaU) ?_;refine G0 (oLb z7 ty_3) ?_;refine G0 zcP ?_;refine G0 mV ?_;refine zT (d:=53) (p:=y.h.height≤z.h.height) rfl (by first|rfl|(rw [decide_eq_decide];simp only [IntL.toI,id_eq];omega)|(simp [IntL.toI];done)|(simp [IntL.toI];omega)) (fun g53=>?_) (fun g53=>?_)
 ·
  refine qan ?_;refine G2 ?_;refine G2 ?_;refine qaX ?_;refine G2 ?_;refine G2 ?_;refine qad ?_;refine qad ?_;refine qbf ?_;refine G3 ?_;refine G2 ?_;refine qa4 ?_;refine Ct ?_;refine qay ?_
  exact za rfl rfl (zb rfl ((prevC_yes hy hz hd (.inl g53)).symm))
 ·
  refine G1 (oFp zbw) ?_;refine G1 (oLb zaD zbd) ?_;refine G1 (oFp zbw) ?_;refine G1 (oLb zaD zbd) ?_;refine G1 zch ?_;refine qaX ?_;refine zT (d:=60) (p:=¬y.h.bits=z.h.bits) rfl (by simp [toI_u32]) (fun g60=>?_) (fun g60=>?_)
  ·
   refine G2 ?_;refine G2 ?_;refine qad ?_;refine qad ?_;refine qbf ?_;refine G3 ?_;refine G2 ?_;refine qa4 ?_;refine Ct ?_;refine qay ?_
   exact za rfl rfl (zb rfl ((prevC_yes hy hz hd (.inr (.inl g60))).symm))
  ·
   refine G1 mV ?_;refine G1 mV ?_;refine zT (d:=62) (p:=(x.p.p.length:Int)-x.p.k≤x.at_) rfl (by first|rfl|(rw [decide_eq_decide];simp only [IntL.toI,id_eq];omega)|(simp [IntL.toI];done)|(simp [IntL.toI];omega)) (fun g62=>?_) (fun g62=>?_)
   ·
    refine G1 (oFp zaU) ?_;refine G1 (oLb z7 ty_3) ?_;refine G1 (oFp zaU) ?_;refine G1 (oLb z7 ty_3) ?_;refine G1 zbJ ?_;refine G1 zch ?_;refine G1 mV ?_;refine zT (d:=69) (p:=¬y.h.height=IntKind.i64.wrap (z.h.height+1)) rfl (by simp [IntL.toI]) (fun g69=>?_) (fun g69=>?_)
    ·
     refine qaa ?_;refine qaa ?_;refine G1 oK ?_;refine G1 oK ?_;refine qa4 ?_;refine Ct ?_;refine qay ?_
     exact za rfl rfl (zb rfl ((prevC_yes hy hz hd (.inr (.inr ⟨g62,.inl g69⟩))).symm))
    ·
     refine G1 (oFp zcF) ?_;refine G1 (oLb zca zG) ?_;refine G1 mR ?_;refine G1 (zaT rfl rfl) ?_;refine G1 (oFr fd_121_1 zeR) ?_;refine G1 (zf rfl rfl zbc) ?_;refine G1 mR ?_;refine G1 (zaT rfl rfl) ?_;refine G1 (oFr zc0 zaV) ?_;refine G1 (zf rfl rfl ty_3) ?_;refine G1 zaL ?_;refine G1 (zo (i:=x.at_.toNat-1) rfl rfl rfl (by omega) zbW (by assumption)) ?_;refine G1 (zf rfl rfl zG) ?_;refine G1 (zeL rfl rfl rfl (eqt_46)) ?_;refine G1 oK ?_;refine G1 oK ?_;refine qa4 ?_
     refine zp (p:=¬y.h.prev=d) rfl (by simp) (fun ht86=>?_) (fun ht86=>?_)
     ·
      refine qay ?_
      exact za rfl rfl (zb rfl ((prevC_yes hy hz hd (.inr (.inr ⟨g62,.inr ht86⟩))).symm))
     ·
      refine CSQR ?_;refine qac ?_
      exact za rfl rfl (zb rfl ((prevC_no hy hz hd (fun h=>h.elim g53 (fun h=>h.elim g60 (fun h=>h.2.elim g69 ht86)))).symm))
   ·
    refine qaa ?_;refine qad ?_;refine qbf ?_;refine G3 ?_;refine G3 ?_;refine G2 ?_;refine G1 oK ?_;refine qa4 ?_;refine Cg ?_;refine CSQR ?_;refine qac ?_
    exact za rfl rfl (zb rfl ((prevC_no hy hz hd (fun h=>h.elim g53 (fun h=>h.elim g60 (fun h=>g62 h.1)))).symm))
theorem clink_ok (x:CTrial) (h:TrOk x):Tells P 69 [.rptr cTrialT x] (.val i64T (linkC x)):=by
 obtain ⟨h1,h2,h3,h4,h5,h6⟩:=h
 obtain ⟨y,hy⟩:∃y,x.p.p[x.at_.toNat]?=some y:=⟨_,List.getElem?_eq_getElem (by omega)⟩
 obtain ⟨d,hd⟩:∃d,x.ids[x.at_.toNat-1]?=some d:=⟨_,List.getElem?_eq_getElem (by omega)⟩
 obtain ⟨c,hc⟩:∃c,x.ids[0]?=some c:=⟨_,List.getElem?_eq_getElem (by omega)⟩
 refine zc Tryz.func69 rfl rfl rfl (fun ext w hext=>?_)
 refine CQR ?_;refine qaH ?_;refine zE [some 1000001,some 1000001,some 1000001,some 1000001,some 1000001,some 1000001,some 1000001,some 1000001,some 1000001,some 1000001,some 1000001,none,none] mixed (by decide +kernel) ?_;refine XK.ga (fun _=>g_mr (.inl rfl) rfl) rfl rfl rfl ?_;refine XK.ga (fun _=>zaT rfl rfl) rfl rfl rfl ?_;refine XK.ga (fun _=>g_fa_r rfl rfl zfF zdr) rfl rfl rfl ?_;refine XK.ga (fun _=>g_fa_r rfl rfl zaq zao) rfl rfl rfl ?_;refine XK.ga (fun _=>zf rfl rfl zcd) rfl rfl rfl ?_;refine XK.ga (fun _=>g_mr (.inl rfl) rfl) rfl rfl rfl ?_
 refine XK.ga (fun _=>zaT rfl rfl) rfl rfl rfl ?_;refine XK.ga (fun _=>g_fa_r rfl rfl zc0 zaV) rfl rfl rfl ?_;refine XK.ga (fun _=>zf rfl rfl ty_3) rfl rfl rfl ?_;refine XK.ga (fun _=>zo (i:=x.at_.toNat) rfl rfl rfl (by omega) zaP (by assumption)) rfl rfl rfl ?_;refine XK.ga (fun _=>zf rfl rfl ty_55) rfl rfl rfl ?_;refine XK.e (fun fr' hfr kk H=>by exact zw ze_55 rfl rfl rfl rfl (zH H)) ?_
 refine XK.e (x:=.idk) (fun fr' hfr kk H=>by exact zh rfl rfl rfl ((hfr 3 (by decide +kernel)).trans rfl) rfl (Lens.self _) ty_55 ((hfr 14 (by decide +kernel)).trans rfl) (zH H)) ?_;refine XK.nil' ?_;refine CQ ?_;refine qaU ?_;refine G0 (oFp zbv) ?_;refine G0 (oLb zbA zbc) ?_;refine G0 (zK rfl rfl zaS) ?_;refine G0 zaW ?_;refine G0 mV ?_;refine zT (d:=19) (p:=y.l.length=0) rfl (by rw [decide_eq_decide];simp [IntL.toI]) (fun g19=>?_) (fun g19=>?_)
 ·
  refine qan ?_;refine G2 ?_;refine qaX ?_;refine qca ?_;refine qca ?_;refine qa4 ?_;refine Ct ?_;refine qay ?_
  exact za rfl rfl (zb rfl ((linkC_yes hy hc hd (.inl g19)).symm))
 ·
  refine G1 (oFp zbv) ?_;refine G1 (oLb zbA zbc) ?_;refine G1 (zK rfl rfl zaS) ?_;refine G1 zaG ?_;refine qaX ?_;refine zT (d:=25) (p:=32<y.l.length) rfl (by first|rfl|(rw [decide_eq_decide];simp only [IntL.toI,id_eq];omega)|(simp [IntL.toI];done)|(simp [IntL.toI];omega)) (fun g25=>?_) (fun g25=>?_)
  ·
   refine qca ?_;refine qca ?_;refine qa4 ?_;refine Ct ?_;refine qay ?_
   exact za rfl rfl (zb rfl ((linkC_yes hy hc hd (.inr (.inl g25))).symm))
  ·
   obtain ⟨e,he⟩:∃e,y.l[0]?=some e:=⟨_,List.getElem?_eq_getElem (by omega)⟩
   have hel:y.l.getD 0 zId=e:=by simp [he]
   refine G1 (oFp zbv) ?_;refine G1 (oLb zbA zbc) ?_;refine G1 (zo (i:=0) rfl rfl rfl (by omega) zbW (by assumption)) ?_;refine G1 (zf rfl rfl zG) ?_;refine G1 mR ?_;refine G1 (zaT rfl rfl) ?_;refine G1 (oFr fd_121_1 zeR) ?_;refine G1 (zf rfl rfl zbc) ?_;refine G1 (zo (i:=0) rfl rfl rfl (by omega) zbW (by assumption)) ?_;refine G1 (zf rfl rfl zG) ?_;refine G1 (zeL rfl rfl rfl (eqt_46)) ?_;refine qaX ?_;refine zT (d:=38) (p:=¬e=c) rfl (by simp) (fun g38=>?_) (fun g38=>?_)
   ·
    refine qaa ?_;refine qca ?_;refine qa4 ?_;refine Ct ?_;refine qay ?_
    exact za rfl rfl (zb rfl ((linkC_yes hy hc hd (.inr (.inr (.inl (by rw [hel];exact g38))))).symm))
   ·
    refine G1 (oFp zbv) ?_;refine G1 (oLb zbA zbc) ?_;refine G1 (oFp za6) ?_;refine G1 (oFp zcF) ?_;refine G1 (oLb (zaO.comp zca) zG) ?_;refine G1 mR ?_;refine G1 (zaT rfl rfl) ?_;refine G1 (oFr fd_121_1 zeR) ?_;refine G1 (zf rfl rfl zbc) ?_;refine G1 mR ?_;refine G1 (zaT rfl rfl) ?_;refine G1 (oFr zc0 zaV) ?_;refine G1 (zf rfl rfl ty_3) ?_;refine G1 zaL ?_;refine G1 (zo (i:=x.at_.toNat-1) rfl rfl rfl (by omega) zbW (by assumption)) ?_;refine G1 (zf rfl rfl zG) ?_
    refine G1 (oCl (leads_ok y.l y.h.prev d) rfl fn_124 ⟨(zd rfl),(zd rfl),(by first|exact zy rfl|exact zW rfl|exact zF rfl rfl|exact zU rfl|exact zs rfl|exact zag rfl rfl|exact zV rfl),trivial⟩) ?_;refine G1 oN ?_;refine qaX ?_;refine zT (d:=58) (p:=leadsB y.l y.h.prev d=false) rfl (by show (!(leadsB y.l y.h.prev d))=_;cases leadsB y.l y.h.prev d<;>rfl) (fun g58=>?_) (fun g58=>?_)
    ·
     refine qaa ?_;refine qa4 ?_;refine Ct ?_;refine qay ?_
     exact za rfl rfl (zb rfl ((linkC_yes hy hc hd (.inr (.inr (.inr (.inl g58))))).symm))
    ·
     refine G1 (oFp zbv) ?_;refine G1 (oLb zbA zbc) ?_;refine G1 (oCl (linkRoot_ok y.l (by omega)) rfl fn_106 ⟨(zd rfl),trivial⟩) ?_;refine G1 (oFp za6) ?_;refine G1 (oFp zcE) ?_;refine G1 (oLb (zaO.comp zbK) zG) ?_;refine G1 (zeL rfl rfl rfl (eqt_46)) ?_;refine qa4 ?_;refine zp (p:=¬linkRoot y.l=y.h.links) rfl (by simp) (fun ht66=>?_) (fun ht66=>?_)
     ·
      refine qay ?_
      exact za rfl rfl (zb rfl ((linkC_yes hy hc hd (.inr (.inr (.inr (.inr ht66))))).symm))
     ·
      refine CSQR ?_;refine qac ?_
      exact za rfl rfl (zb rfl ((linkC_no hy hc hd (fun h=>h.elim g19 (fun h=>h.elim g25 (fun h=>h.elim (by rw [hel];exact g38) (fun h=>h.elim g58 ht66))))).symm))
theorem cwork_ok (x:CTrial) (h:TrOk x):Tells P 70 [.rptr cTrialT x] (.val i64T (workC x)):=by
 obtain ⟨h1,h2,h3,h4,h5,h6⟩:=h
 obtain ⟨y,hy⟩:∃y,x.p.p[x.at_.toNat]?=some y:=⟨_,List.getElem?_eq_getElem (by omega)⟩
 refine zc Tryz.func70 rfl rfl rfl (fun ext w hext=>?_)
 refine CQR ?_;refine qaH ?_;refine qaU ?_;refine G0 mR ?_;refine G0 (zaT rfl rfl) ?_;refine G0 (oFr zfF zdr) ?_;refine G0 (oFr zaq zao) ?_;refine G0 (zf rfl rfl zcd) ?_;refine G0 mR ?_;refine G0 (zaT rfl rfl) ?_;refine G0 (oFr zc0 zaV) ?_;refine G0 (zf rfl rfl ty_3) ?_;refine G0 (zo (i:=x.at_.toNat) rfl rfl rfl (by omega) zaP (by assumption)) ?_;refine G0 (oFr za6 zaO) ?_;refine G0 (zf rfl rfl zal) ?_
 refine G0 (oCl (headMay_ok y.h) rfl fn_125 ⟨(by first|exact zy rfl|exact zW rfl|exact zF rfl rfl|exact zU rfl|exact zs rfl|exact zag rfl rfl|exact zV rfl),trivial⟩) ?_;refine G0 oN ?_;refine GK.nil ?_;refine zp (p:=¬headMay y.h=true) rfl (by cases headMay y.h<;>rfl) (fun ht16=>?_) (fun ht16=>?_)
 ·
  refine qay ?_
  exact za rfl rfl (zb rfl (by unfold workC workF;rw [yOf_at hy,if_pos ht16]))
 ·
  refine CSQR ?_;refine qac ?_
  exact za rfl rfl (zb rfl (by unfold workC workF;rw [yOf_at hy,if_neg ht16]))
theorem checkP_ok (p:Proof):Tells P 28 [.val proofT p] (.val i64T (checkP p)):=by
 refine zc Tryz.func28 rfl rfl rfl (fun ext w hext=>?_)
 refine qaf ?_;refine A0 aV ?_;refine CNQQR ?_;refine A0 (oFp zcG) ?_;refine A0 (oLb zdO ty_3) ?_;refine A0 zbF ?_;refine qav ?_;refine Sp (d:=12) (p:=p.m<1) (fun g12=>?_) (fun g12=>?_)
 ·
  refine qab ?_;refine qaM ?_;refine qaM ?_;refine qas ?_;refine Ct ?_;refine qay ?_
  exact za rfl rfl (zb rfl ((by unfold checkP;rw [if_pos (by omega)])))
 ·
  refine A1 (oFp zcG) ?_;refine A1 (oLb zdO ty_3) ?_;refine A1 zaG ?_;refine qag ?_;refine Sp (d:=17) (p:=20<p.m) (fun g17=>?_) (fun g17=>?_)
  ·
   refine qab ?_;refine qaM ?_;refine qas ?_;refine Ct ?_;refine qay ?_
   exact za rfl rfl (zb rfl ((by unfold checkP;rw [if_pos (by omega)])))
  ·
   refine A1 (oFp zb6) ?_;refine A1 (oLb zct ty_3) ?_;refine A1 zbF ?_;refine qag ?_;refine Sp (d:=22) (p:=p.k<1) (fun g22=>?_) (fun g22=>?_)
   ·
    refine qab ?_;refine qas ?_;refine Ct ?_;refine qay ?_
    exact za rfl rfl (zb rfl ((by unfold checkP;rw [if_pos (by omega)])))
   ·
    refine A1 (oFp zb6) ?_;refine A1 (oLb zct ty_3) ?_;refine A1 zaG ?_;refine qas ?_;refine Cf (p:=20<p.k) (fun ht26=>?_) (fun ht26=>?_)
    ·
     refine qay ?_
     exact za rfl rfl (zb rfl ((by unfold checkP;rw [if_pos (by omega)])))
    ·
     refine CSQQR ?_;refine qa3 ?_;refine A0 zaG ?_;refine qav ?_;refine Sp (d:=31) (p:=100<p.p.length) (fun g31=>?_) (fun g31=>?_)
     ·
      refine qab ?_;refine qab ?_;refine qas ?_;refine Ct ?_;refine qay ?_
      exact za rfl rfl (zb rfl ((by unfold checkP;rw [if_neg (by omega),if_pos (by omega)])))
     ·
      refine qar ?_;refine A1 (oFp zb6) ?_;refine A1 (oLb zct ty_3) ?_;refine A1 zcP ?_;refine qas ?_;refine Cf (p:=(p.p.length:Int)≤p.k) (fun ht38=>?_) (fun ht38=>?_)
      ·
       refine qay ?_
       exact za rfl rfl (zb rfl ((by unfold checkP;rw [if_neg (by omega),if_pos (by omega)])))
      ·
       obtain ⟨a,ha⟩:∃a,p.p[0]?=some a:=⟨_,List.getElem?_eq_getElem (by omega)⟩
       have hag:p.p.getD 0 zPartD=a:=by simp [ha]
       refine CSQR ?_;refine A0 (oFp zaq) ?_;refine A0 (oLb zao zcd) ?_;refine A0 (zo (i:=0) rfl rfl rfl (by omega) zaP (by assumption)) ?_;refine A0 (oFr za6 zaO) ?_;refine A0 (oFr zbw zaD) ?_;refine A0 (zf rfl rfl zbd) ?_;refine A0 (oCl (firstTip_ok a.h.bits) rfl fn_62 ⟨(by first|exact zy rfl|exact zW rfl|exact zF rfl rfl|exact zU rfl|exact zs rfl|exact zag rfl rfl|exact zV rfl),trivial⟩) ?_;refine A0 mX ?_;refine A0 (by first|exact zO rfl rfl|exact zM rfl rfl) ?_
       refine A0 (by first|exact zR rfl rfl|exact zQ rfl rfl) ?_;refine qbw ?_;refine qa7 ?_;refine qaH ?_;refine qaU ?_;refine G0 mV ?_;refine G0 oN ?_;refine G0 mV ?_;refine zT (d:=51) (p:=tgtOk a.h.bits=false) rfl (by cases tgtOk a.h.bits<;>rfl) (fun g51=>?_) (fun g51=>?_)
       ·
        refine qaa ?_;refine qaX ?_;refine qaa ?_;refine G2 ?_;refine G2 ?_;refine qa4 ?_;refine Ct ?_;refine qay ?_
        exact za rfl rfl (zb rfl ((by unfold checkP;rw [if_neg (by omega),if_neg (by omega),hag,if_pos (.inl g51)])))
       ·
        refine qao ?_;refine G1 (zo (i:=0) rfl rfl rfl (by omega) zaP (by assumption)) ?_;refine G1 (oFr zbv zbA) ?_;refine G1 (zf rfl rfl zbc) ?_;refine G1 (by first|exact zK rfl rfl zaS|exact zak rfl rfl rfl zaS|exact zaw rfl rfl zaS) ?_;refine G1 zaG ?_;refine qaX ?_;refine zT (d:=60) (p:=0<a.l.length) rfl (by first|rfl|(rw [decide_eq_decide];simp only [IntL.toI,id_eq];omega)|(simp [IntL.toI];done)|(simp [IntL.toI];omega)) (fun g60=>?_) (fun g60=>?_)
        ·
         refine qaa ?_;refine G2 ?_;refine G2 ?_;refine qa4 ?_;refine Ct ?_;refine qay ?_
         exact za rfl rfl (zb rfl ((by unfold checkP;rw [if_neg (by omega),if_neg (by omega),hag,if_pos (.inr (.inl g60))])))
        ·
         refine qao ?_;refine G1 (zo (i:=0) rfl rfl rfl (by omega) zaP (by assumption)) ?_;refine qaN ?_;refine G1 (oFp zdl) ?_;refine G1 (oFp zar) ?_;refine G1 (oLb (zdq.comp zah) zal) ?_;refine G1 (zeL rfl rfl rfl (eqt_52)) ?_;refine qa4 ?_;refine zp (p:=¬a.h=(firstTip a.h.bits).b.h) rfl (by simp) (fun ht70=>?_) (fun ht70=>?_)
         ·
          refine qay ?_
          exact za rfl rfl (zb rfl ((by unfold checkP;rw [if_neg (by omega),if_neg (by omega),hag,if_pos (.inr (.inr ht70))])))
         ·
          have hcp:checkP p=trialsE p (idsP p) (p.p.length-1) 1:=by unfold checkP;rw [if_neg (by omega),if_neg (by omega),hag,if_neg (fun h=>h.elim g51 (fun h=>h.elim g60 ht70))]
          have hids:=zq (ids_ok p (by omega))
          obtain ⟨ids,hid⟩:∃ids,ids=idsP p:=⟨_,rfl⟩
          rw [←hid] at hids hcp
          have hidl:ids.length=p.p.length:=by rw [hid];unfold idsP;simp
          refine CS ?_;refine CQ ?_;refine zE [some 1,some 1,some 1,some 1,none,some 1] mixed (by decide +kernel) ?_;refine X0 (oLs rfl rfl rfl zaE) ?_;refine X0 (oLs rfl rfl rfl zaE) ?_;refine X0 (oCl (hids) rfl fn_66 ⟨(zd rfl),trivial⟩) ?_;refine X0 (zD rfl ze_121 bd_121 (.cons zfF zdr zaE rfl (.cons fd_121_1 zeR zbc rfl .nil)) rfl) ?_;refine XK.e (fun fr' hfr kk H=>by exact aw_box rfl rfl rfl rfl ((hfr 74 (by decide +kernel)).trans rfl) (zH H)) ?_;refine X0 aP ?_;refine XK.nil' ?_;refine CQQR ?_;refine A0 mP ?_;refine A0 (g_nc rfl rfl) ?_
          refine A0 (oFp zc0) ?_;refine zh rfl rfl rfl rfl rfl zaV ty_3 rfl ?_;refine CNB ?_;refine zS (n:=2) (y:=(⟨p,ids,((1:Nat):Int)⟩:CTrial)) rfl rfl ?_;refine Lp (ι:=Nat) 3 (fun (i:Nat)=>((Fr.none).set 1 (.ptr 0 0)).set 5 (.ptr 2 0)) (fun (i:Nat)=>((Hp.none).set 0 (.box 25 proofT p)).set 2 (.box 121 cTrialT ⟨p,ids,(i:Int)⟩)) (fun (i:Nat)=>1≤i∧i≤p.p.length∧checkP p=trialsE p ids (p.p.length-i) i) (fun (i:Nat)=>p.p.length-i) (1) (⟨Nat.le_refl _,by omega,hcp⟩) ?_
          intro i hinv
          refine CQ ?_;refine qaU ?_;refine G0 mP ?_;refine G0 (g_nc rfl rfl) ?_;refine G0 (oFp zc0) ?_;refine G0 (oLb zaV ty_3) ?_;refine G0 (oFp zaq) ?_;refine G0 (oLb zao zcd) ?_;refine G0 (zK rfl rfl zbY) ?_;refine G0 zbF ?_;refine GK.nil ?_;refine Cf (p:=i<p.p.length) (fun ht86=>?_) (fun ht86=>?_)
          ·
           have htr:TrOk ⟨p,ids,(i:Int)⟩:=⟨by show (1:Int)≤i;omega,by show (i:Int)<p.p.length;omega,hidl,by show p.p.length≤100;omega,by show 1≤p.k;omega,by show p.k≤20;omega⟩
           refine CSQBQR ?_;refine A0 (g_buildF (xs:=[_,_,_]) rfl ar_124 ze_124 ⟨rfl,⟨_,rfl,rfl⟩,rfl,⟨_,rfl,rfl⟩,rfl,⟨_,rfl,rfl⟩,trivial⟩ rfl) ?_;refine zi (d:=94) (y:=three) rfl rfl ?_;refine qaA ?_;refine Lp (ι:=Nat) 3 (fun (j:Nat)=>((((Fr.none).set 1 (.ptr 0 0)).set 5 (.ptr 2 0)).set 94 (.val (arrT 3 (by decide) fnoT) three)).set 95 (.val i64T (j:Int))) (fun (j:Nat)=>((Hp.none).set 0 (.box 25 proofT p)).set 2 (.box 121 cTrialT ⟨p,ids,(i:Int)⟩)) (fun (j:Nat)=>j≤3∧firstC three ⟨p,ids,i⟩=firstC (three.drop j) ⟨p,ids,i⟩) (fun (j:Nat)=>3-j) (0) (⟨by omega,rfl⟩) ?_
           intro j hj
           refine qak ?_;refine Cf (p:=j<3) (fun ht96=>?_) (fun ht96=>?_)
           ·
            obtain ⟨e,he⟩:∃e,three[j]?=some e:=⟨_,List.getElem?_eq_getElem (show j<three.length from ht96)⟩
            have hask:e=some 68∨e=some 69∨e=some 70:=by have h:=List.mem_of_getElem? he;unfold three at h;simpa using h
            rcases hask with hk|hk|hk
            ·
             refine CSQBQR ?_;refine A0 (g_index rfl rfl rfl rfl ar_124 ty_122 (by assumption)) ?_;refine zi (d:=97) rfl hk ?_;refine zd9 (d:=97) (f:=68) rfl ?_;refine A0 aC ?_;refine CNQR ?_;refine A0 mC ?_;refine A0 mP ?_;refine A0 (zeX (As:=[_]) (Cs:=[]) (cprev_ok ⟨p,ids,i⟩ htr) rfl rfl fn_68 ⟨(by first|exact zdp rfl rfl (Lens.self _)|exact zcz rfl rfl),trivial⟩ (by intro n hn;cases hn) trivial rfl) ?_;refine qaV ?_;refine qaO ?_;refine zp (p:=¬askC e ⟨p,ids,i⟩=0) rfl (by simp [askC,hk,IntL.toI]) (fun ht102=>?_) (fun ht102=>?_)
             ·
              refine qb3 ?_
              exact za rfl rfl (zb rfl (by rw [hinv.2.2,trials_stop ht86 (by rw [hj.2,zdk he ht102];exact ht102),hj.2,zdk he ht102,hk];rfl))
             ·
              refine qbe ?_
              exact Nx (j+1) (⟨by omega,hj.2.trans (firstC_step he (Classical.not_not.1 ht102))⟩) (by omega)
            ·
             refine CSQBQR ?_;refine A0 (g_index rfl rfl rfl rfl ar_124 ty_122 (by assumption)) ?_;refine zi (d:=97) rfl hk ?_;refine zd9 (d:=97) (f:=69) rfl ?_;refine A0 aC ?_;refine CNQR ?_;refine A0 mC ?_;refine A0 mP ?_;refine A0 (zeX (As:=[_]) (Cs:=[]) (clink_ok ⟨p,ids,i⟩ htr) rfl rfl fn_69 ⟨(by first|exact zdp rfl rfl (Lens.self _)|exact zcz rfl rfl),trivial⟩ (by intro n hn;cases hn) trivial rfl) ?_;refine qaV ?_;refine qaO ?_;refine zp (p:=¬askC e ⟨p,ids,i⟩=0) rfl (by simp [askC,hk,IntL.toI]) (fun ht102=>?_) (fun ht102=>?_)
             ·
              refine qb3 ?_
              exact za rfl rfl (zb rfl (by rw [hinv.2.2,trials_stop ht86 (by rw [hj.2,zdk he ht102];exact ht102),hj.2,zdk he ht102,hk];rfl))
             ·
              refine qbe ?_
              exact Nx (j+1) (⟨by omega,hj.2.trans (firstC_step he (Classical.not_not.1 ht102))⟩) (by omega)
            ·
             refine CSQBQR ?_;refine A0 (g_index rfl rfl rfl rfl ar_124 ty_122 (by assumption)) ?_;refine zi (d:=97) rfl hk ?_;refine zd9 (d:=97) (f:=70) rfl ?_;refine A0 aC ?_;refine CNQR ?_;refine A0 mC ?_;refine A0 mP ?_;refine A0 (zeX (As:=[_]) (Cs:=[]) (cwork_ok ⟨p,ids,i⟩ htr) rfl rfl fn_70 ⟨(by first|exact zdp rfl rfl (Lens.self _)|exact zcz rfl rfl),trivial⟩ (by intro n hn;cases hn) trivial rfl) ?_;refine qaV ?_;refine qaO ?_;refine zp (p:=¬askC e ⟨p,ids,i⟩=0) rfl (by simp [askC,hk,IntL.toI]) (fun ht102=>?_) (fun ht102=>?_)
             ·
              refine qb3 ?_
              exact za rfl rfl (zb rfl (by rw [hinv.2.2,trials_stop ht86 (by rw [hj.2,zdk he ht102];exact ht102),hj.2,zdk he ht102,hk];rfl))
             ·
              refine qbe ?_
              exact Nx (j+1) (⟨by omega,hj.2.trans (firstC_step he (Classical.not_not.1 ht102))⟩) (by omega)
           ·
            refine CE ?_;refine CI ?_;refine CR ?_;refine A0 mP ?_;refine A0 (g_nc rfl rfl) ?_;refine A0 (oFp zc0) ?_;refine A0 (oLb zaV ty_3) ?_;refine A0 zbJ ?_;refine A0 (g_nc rfl rfl) ?_;refine A0 (oFp zc0) ?_;refine zh rfl rfl rfl rfl rfl zaV ty_3 rfl ?_;refine CN ?_;refine zS (n:=2) (y:=(⟨p,ids,((i+1:Nat):Int)⟩:CTrial)) rfl rfl ?_
            exact Nx (i+1) (⟨by omega,by omega,by rw [hinv.2.2];exact trials_go ht86 (hj.2.trans (by rw [List.drop_of_length_le (show three.length≤j by show 3≤j;omega)];rfl))⟩) (by omega)
          ·
           refine CE ?_;refine qay ?_
           exact za rfl rfl (zb rfl (by rw [hinv.2.2,show p.p.length-i=0 by omega];rfl))
theorem fewPr_ok (p:Proof):Tells P 13 [.val proofT p] (.val boolT (fewPr p)):=by
 refine zc Tryz.func13 rfl rfl rfl (fun ext w hext=>?_)
 refine qaf ?_;refine qb0 ?_;refine Lp (ι:=Nat) 1 (fun (k:Nat)=>((Fr.none).set 1 (.ptr 0 0)).set 3 (.val i64T (k:Int))) (fun (k:Nat)=>(Hp.none).set 0 (.box 25 proofT p)) (fun (k:Nat)=>k≤p.p.length∧(p.p.take k).all (fun x=>decide (x.l.length≤40))=true) (fun (k:Nat)=>p.p.length-k) (0) (⟨Nat.zero_le _,rfl⟩) ?_
 intro k hinv
 refine qbi ?_;refine A0 (oFp zaq) ?_;refine A0 (oLb zao zcd) ?_;refine ze (d:=6) rfl zl (fun hsl6=>?_)
 refine A0 (zK rfl rfl zbY) ?_;refine qaK ?_;refine Cf (p:=k<p.p.length) (fun ht8=>?_) (fun ht8=>?_)
 ·
  obtain ⟨x,hx⟩:∃x,p.p[k]?=some x:=⟨_,List.getElem?_eq_getElem ht8⟩
  refine CSQBQR ?_;refine A0 (oFp zaq) ?_;refine A0 (oLb zao zcd) ?_;refine qav ?_;refine A0 (zaK rfl rfl rfl zaP (by assumption)) ?_;refine A0 (oFr zbv zbA) ?_;refine A0 (zf rfl rfl zbc) ?_;refine A0 (by first|exact zK rfl rfl zaS|exact zak rfl rfl rfl zaS|exact zaw rfl rfl zaS) ?_;refine A0 zaG ?_;refine CN ?_;refine Cf (p:=40<x.l.length) (fun ht18=>?_) (fun ht18=>?_)
  ·
   refine qay ?_
   exact za rfl rfl (zb rfl ((by symm;unfold fewPr;rw [Bool.and_eq_false_iff];left;rw [List.all_eq_false];exact ⟨x,List.mem_of_getElem? hx,by simp;omega⟩)))
  ·
   refine qaw ?_
   exact Nx (k+1) (⟨by omega,by rw [List.take_add_one,hx,List.all_append,hinv.2];simp;omega⟩) (by omega)
 ·
  refine CE ?_;refine CQR ?_;refine qa3 ?_;refine A0 zcP ?_;refine qac ?_
  exact za rfl rfl (zb rfl ((by have h:=hinv.2;rw [List.take_of_length_le (by omega)] at h;unfold fewPr;rw [h,Bool.true_and,decide_eq_decide];simp only [IntL.toI,id_eq];omega)))
set_option maxRecDepth 20000
theorem fewC_no {l:List Block} {k:Nat} {x:Block} (hx:l[k]?=some x) (h:¬fewB x=true):fewC l=false:=by
  unfold fewC
  rw [Bool.and_eq_false_iff]
  left
  rw [List.all_eq_false]
  exact ⟨x,List.mem_of_getElem? hx,h⟩
theorem fewB_all {x:Block} (h:¬(x.t.all few&&decide ((x.t.length:Int)≤6))=true):¬fewB x=true:=fun h2=>by unfold fewB at h2;rw [Bool.and_eq_true] at h2;exact h h2.1
theorem fewB_links {x:Block} (h:40<x.l.length):¬fewB x=true:=fun h2=>by unfold fewB at h2;rw [Bool.and_eq_true,decide_eq_true_eq] at h2;omega
theorem fewB_yes {x:Block} (h:(x.t.all few&&decide ((x.t.length:Int)≤6))=true) (h2:¬40<x.l.length):fewB x=true:=by unfold fewB;rw [h,Bool.true_and];exact decide_eq_true (by omega)
theorem all_take_succ {α:Type} {p:α→Bool} {l:List α} {k:Nat} {x:α} (h:(l.take k).all p=true) (hx:l[k]?=some x) (hp:p x=true):(l.take (k+1)).all p=true:=by
  rw [List.take_add_one,hx,List.all_append,h];simp [hp]
theorem fewC_end {l:List Block} {k:Nat} (h:(l.take k).all fewB=true) (hk:l.length≤k):fewC l=decide ((l.length:Int)≤50):=by
  rw [List.take_of_length_le hk] at h
  unfold fewC;rw [h,Bool.true_and]
theorem easy_newOf:newOf 545259519=[easyB0]:=by unfold newOf;rw [if_pos easy_ok,easy_tip];rfl
theorem fewC_ok (l:List Block):Tells P 12 [.val (bsl blockT) l] (.val boolT (fewC l)):=by
 refine zc Tryz.func12 rfl rfl rfl (fun ext w hext=>?_)
 refine ze (d:=0) rfl zl (fun hsl0=>?_)
 refine CQR ?_;refine qb0 ?_;refine Lp (ι:=Nat) 0 (fun (k:Nat)=>((Fr.none).set 0 (.val (bsl blockT) l)).set 3 (.val i64T (k:Int))) (fun (k:Nat)=>Hp.none) (fun (k:Nat)=>k≤l.length∧(l.take k).all fewB=true) (fun (k:Nat)=>l.length-k) (0) (⟨Nat.zero_le _,by simp⟩) ?_
 intro k hinv
 refine CQQR ?_;refine qal ?_;refine A0 (zK rfl rfl zdf) ?_;refine qaK ?_;refine Cf (p:=k<l.length) (fun ht8=>?_) (fun ht8=>?_)
 ·
  obtain ⟨x,hx⟩:∃x,l[k]?=some x:=⟨_,List.getElem?_eq_getElem ht8⟩
  refine CSQBQR ?_;refine qal ?_;refine A0 (zo (i:=k) rfl rfl rfl (by omega) zda (by assumption)) ?_;refine A0 (oFr zb5 zcc) ?_;refine A0 (zf rfl rfl ty_56) ?_;refine A0 (oCl (fewAll_ok _ _) rfl fn_30 ⟨(by first|exact zy rfl|exact zW rfl|exact zF rfl rfl|exact zU rfl|exact zs rfl|exact zag rfl rfl|exact zV rfl),(zd rfl),trivial⟩) ?_;refine qae ?_;refine A0 oN ?_;refine qav ?_
  refine zI (d:=19) (p:=¬(x.t.all few&&decide ((x.t.length:Int)≤6))=true) rfl (by cases (x.t.all few&&decide ((x.t.length:Int)≤6))<;>rfl) (fun g19=>?_) (fun g19=>?_)
  ·
   refine qab ?_;refine qab ?_;refine A2 ?_;refine qas ?_;refine Ct ?_;refine qay ?_
   exact za rfl rfl (zb rfl (fewC_no hx (fewB_all g19)).symm)
  ·
   refine qaG ?_;refine A1 (zo (i:=k) rfl rfl rfl (by omega) zda (by assumption)) ?_;refine A1 (oFr zbH zbq) ?_;refine A1 (zf rfl rfl zbc) ?_;refine A1 (by first|exact zK rfl rfl zaS|exact zak rfl rfl rfl zaS|exact zaw rfl rfl zaS) ?_;refine A1 zaG ?_;refine qas ?_;refine Cf (p:=40<x.l.length) (fun ht27=>?_) (fun ht27=>?_)
   ·
    refine qay ?_
    exact za rfl rfl (zb rfl (fewC_no hx (fewB_links ht27)).symm)
   ·
    refine qaw ?_
    exact Nx (k+1) (⟨by omega,all_take_succ hinv.2 hx (fewB_yes (Classical.not_not.1 g19) ht27)⟩) (by omega)
 ·
  refine CE ?_;refine qa2 ?_;refine A0 (zK rfl rfl zdf) ?_;refine A0 zcP ?_;refine qac ?_
  exact za rfl rfl (zb rfl (by rw [fewC_end hinv.2 (by omega),decide_eq_decide];rfl))
set_option maxRecDepth 20000
def easyP:Proof:=⟨1,1,[⟨easyH,[]⟩,⟨easyB.h,[id0]⟩]⟩
theorem climb_easy (y:Int):∀i:Nat,i≤32→climbS [31,y] 1 1 i=(0,if i=0 then [] else [0])
  | 0,_=>rfl
  | i+1,h=>by
    have ih:=climb_easy y i (by omega)
    have hu:upOf [31,y] 0 ((([31,y]:List Int).length:Int)-1) (31-(i:Int))=[0]:=by
      show upR [31,y] (31-(i:Int)) 0 (0+1)=[0]
      rw [upR_yes (v:=[31,y]) (n:=31-(i:Int)) (x:=31) (a:=0) (i:=0) rfl (Nat.le_refl _) (by omega),upR_same];rfl
    have e1:(climbS [31,y] 1 1 i).1=0:=by rw [ih]
    have e2:(climbS [31,y] 1 1 i).2=if i=0 then [] else [0]:=by rw [ih]
    show (if _ then _ else _,_)=_
    have h0:(if i+1=0 then ([]:List Int) else [0])=[0]:=if_neg (by omega)
    rw [e1,e2,hu,h0,if_neg (by decide)]
    by_cases c:i=0<;>simp [c,setAdd]
theorem easy_lvs:levelsOf [easyB0,easyB]=[31,headLevel easyB.h]:=by
  show [headLevel easyH,headLevel easyB.h]=_
  rw [easy_level]
theorem easy_le1:decide (headLevel easyB.h≤31)=true:=by kernel_rfl
theorem easy_mayP:mayP [31,headLevel easyB.h] 1 1=true:=by
  have h1:=of_decide_eq_true easy_level1
  have h2:=of_decide_eq_true easy_le1
  unfold mayP mayV
  generalize headLevel easyB.h=y at h1 h2
  simp
  omega
theorem easy_prefix:prefixOf (levelsOf [easyB0,easyB]) 1 1=([0],true):=by
  unfold prefixOf
  rw [easy_lvs,if_pos easy_mayP,climb_easy _ 32 (Nat.le_refl _),if_neg (by decide)]
  simp [sortInts]
theorem easy_prE:prE [easyB0,easyB] 1 1=0:=by
  unfold prE
  rw [easy_chain1,if_neg (by decide),if_neg (by decide)]
theorem easy_pr:prOf [easyB0,easyB] 1 1=easyP:=by
  unfold prOf
  rw [if_pos easy_prE]
  unfold placesOf
  rw [easy_prefix]
  rfl
theorem easy_lkroot:linkRoot [id0]=easyB.h.links:=(root_one _).trans easy_lk
theorem easy_check:checkP easyP=0:=by
  have ei:idsP easyP=[id0,headId easyB.h]:=by show [headId easyH,headId easyB.h]=_;rw [easy_id]
  unfold checkP
  rw [if_neg (by decide),if_neg (by decide),if_neg (by
    rintro (h|h|h)
    · exact absurd (show tgtOk 545259519=true from easy_ok) (by rw [show tgtOk 545259519=false from h];decide)
    · exact absurd h (by decide)
    · exact h (show easyH=(firstTip 545259519).b.h by rw [easy_tip];rfl)),ei]
  show (if _ then _ else _)=_
  have hf:firstC three ⟨easyP,[id0,headId easyB.h],((1:Nat):Int)⟩=0:=by
    rw [firstC_three]
    have e1:prevC ⟨easyP,[id0,headId easyB.h],((1:Nat):Int)⟩=0:=prevC_no (y:=⟨easyB.h,[id0]⟩) (z:=⟨easyH,[]⟩) (d:=id0) rfl rfl rfl (by
      rintro (h|h|⟨_,h|h⟩)
      · exact absurd h (by decide)
      · exact h rfl
      · exact h rfl
      · exact h rfl)
    have e2:linkC ⟨easyP,[id0,headId easyB.h],((1:Nat):Int)⟩=0:=linkC_no (y:=⟨easyB.h,[id0]⟩) (c:=id0) (d:=id0) rfl rfl rfl (by
      rintro (h|h|h|h|h)
      · exact absurd h (by decide)
      · exact absurd h (by decide)
      · exact h rfl
      · rw [show leadsB [id0] easyB.h.prev id0=true by unfold leadsB;rw [decide_eq_true (show easyB.h.prev=id0 from rfl)];rfl] at h;cases h
      · exact h easy_lkroot)
    have e3:workC ⟨easyP,[id0,headId easyB.h],((1:Nat):Int)⟩=0:=by
      unfold workC workF
      rw [yOf_at (y:=⟨easyB.h,[id0]⟩) rfl,if_neg (fun h=>h easy_may1)]
    rw [if_neg (fun h=>h e1),if_neg (fun h=>h e2),e3]
  rw [if_pos hf];rfl
theorem zero_check:checkP zProof=1:=by unfold checkP;rw [if_pos (.inl (by decide))]
def yAt (p:Proof) (i:Nat):Part:=p.p.getD i zPartD
def stepOk (p:Proof) (i:Nat):Prop :=
  prevF (yAt p i) (yAt p (i-1)) ((p.p.length:Int)-p.k≤(i:Int)) (headId (yAt p (i-1)).h)=0∧linkF (yAt p i) (headId (yAt p 0).h) (headId (yAt p (i-1)).h)=0∧workF (yAt p i)=0
def beginOk (a:Part):Prop:=tgtOk a.h.bits=true∧a.l.length=0∧a.h=(firstTip a.h.bits).b.h
structure HoldsP (p:Proof):Prop where
  m1:1≤p.m
  m2:p.m≤20
  k1:1≤p.k
  k2:p.k≤20
  l1:p.k<p.p.length
  l2:p.p.length≤100
  fst:beginOk (yAt p 0)
  steps:∀i,1≤i→i<p.p.length→stepOk p i
theorem prevF_zero {y z:Part} {last:Prop} [Decidable last] {d:Ab.Id}:prevF y z last d=0↔z.h.height<y.h.height∧y.h.bits=z.h.bits∧(last→y.h.height=IntKind.i64.wrap (z.h.height+1)∧y.h.prev=d):=by
  unfold prevF
  constructor
  · intro h
    have hn:¬(y.h.height≤z.h.height∨¬y.h.bits=z.h.bits∨last∧(¬y.h.height=IntKind.i64.wrap (z.h.height+1)∨¬y.h.prev=d)):=fun c=>by rw [if_pos c] at h;cases h
    refine ⟨Int.not_le.1 fun c=>hn (.inl c),Classical.not_not.1 fun c=>hn (.inr (.inl c)),fun hl=>⟨Classical.not_not.1 fun c=>hn (.inr (.inr ⟨hl,.inl c⟩)),Classical.not_not.1 fun c=>hn (.inr (.inr ⟨hl,.inr c⟩))⟩⟩
  · rintro ⟨h1,h2,h3⟩
    rw [if_neg]
    rintro (c|c|⟨hl,c|c⟩)
    · omega
    · exact c h2
    · exact c (h3 hl).1
    · exact c (h3 hl).2
theorem linkF_zero {y:Part} {c d:Ab.Id}:linkF y c d=0↔1≤y.l.length∧y.l.length≤32∧y.l.getD 0 zId=c∧leadsB y.l y.h.prev d=true∧linkRoot y.l=y.h.links:=by
  unfold linkF
  constructor
  · intro h
    have hn:¬(y.l.length=0∨32<y.l.length∨¬y.l.getD 0 zId=c∨leadsB y.l y.h.prev d=false∨¬linkRoot y.l=y.h.links):=fun c=>by rw [if_pos c] at h;cases h
    refine ⟨Nat.one_le_iff_ne_zero.2 fun e=>hn (.inl e),Nat.not_lt.1 fun e=>hn (.inr (.inl e)),Classical.not_not.1 fun e=>hn (.inr (.inr (.inl e))),?_,Classical.not_not.1 fun e=>hn (.inr (.inr (.inr (.inr e))))⟩
    cases e:leadsB y.l y.h.prev d
    · exact absurd (.inr (.inr (.inr (.inl e)))) hn
    · rfl
  · rintro ⟨h1,h2,h3,h4,h5⟩
    rw [if_neg]
    rintro (e|e|e|e|e)
    · omega
    · omega
    · exact e h3
    · rw [h4] at e;cases e
    · exact e h5
theorem workF_zero {y:Part}:workF y=0↔headMay y.h=true:=by
  unfold workF
  by_cases h:headMay y.h=true
  · rw [if_neg (show ¬¬headMay y.h=true from fun c=>c h)];simp [h]
  · rw [if_pos (show ¬headMay y.h=true from h)];simp [h]
theorem trials_zero {p:Proof} {ids:List Ab.Id}:∀(n i:Nat),trialsE p ids n i=0↔∀j,i≤j→j<i+n→firstC three ⟨p,ids,j⟩=0
  | 0,i=>by simp [trialsE];intro j h1 h2;omega
  | n+1,i=>by
    show (if firstC three ⟨p,ids,i⟩=0 then trialsE p ids n (i+1) else firstC three ⟨p,ids,i⟩)=0↔_
    by_cases c:firstC three ⟨p,ids,i⟩=0
    · rw [if_pos c,trials_zero n (i+1)]
      constructor
      · intro h j h1 h2
        by_cases e:j=i
        · rw [e];exact c
        · exact h j (by omega) (by omega)
      · intro h j h1 h2;exact h j (by omega) (by omega)
    · rw [if_neg c]
      exact ⟨fun h=>absurd h c,fun h=>h i (Nat.le_refl _) (by omega)⟩
theorem ids_at (p:Proof) {i:Nat} (h:i<p.p.length):(idsP p)[i]?=some (headId (yAt p i).h):=by
  unfold idsP yAt
  rw [List.getElem?_map,List.getElem?_eq_getElem h]
  simp [h]
theorem at_ (p:Proof) {i:Nat} (h:i<p.p.length):p.p[i]?=some (yAt p i):=by unfold yAt;rw [List.getElem?_eq_getElem h];simp [h]
theorem first_zero (p:Proof) {i:Nat} (h1:1≤i) (h:i<p.p.length):firstC three ⟨p,idsP p,(i:Int)⟩=0↔stepOk p i:=by
  rw [firstC_three]
  have e1:prevC ⟨p,idsP p,(i:Int)⟩=prevF (yAt p i) (yAt p (i-1)) ((p.p.length:Int)-p.k≤(i:Int)) (headId (yAt p (i-1)).h):=by
    unfold prevC
    rw [yOf_at (y:=yAt p i) (at_ p h),zOf_at (y:=yAt p (i-1)) (at_ p (i:=i-1) (by omega)),dOf_at (ids_at p (i:=i-1) (by omega))]
  have e2:linkC ⟨p,idsP p,(i:Int)⟩=linkF (yAt p i) (headId (yAt p 0).h) (headId (yAt p (i-1)).h):=by
    unfold linkC
    rw [yOf_at (y:=yAt p i) (at_ p h),cOf_at (ids_at p (i:=0) (by omega)),dOf_at (ids_at p (i:=i-1) (by omega))]
  have e3:workC ⟨p,idsP p,(i:Int)⟩=workF (yAt p i):=by
    unfold workC
    rw [yOf_at (y:=yAt p i) (at_ p h)]
  rw [e1,e2,e3]
  unfold stepOk
  generalize prevF (yAt p i) (yAt p (i-1)) ((p.p.length:Int)-p.k≤(i:Int)) (headId (yAt p (i-1)).h)=a
  generalize linkF (yAt p i) (headId (yAt p 0).h) (headId (yAt p (i-1)).h)=b
  by_cases ha:a=0
  · by_cases hb:b=0
    · simp [ha,hb]
    · simp [ha,hb]
  · simp [ha]
theorem checkP_holds {p:Proof}:checkP p=0↔HoldsP p:=by
  have ey:p.p.getD 0 zPartD=yAt p 0:=rfl
  unfold checkP
  rw [ey]
  constructor
  · intro h
    by_cases c1:p.m<1∨20<p.m∨p.k<1∨20<p.k
    · rw [if_pos c1] at h;cases h
    rw [if_neg c1] at h
    by_cases c2:100<p.p.length∨(p.p.length:Int)≤p.k
    · rw [if_pos c2] at h;cases h
    rw [if_neg c2] at h
    by_cases c3:tgtOk (yAt p 0).h.bits=false∨0<(yAt p 0).l.length∨¬(yAt p 0).h=(firstTip (yAt p 0).h.bits).b.h
    · rw [if_pos c3] at h;cases h
    rw [if_neg c3,trials_zero] at h
    refine ⟨by omega,by omega,by omega,by omega,by omega,by omega,⟨?_,by omega,Classical.not_not.1 fun e=>c3 (.inr (.inr e))⟩,fun i h1 h2=>(first_zero p h1 h2).1 (h i h1 (by omega))⟩
    cases e:tgtOk (yAt p 0).h.bits
    · exact absurd (.inl e) c3
    · rfl
  · intro h
    have:=h.m1;have:=h.m2;have:=h.k1;have:=h.k2;have:=h.l1;have:=h.l2
    rw [if_neg (by omega),if_neg (by omega),if_neg (by
      rintro (e|e|e)
      · rw [h.fst.1] at e;cases e
      · have:=h.fst.2.1;omega
      · exact e h.fst.2.2),trials_zero]
    exact fun i h1 h2=>(first_zero p h1 (by omega)).2 (h.steps i h1 (by omega))
theorem HoldsP.step {p : Proof} (h : HoldsP p) {i : Nat} (h1 : 1 ≤ i) (h2 : i < p.p.length) :
    (yAt p (i-1)).h.height<(yAt p i).h.height∧(yAt p i).h.bits=(yAt p (i-1)).h.bits∧((p.p.length:Int)-p.k≤(i:Int)→(yAt p i).h.height=IntKind.i64.wrap ((yAt p (i-1)).h.height+1)∧(yAt p i).h.prev=headId (yAt p (i-1)).h):=prevF_zero.1 (h.steps i h1 h2).1
theorem first_height (bits:UInt32):(firstTip bits).b.h.height=0:=by
  unfold firstTip
  split<;>rfl
theorem HoldsP.zero {p:Proof} (h:HoldsP p):(yAt p 0).h.height=0:=by rw [h.fst.2.2];exact first_height _
theorem HoldsP.rise {p:Proof} (h:HoldsP p):∀i,i<p.p.length→0≤(yAt p i).h.height
  | 0,_=>by rw [h.zero];exact Int.le_refl _
  | i+1,hi=>by
    have:=h.rise i (by omega)
    have:=(h.step (i:=i+1) (by omega) hi).1
    rw [Nat.add_sub_cancel] at this
    omega
theorem HoldsP.bits {p:Proof} (h:HoldsP p):∀i,i<p.p.length→(yAt p i).h.bits=(yAt p 0).h.bits
  | 0,_=>rfl
  | i+1,hi=>by
    have:=(h.step (i:=i+1) (by omega) hi).2.1
    rw [Nat.add_sub_cancel] at this
    rw [this];exact h.bits i (by omega)
theorem two_ok:Tells P 29 [] (.val (sl blockT) [easyB0,easyB]):=by
 refine zc Tryz.func29 rfl rfl rfl (fun ext w hext=>?_)
 refine qbc ?_;refine A0 (oCl (newC_ok 545259519) rfl fn_71 ⟨(zd rfl),trivial⟩) ?_;refine A0 mX ?_;refine A0 (by first|exact zO rfl rfl|exact zM rfl rfl) ?_;refine zi (d:=7) (y:=[easyB0]) rfl easy_newOf ?_;refine A0 (by first|exact zR rfl rfl|exact zQ rfl rfl) ?_;refine qbz ?_;refine A0 (oCl (zce (growC_ok [easyB0] [] 0 small_easyC0 ⟨by decide,fun t ht=>by cases ht⟩)) rfl fn_72 ⟨(zd rfl),(by first|exact zy rfl|exact zW rfl|exact zF rfl rfl|exact zU rfl|exact zs rfl|exact zag rfl rfl|exact zV rfl),(zd rfl),trivial⟩) ?_
 refine A0 mX ?_;refine A0 (by first|exact zO rfl rfl|exact zM rfl rfl) ?_;refine zi (d:=12) (y:=[easyB0,easyB]) rfl easy_grown ?_;refine A0 (by first|exact zR rfl rfl|exact zQ rfl rfl) ?_;refine qbz ?_;refine qac ?_
 exact za rfl rfl (zb rfl (rfl))
set_option maxRecDepth 20000
theorem mayH_ok {h:Head} (hm:headMay h=true):hOk h=true:=by
  unfold headMay headLevel at hm
  by_cases c:tgtOk h.bits=true∧hOk h=true
  · exact c.2
  · rw [if_neg c] at hm;exact absurd hm (by decide)
theorem zew {l:List Block} {t:Tip} {k:Nat} {c:Block} (h:Chain l t) (hc:l[k]?=some c):c.h.height=k∧hOk c.h=true∧(k=0→c.l=[])∧(1≤k→c.h.links=linkRoot c.l):=by
  obtain ⟨hk,_⟩:=List.getElem?_eq_some_iff.1 hc
  by_cases k0:k=0
  · subst k0
    obtain ⟨t',h1,_⟩:=chain_take h (i:=1) (Nat.le_refl _) (by omega)
    have e:l.take 1=[c]:=by rw [show (1:Nat)=0+1 from rfl,List.take_add_one,hc];rfl
    rw [e] at h1
    obtain ⟨_,hb,_⟩:=chain_one h1
    rw [hb]
    exact ⟨rfl,rfl,fun _=>rfl,fun c=>by omega⟩
  · obtain ⟨g,hg⟩:∃g,l[0]?=some g:=⟨_,List.getElem?_eq_getElem (by omega)⟩
    obtain ⟨a,ha⟩:∃a,l[k-1]?=some a:=⟨_,List.getElem?_eq_getElem (by omega)⟩
    obtain ⟨s1,_,_,_,_,_,s7,s8⟩:=zdF h (by omega) hc ha hg
    exact ⟨s1,mayH_ok s8,fun c=>absurd c k0,fun _=>s7⟩
set_option maxRecDepth 20000
theorem byte_nat (n:UInt64) {k:Nat} (hk:k≤64):(u8OfI (IntL.toI u64T (shr64 n k))).toNat=n.toNat/2^k%256:=by
  unfold u8OfI
  show (UInt8.ofNat ((((shr64 n k).toNat:Nat):Int)%256).toNat).toNat=_
  rw [zel n hk,UInt8.toNat_ofNat_of_lt' (by show _<256;omega)]
  omega
theorem numBytes_succ (n:UInt64) (s:Nat):numBytes n (s+1)=u8OfI (IntL.toI u64T (shr64 n (8*s)))::numBytes n s:=by
  unfold numBytes
  rw [List.range_succ_eq_map,List.map_cons,List.map_map]
  have e1:s+1-1-0=s:=by omega
  rw [e1]
  congr 1
  apply List.map_congr_left
  intro j _
  show u8OfI (IntL.toI u64T (shr64 n (8*(s+1-1-(j+1)))))=_
  rw [show s+1-1-(j+1)=s-1-j by omega]
theorem numBytes_inj {n m:UInt64}:∀s:Nat,s≤8→numBytes n s=numBytes m s→n.toNat%2^(8*s)=m.toNat%2^(8*s)
  | 0,_,_=>by simp [Nat.mod_one]
  | s+1,hs,h=>by
    rw [numBytes_succ,numBytes_succ] at h
    injection h with h1 h2
    have ih:=numBytes_inj s (by omega) h2
    have h1:=congrArg UInt8.toNat h1
    rw [byte_nat n (by omega),byte_nat m (by omega)] at h1
    rw [Nat.mul_add,Nat.pow_add,Nat.mod_mul,Nat.mod_mul (x:=m.toNat),ih,show 2^(8*1)=256 from rfl,h1]
theorem zeH {n m:UInt64} (h:numBytes n 8=numBytes m 8):n=m:=by
  have h1:=numBytes_inj 8 (Nat.le_refl _) h
  have hn:n.toNat<18446744073709551616:=n.toNat_lt
  have hm:m.toNat<18446744073709551616:=m.toNat_lt
  rw [show (2:Nat)^(8*8)=18446744073709551616 from rfl,Nat.mod_eq_of_lt hn,Nat.mod_eq_of_lt hm] at h1
  exact UInt64.toNat_inj.1 h1
theorem bytesW_four (a b c d:UInt64):bytesW [a,b,c,d]=numBytes d 8++(numBytes c 8++(numBytes b 8++numBytes a 8)):=by rfl
theorem bytesW_inj {a b:Wide} (ha:a.length=4) (hb:b.length=4) (h:bytesW a=bytesW b):a=b:=by
  match a,ha with
  | [a0,a1,a2,a3],_=>match b,hb with
    | [b0,b1,b2,b3],_ =>
      rw [bytesW_four,bytesW_four] at h
      obtain ⟨h3,h⟩:=List.append_inj h (by rw [zN,zN])
      obtain ⟨h2,h⟩:=List.append_inj h (by rw [zN,zN])
      obtain ⟨h1,h0⟩:=List.append_inj h (by rw [zN,zN])
      rw [zeH h0,zeH h1,zeH h2,zeH h3]
def HW (h:Head):Prop:=h.prev.length=32∧h.links.length=32∧h.txs.length=32∧h.past.length=32∧h.work.length=4
theorem zdg {n:Int} (h0:0≤n) (h1:n<4294967296):(u64OfI n).toNat=n.toNat:=by
  unfold u64OfI
  rw [UInt64.toNat_ofNat_of_lt' (by show _<18446744073709551616;omega)]
  omega
theorem hOk_iff {h:Head}:hOk h=true↔0≤h.height∧h.height≤1048576:=by unfold hOk;rw [decide_eq_true_eq]
set_option maxRecDepth 20000
theorem level_range (h:Head):-1≤headLevel h∧headLevel h≤31:=by
  unfold headLevel
  split
  · split
    · exact ⟨by omega,by omega⟩
    · have:=search_le (f:=levelF (of32W (headId h)) (tgtW h.bits)) 0 32 (by decide)
      unfold levelW
      exact ⟨by omega,by omega⟩
  · exact ⟨by omega,by omega⟩
theorem mayH_level {h:Head} (hm:headMay h=true):0≤headLevel h:=by
  have:=(level_range h).1
  unfold headMay at hm
  rw [Bool.not_eq_true',decide_eq_false_iff_not] at hm
  omega
theorem lvl_at {l:List Block} {k:Nat} {b:Block} (hb:l[k]?=some b):(levelsOf l)[k]?=some (headLevel b.h):=by unfold levelsOf;rw [List.getElem?_map,hb];rfl
theorem chain_level {l:List Block} {t:Tip} {k:Nat} {b:Block} (h:Chain l t) (hb:l[k]?=some b):0≤headLevel b.h∧(k=0→headLevel b.h=31):=by
  obtain ⟨hk,_⟩:=List.getElem?_eq_some_iff.1 hb
  by_cases k0:k=0
  · subst k0
    obtain ⟨t',h1,_⟩:=chain_take h (i:=1) (Nat.le_refl _) (by omega)
    have e:l.take 1=[b]:=by rw [show (1:Nat)=0+1 from rfl,List.take_add_one,hb];rfl
    rw [e] at h1
    obtain ⟨ht,hb,_⟩:=chain_one h1
    have e2:headLevel b.h=31:=by
      rw [hb]
      unfold headLevel
      rw [if_pos ⟨ht,rfl⟩];rfl
    exact ⟨by omega,fun _=>e2⟩
  · obtain ⟨g,hg⟩:∃g,l[0]?=some g:=⟨_,List.getElem?_eq_getElem (by omega)⟩
    obtain ⟨a,ha⟩:∃a,l[k-1]?=some a:=⟨_,List.getElem?_eq_getElem (by omega)⟩
    exact ⟨mayH_level (zdF h (by omega) hb ha hg).2.2.2.2.2.2.2,fun c=>absurd c k0⟩
theorem chain_mayV {l:List Block} {t:Tip} (h:Chain l t):mayV (levelsOf l)=true:=by
  have hlen:=(chain_tip h).2.2.1
  have hpos:0<l.length:=List.length_pos_iff.2 (chain_ne (congrArg (·.2) h))
  obtain ⟨g,hg⟩:∃g,l[0]?=some g:=⟨_,List.getElem?_eq_getElem hpos⟩
  have hl:(levelsOf l).length=l.length:=zaM l
  unfold mayV
  rw [Bool.and_eq_true,decide_eq_true_eq,Bool.not_eq_true',List.any_eq_false]
  refine ⟨⟨by omega,by omega,?_⟩,fun n hn=>?_⟩
  · rw [lvl_at hg,(chain_level h hg).2 rfl]
  · unfold levelsOf at hn
    obtain ⟨b,hb,rfl⟩:=List.mem_map.1 hn
    obtain ⟨k,hk⟩:=List.getElem?_of_mem hb
    have h1:=(chain_level h hk).1
    have h2:=(level_range b.h).2
    rw [decide_eq_true_eq];omega
theorem climb_low {v:List Int} {m k:Int} (h:mayP v m k=true):∀i:Nat,i≤32→∀n,n≤i→(climbS v m k n).1≤(climbS v m k i).1
  | 0,_,n,hn=>by rw [show n=0 by omega];exact Int.le_refl _
  | i+1,hi,n,hn=>by
    by_cases e:n=i+1
    · rw [e];exact Int.le_refl _
    · refine Int.le_trans (climb_low h i (by omega) n (by omega)) ?_
      obtain ⟨L,hL⟩:∃L,L=upOf v (climbS v m k i).1 ((v.length:Int)-k) (31-(i:Int)):=⟨_,rfl⟩
      have hl:=zci h
      by_cases c:m<L.length
      · obtain ⟨z,hz⟩:∃z,L[L.length-m.toNat]?=some z:=⟨_,List.getElem?_eq_getElem (by omega)⟩
        rw [←zbV hL hz c]
        have hm:=List.mem_of_getElem? hz
        rw [hL] at hm
        obtain ⟨j,rfl,h4,_⟩:=zdw.1 hm
        exact h4
      · rw [←zbN hL c];exact Int.le_refl _
theorem climb_grow {v:List Int} {m k:Int}:∀i:Nat,∀n,n≤i→∀x∈(climbS v m k n).2,x∈(climbS v m k i).2
  | 0,n,hn,x,hx=>by rw [show n=0 by omega] at hx;exact hx
  | i+1,n,hn,x,hx=>by
    by_cases e:n=i+1
    · rw [e] at hx;exact hx
    · have:=climb_grow i n (by omega) x hx
      show x∈List.foldl setAdd _ _
      rw [zcC];exact .inl this
theorem climb_zero {v:List Int} {m k:Int} (h:mayP v m k=true):(0:Int)∈(climbS v m k 32).2:=by
  refine climb_grow 32 1 (by omega) 0 ?_
  show (0:Int)∈List.foldl setAdd _ _
  rw [zcC]
  refine .inr (zdw.2 ⟨0,rfl,Int.le_refl _,?_,?_,?_⟩)
  · have:=zci h;omega
  · have:=zci h;omega
  · have h0:=(mayV_spec (zcV h).1).2.2.1
    simp [h0]
theorem upR_rising (v:List Int) (n:Int) (a i:Nat):(upR v n a i).Pairwise (· < ·):=by
  unfold upR
  rw [List.pairwise_map]
  refine List.Pairwise.imp (R:=fun a b:Nat=>a<b) (fun h=>by omega) ?_
  exact (List.pairwise_lt_range' ..).sublist List.filter_sublist
theorem up_rising (v:List Int) (a b n:Int):(upOf v a b n).Pairwise (· < ·):=upR_rising ..
theorem sort_strict {l:List Int} (h:l.Nodup):(sortInts l).Pairwise (· < ·):=by
  have h1:=zft l
  have h2:(sortInts l).Nodup:=(List.mergeSort_perm l _).symm.nodup h
  exact (h1.and h2).imp fun h=>by have:=h.1;have:=h.2;omega
theorem prefix_strict (v:List Int) (m k:Int):(prefixOf v m k).1.Pairwise (· < ·):=by
  unfold prefixOf
  split
  · rename_i c;exact sort_strict (climb_ok c 32 (Nat.le_refl _)).2.1
  · exact List.Pairwise.nil
theorem prefix_zero {v:List Int} {m k:Int} (h:mayP v m k=true):(0:Int)∈(prefixOf v m k).1:=by
  unfold prefixOf
  rw [if_pos h]
  exact zfu.2 (climb_zero h)
theorem zaR {L M:List Int} (hL:L.Pairwise (· < ·)) (hM:M.Pairwise (· < ·)) (hsub:∀x∈M,x∈L):M.length≤L.length:=by
  induction L generalizing M with
  | nil =>
    match M with
    | []=>exact Nat.le_refl _
    | x::_=>exact absurd (hsub x (List.mem_cons_self ..)) (by simp)
  | cons a L ih =>
    rw [List.pairwise_cons] at hL
    have hf:(M.filter fun x=>decide (x≠a)).length≤L.length:=ih hL.2 (hM.sublist List.filter_sublist) (fun x hx=>by
      rw [List.mem_filter] at hx
      have h1:=hsub x hx.1
      have h2:=of_decide_eq_true hx.2
      exact (List.mem_cons.1 h1).resolve_left h2)
    have h1:(M.filter fun x=>!decide (x≠a)).length≤1:=by
      have hs:=hM.sublist (List.filter_sublist (p:=fun x=>!decide (x≠a)))
      match he:M.filter (fun x=>!decide (x≠a)) with
      | []=>simp
      | [_]=>simp
      | b::c::r =>
        rw [he,List.pairwise_cons] at hs
        have hb:b∈M.filter (fun x=>!decide (x≠a)):=by rw [he];simp
        have hc:c∈M.filter (fun x=>!decide (x≠a)):=by rw [he];simp
        simp only [List.mem_filter,Bool.not_eq_true',decide_eq_false_iff_not,Decidable.not_not] at hb hc
        have:=hs.1 c (by simp)
        omega
    have:=filter_two (fun x=>decide (x≠a)) M
    rw [List.length_cons];omega
theorem zbg {L:List Int} (hL:L.Pairwise (· < ·)) {i j:Nat} {x y:Int} (hi:L[i]?=some x) (hj:L[j]?=some y):x<y↔i<j:=by
  obtain ⟨h1,e1⟩:=List.getElem?_eq_some_iff.1 hi
  obtain ⟨h2,e2⟩:=List.getElem?_eq_some_iff.1 hj
  have hp:=List.pairwise_iff_getElem.1 hL
  constructor
  · intro h
    rcases Nat.lt_trichotomy i j with c|c|c
    · exact c
    · subst c;omega
    · have:=hp j i h2 h1 c;omega
  · intro h
    have:=hp i j h1 h2 h;omega
theorem climb_anti {v:List Int} {m n k:Int} (hm:mayP v m k=true) (hmn:m<n):∀i:Nat,i≤32→(climbS v n k i).1≤(climbS v m k i).1
  | 0,_=>Int.le_refl _
  | i+1,hi=>by
    have hn:mayP v n k=true:=by
      have h:=zcV hm
      unfold mayP
      rw [h.1,decide_eq_true (by omega)];rfl
    have ih:=climb_anti hm hmn i (by omega)
    have hl:=zci hm
    obtain ⟨L,hL⟩:∃L,L=upOf v (climbS v m k i).1 ((v.length:Int)-k) (31-(i:Int)):=⟨_,rfl⟩
    obtain ⟨M,hM⟩:∃M,M=upOf v (climbS v n k i).1 ((v.length:Int)-k) (31-(i:Int)):=⟨_,rfl⟩
    have hsub:∀x∈L,x∈M:=fun x hx=>by
      rw [hL] at hx
      obtain ⟨j,rfl,h1,h2,h3,h4⟩:=zdw.1 hx
      rw [hM];exact zdw.2 ⟨j,rfl,by omega,h2,h3,h4⟩
    have hLr:L.Pairwise (· < ·):=by rw [hL];exact up_rising ..
    have hMr:M.Pairwise (· < ·):=by rw [hM];exact up_rising ..
    have hle:=zaR hMr hLr hsub
    by_cases c:n<M.length
    · obtain ⟨z,hz⟩:∃z,M[M.length-n.toNat]?=some z:=⟨_,List.getElem?_eq_getElem (by omega)⟩
      rw [←zbV hM hz c]
      by_cases d:m<L.length
      · obtain ⟨y,hy⟩:∃y,L[L.length-m.toNat]?=some y:=⟨_,List.getElem?_eq_getElem (by omega)⟩
        rw [←zbV hL hy d]
        refine Int.not_lt.1 fun hlt=>?_
        have hyl:=List.mem_of_getElem? hy
        have hall:∀x∈M.drop (M.length-n.toNat),x∈L.drop (L.length-m.toNat+1):=fun x hx=>by
          obtain ⟨q,hq⟩:=List.getElem?_of_mem hx
          rw [List.getElem?_drop] at hq
          have hzx:z≤x:=by
            by_cases q0:q=0
            · subst q0;rw [Nat.add_zero,hz] at hq;injection hq with hq;omega
            · exact Int.le_of_lt ((zbg hMr hz hq).2 (by omega))
          have hxM:=List.mem_of_getElem? hq
          rw [hM] at hxM
          obtain ⟨j,rfl,h1,h2,h3,h4⟩:=zdw.1 hxM
          have hyl2:=hyl
          rw [hL] at hyl2
          obtain ⟨j2,h0,h5,_⟩:=zdw.1 hyl2
          have hxL:(j:Int)∈L:=by rw [hL];exact zdw.2 ⟨j,rfl,by omega,h2,h3,h4⟩
          obtain ⟨r,hr⟩:=List.getElem?_of_mem hxL
          have h6:=(zbg hLr hy hr).1 (by omega)
          exact List.mem_of_getElem? (i:=r-(L.length-m.toNat+1)) (by rw [List.getElem?_drop,show L.length-m.toNat+1+(r-(L.length-m.toNat+1))=r by omega];exact hr)
        have:=zaR (hLr.sublist (List.drop_sublist (L.length-m.toNat+1) L)) (hMr.sublist (List.drop_sublist (M.length-n.toNat) M)) hall
        rw [List.length_drop,List.length_drop] at this
        omega
      · rw [←zbN hL d]
        refine Int.not_lt.1 fun hlt=>?_
        have hall:∀x∈M.drop (M.length-n.toNat),x∈L:=fun x hx=>by
          obtain ⟨q,hq⟩:=List.getElem?_of_mem hx
          rw [List.getElem?_drop] at hq
          have hzx:z≤x:=by
            by_cases q0:q=0
            · subst q0;rw [Nat.add_zero,hz] at hq;injection hq with hq;omega
            · exact Int.le_of_lt ((zbg hMr hz hq).2 (by omega))
          have hxM:=List.mem_of_getElem? hq
          rw [hM] at hxM
          obtain ⟨j,rfl,h1,h2,h3,h4⟩:=zdw.1 hxM
          rw [hL];exact zdw.2 ⟨j,rfl,by omega,h2,h3,h4⟩
        have:=zaR hLr (hMr.sublist (List.drop_sublist (M.length-n.toNat) M)) hall
        rw [List.length_drop] at this
        omega
    · rw [←zbN hM c]
      exact Int.le_trans ih (climb_low hm (i+1) hi i (by omega))
theorem climb_more {v:List Int} {m n k:Int} (hm:mayP v m k=true) (hmn:m≤n):∀i:Nat,i≤32→∀x∈(climbS v m k i).2,x∈(climbS v n k i).2
  | 0,_,x,hx=>by cases hx
  | i+1,hi,x,hx=>by
    by_cases e:m=n
    · rw [←e];exact hx
    · have hx:x∈(upOf v (climbS v m k i).1 ((v.length:Int)-k) (31-(i:Int))).foldl setAdd (climbS v m k i).2:=hx
      show x∈List.foldl setAdd _ _
      rw [zcC] at hx ⊢
      refine hx.imp (climb_more hm hmn i (by omega) x) fun h=>?_
      obtain ⟨j,rfl,h1,h2,h3,h4⟩:=zdw.1 h
      have:=climb_anti hm (by omega:m<n) i (by omega)
      exact zdw.2 ⟨j,rfl,by omega,h2,h3,h4⟩
theorem mayP_more {v:List Int} {m n k:Int} (h:mayP v m k=true) (hmn:m≤n):mayP v n k=true:=by
  have h:=zcV h
  unfold mayP
  rw [h.1,decide_eq_true (by omega)];rfl
theorem prefix_more {v:List Int} {m n k:Int} (h:mayP v m k=true) (hmn:m≤n):∀x∈(prefixOf v m k).1,x∈(prefixOf v n k).1:=fun x hx=>by
  unfold prefixOf at hx ⊢
  rw [if_pos h] at hx
  rw [if_pos (mayP_more h hmn)]
  exact zfu.2 (climb_more h hmn 32 (Nat.le_refl _) x (zfu.1 hx))
theorem climb_still {v:List Int} {m k:Int} (h:mayP v m k=true) (hm:(v.length:Int)-k≤m):∀i:Nat,i≤32→(climbS v m k i).1=0
  | 0,_=>rfl
  | i+1,hi=>by
    have ih:=climb_still h hm i (by omega)
    obtain ⟨L,hL⟩:∃L,L=upOf v (climbS v m k i).1 ((v.length:Int)-k) (31-(i:Int)):=⟨_,rfl⟩
    have hl:=zci h
    have h1:L.length≤((v.length:Int)-k).toNat:=by
      rw [hL]
      unfold upOf
      exact Nat.le_trans (upR_length ..) (by omega)
    rw [←zbN hL (by omega)];exact ih
theorem prefix_all {v:List Int} {m k:Int} (h:mayP v m k=true) (hm:(v.length:Int)-k≤m) {j:Nat} (hj:(j:Int)<(v.length:Int)-k):(j:Int)∈(prefixOf v m k).1:=by
  unfold prefixOf
  rw [if_pos h]
  refine zfu.2 ?_
  show (j:Int)∈List.foldl setAdd _ _
  rw [zcC]
  refine .inr (zdw.2 ⟨j,rfl,?_,hj,?_,?_⟩)
  · rw [climb_still h hm 31 (by omega)];omega
  · have:=zci h;omega
  · have hl:=zci h
    have hjl:j<v.length:=by omega
    have:=((mayV_spec (zcV h).1).2.2.2 _ (List.getElem_mem hjl)).1
    rw [List.getD_eq_getElem?_getD,List.getElem?_eq_getElem hjl]
    simpa using this
structure BuildOk (l:List Block) (m k:Int):Prop where
  c:(checkOf l).2=0
  m1:1≤m
  m2:m≤20
  k1:1≤k
  k2:k≤20
  kl:k<l.length
theorem zbp {l:List Block} {m k:Int} (h:prE l m k=0):BuildOk l m k:=by
  unfold prE at h
  by_cases hc:(checkOf l).2=0
  · rw [if_neg (fun q=>q hc)] at h
    by_cases q:m<1∨20<m∨k<1∨20<k∨(l.length:Int)≤k
    · rw [if_pos q] at h;cases h
    · exact ⟨hc,by omega,by omega,by omega,by omega,by omega⟩
  · rw [if_pos hc] at h;exact absurd h hc
section
variable {l:List Block} {m k:Int}
theorem zff (h:BuildOk l m k):mayP (levelsOf l) m k=true:=by
  have h1:=h.m1;have h2:=h.k1;have h3:=h.kl
  unfold mayP
  rw [chain_mayV (zd8 h.c),decide_eq_true (by rw [zaM];omega)];rfl
theorem build_is {l:List Block} {m k:Int} (h:prE l m k=0):prOf l m k=⟨m,k,(placesOf l m k).map (prPart l)⟩:=by unfold prOf;rw [if_pos h]
theorem lastk_rising (l:List Block) (k:Int):((List.range k.toNat).map fun j:Nat=>(l.length:Int)-k+(j:Int)).Pairwise (· < ·):=by
  rw [List.pairwise_map]
  exact (List.pairwise_lt_range ..).imp fun h=>by omega
theorem zax (h:BuildOk l m k):(placesOf l m k).Pairwise (· < ·):=by
  have hl:=zaM l
  unfold placesOf
  rw [List.pairwise_append]
  refine ⟨prefix_strict ..,lastk_rising ..,fun a ha b hb=>?_⟩
  have h1:=(prefix_mem ha).2
  obtain ⟨j,_,rfl⟩:=List.mem_map.1 hb
  rw [hl] at h1
  omega
theorem places_at (h : BuildOk l m k) {i : Nat} {x : Int} (hx : (placesOf l m k)[i]? = some x) :
    (0≤x∧x<l.length)∧((i<(prefixOf (levelsOf l) m k).1.length∧(prefixOf (levelsOf l) m k).1[i]?=some x)∨((prefixOf (levelsOf l) m k).1.length≤i∧(l.length:Int)-k≤x)):=by
  refine ⟨zbE ⟨h.k1,h.kl⟩ (List.mem_of_getElem? hx),?_⟩
  unfold placesOf at hx
  by_cases c:i<(prefixOf (levelsOf l) m k).1.length
  · rw [List.getElem?_append_left c] at hx
    exact .inl ⟨c,hx⟩
  · rw [List.getElem?_append_right (by omega)] at hx
    obtain ⟨j,_,rfl⟩:=List.mem_map.1 (List.mem_of_getElem? hx)
    exact .inr ⟨by omega,by omega⟩
theorem places_len (h:BuildOk l m k):(placesOf l m k).length=(prefixOf (levelsOf l) m k).1.length+k.toNat:=by unfold placesOf;simp
theorem places_first (h:BuildOk l m k):(placesOf l m k)[0]?=some 0:=by
  have h0:=prefix_zero (zff h)
  have hs:=prefix_strict (levelsOf l) m k
  unfold placesOf
  match hp:(prefixOf (levelsOf l) m k).1 with
  | []=>rw [hp] at h0;cases h0
  | a::r =>
    rw [hp] at h0 hs
    have ha:=(prefix_mem (v:=levelsOf l) (m:=m) (k:=k) (x:=a) (by rw [hp];exact List.mem_cons_self ..)).1
    rcases List.mem_cons.1 h0 with e|e
    · rw [←e];rfl
    · have:=(List.pairwise_cons.1 hs).1 0 e
      omega
theorem places_last (h:BuildOk l m k):(placesOf l m k)[(placesOf l m k).length-1]?=some ((l.length:Int)-1):=by
  have h1:=h.k1
  rw [places_len h]
  unfold placesOf
  rw [List.getElem?_append_right (by omega),List.getElem?_map,List.getElem?_range (by omega)]
  simp only [Option.map_some,Option.some.injEq]
  omega
theorem part_at (h : BuildOk l m k) {i : Nat} {x : Int} (hx : (placesOf l m k)[i]? = some x) :
    ∃b:Block,l[x.toNat]?=some b∧b.h.height=x∧((placesOf l m k).map (prPart l))[i]?=some ⟨b.h,b.l⟩:=by
  have hr:=(places_at h hx).1
  obtain ⟨b,hb⟩:∃b,l[x.toNat]?=some b:=⟨_,List.getElem?_eq_getElem (by omega)⟩
  refine ⟨b,hb,?_,?_⟩
  · have:=(zew (zd8 h.c) hb).1
    omega
  · rw [List.getElem?_map,hx]
    have e:l.getD x.toNat default=b:=by rw [List.getD_eq_getElem?_getD,hb];rfl
    show some (prPart l x)=_
    unfold prPart
    rw [e]
theorem parts_more (h:BuildOk l m k) {n:Int} (hmn:m≤n) {x:Part} (hx:x∈(placesOf l m k).map (prPart l)):x∈(placesOf l n k).map (prPart l):=by
  obtain ⟨p,hp,rfl⟩:=List.mem_map.1 hx
  refine List.mem_map.2 ⟨p,?_,rfl⟩
  unfold placesOf at hp ⊢
  rcases List.mem_append.1 hp with c|c
  · exact List.mem_append.2 (.inl (prefix_more (zff h) hmn p c))
  · exact List.mem_append.2 (.inr c)
theorem places_more (h:BuildOk l m k) {n:Int} (hmn:m≤n) (hn:BuildOk l n k):(placesOf l m k).length≤(placesOf l n k).length:=by
  refine zaR (zax hn) (zax h) fun x hx=>?_
  unfold placesOf at hx ⊢
  rcases List.mem_append.1 hx with c|c
  · exact List.mem_append.2 (.inl (prefix_more (zff h) hmn x c))
  · exact List.mem_append.2 (.inr c)
theorem all_rising (n:Nat):((List.range n).map fun j:Nat=>(j:Int)).Pairwise (· < ·):=by
  rw [List.pairwise_map]
  exact (List.pairwise_lt_range ..).imp fun h=>by omega
theorem places_few (h:BuildOk l m k):(placesOf l m k).length≤l.length:=by
  have:=zaR (all_rising l.length) (zax h) (fun x hx=>by
    have:=zbE ⟨h.k1,h.kl⟩ hx
    exact List.mem_map.2 ⟨x.toNat,List.mem_range.2 (by omega),by omega⟩)
  simpa using this
theorem places_whole (h:BuildOk l m k) (hm:(l.length:Int)-k≤m):(placesOf l m k).length=l.length:=by
  have h1:=places_few h
  have h2:=zaR (zax h) (all_rising l.length) (fun x hx=>by
    obtain ⟨j,hj,rfl⟩:=List.mem_map.1 hx
    rw [List.mem_range] at hj
    unfold placesOf
    by_cases c:(j:Int)<(l.length:Int)-k
    · exact List.mem_append.2 (.inl (prefix_all (zff h) (by rw [zaM];exact hm) (by rw [zaM];exact c)))
    · exact List.mem_append.2 (.inr (List.mem_map.2 ⟨(j-((l.length:Int)-k)).toNat,List.mem_range.2 (by have:=h.k1;have:=h.kl;omega),by omega⟩)))
  simp at h2
  omega
end
set_option maxRecDepth 20000
theorem snoc_indI {α:Type} {p:List α→Prop} (h0:p []) (h1:∀l x,p l→p (l++[x])):∀l,p l:=fun l=>by
  have:∀r:List α,p r.reverse:=fun r=>by
    induction r with
    | nil=>exact h0
    | cons x r ih=>rw [List.reverse_cons];exact h1 _ _ ih
  have:=this l.reverse
  rwa [List.reverse_reverse] at this
theorem i64_sub (x y:Int):decide (x<y)=decide (x-y<0):=by rw [decide_eq_decide];omega
def cstep (out:List Int) (x:Int):List Int:=if out.getLast?=some x then out else out++[x]
def compactL (l:List Int):List Int:=l.foldl cstep []
theorem zdE (l:List Int) (x:Int):compactL (l++[x])=cstep (compactL l) x:=by unfold compactL;rw [List.foldl_append];rfl
theorem compact_take {l:List Int} {k:Nat} {x:Int} (h:l[k]?=some x):compactL (l.take (k+1))=cstep (compactL (l.take k)) x:=by
  rw [List.take_add_one,h];exact zdE _ x
theorem compact_last:∀l:List Int,(compactL l).getLast?=l.getLast?:=fun l=>by
  refine snoc_indI (p:=fun l=>(compactL l).getLast?=l.getLast?) rfl (fun l x ih=>?_) l
  · show (compactL (l++[x])).getLast?=(l++[x]).getLast?
    rw [zdE]
    unfold cstep
    split
    · rename_i c;rw [c];simp
    · simp
theorem compact_len (l:List Int):(compactL l).length≤l.length:=by
  refine snoc_indI (p:=fun l=>(compactL l).length≤l.length) (Nat.le_refl _) (fun l x ih=>?_) l
  · show (compactL (l++[x])).length≤(l++[x]).length
    rw [zdE]
    unfold cstep
    split<;>simp<;>omega
theorem last_take {l:List Int} {k:Nat} {x:Int} (h:l[k]?=some x):(l.take (k+1)).getLast?=some x:=by
  rw [List.take_add_one,h];simp
theorem zee {l:List Int} {k:Nat} {x y:Int} (hx:l[k]?=some x) (hy:l[k+1]?=some y):compactL (l.take (k+2))=if x=y then compactL (l.take (k+1)) else compactL (l.take (k+1))++[y]:=by
  rw [compact_take (k:=k+1) hy]
  unfold cstep
  rw [compact_last,last_take hx]
  simp only [Option.some.injEq]
def swpI {α:Type} [Inhabited α] (l:List α) (k:Nat):List α:=(List.range l.length).map fun j=>if j<k∨l.length-k≤j then l.getD (l.length-1-j) default else l.getD j default
theorem zfq {α:Type} [Inhabited α] {l:List α} {k:Nat}:(swpI l k).length=l.length:=by unfold swpI;simp
theorem swpI_at {α:Type} [Inhabited α] {l:List α} {k j:Nat} (h:j<l.length):(swpI l k)[j]?=some (if j<k∨l.length-k≤j then l.getD (l.length-1-j) default else l.getD j default):=by
  unfold swpI
  rw [List.getElem?_map,List.getElem?_range h];rfl
theorem swpI_zero {α:Type} [Inhabited α] {l:List α}:swpI l 0=l:=by
  apply List.ext_getElem?
  intro j
  by_cases h:j<l.length
  · rw [swpI_at h,if_neg (by omega),List.getD_eq_getElem?_getD,List.getElem?_eq_getElem h];rfl
  · rw [List.getElem?_eq_none (by rw [zfq];omega),List.getElem?_eq_none (by omega)]
theorem swpI_step {α:Type} [Inhabited α] {l:List α} {k:Nat} {x y:α} (hk:2*(k+1)≤l.length) (hx:(swpI l k)[k]?=some x) (hy:(swpI l k)[l.length-1-k]?=some y):((swpI l k).set k y).set (l.length-1-k) x=swpI l (k+1):=by
  rw [swpI_at (by omega),if_neg (by omega)] at hx
  rw [swpI_at (by omega),if_neg (by omega)] at hy
  injection hx with hx
  injection hy with hy
  apply List.ext_getElem?
  intro j
  by_cases h:j<l.length
  · rw [swpI_at h,List.getElem?_set]
    by_cases c:l.length-1-k=j
    · rw [if_pos c,if_pos (by rw [List.length_set,zfq];omega),if_pos (by omega),←hx]
      congr 2;omega
    · rw [if_neg c,List.getElem?_set]
      by_cases d:k=j
      · rw [if_pos d,if_pos (by rw [zfq];omega),if_pos (by omega),←hy]
        congr 2;omega
      · rw [if_neg d,swpI_at h]
        by_cases e:j<k∨l.length-k≤j
        · rw [if_pos e,if_pos (by omega)]
        · rw [if_neg e,if_neg (by omega)]
  · rw [List.getElem?_eq_none (by rw [List.length_set,List.length_set,zfq];omega),List.getElem?_eq_none (by rw [zfq];omega)]
theorem swpI_end {α:Type} [Inhabited α] {l:List α} {k:Nat} (h1:2*k≤l.length) (h2:¬(k:Int)<(l.length:Int)-1-k):swpI l k=l.reverse:=by
  apply List.ext_getElem?
  intro j
  by_cases h:j<l.length
  · rw [swpI_at h,List.getElem?_reverse h,List.getElem?_eq_getElem (by omega)]
    congr 1
    split
    · rw [List.getD_eq_getElem?_getD,List.getElem?_eq_getElem (by omega)];rfl
    · have e:j=l.length-1-j:=by omega
      rw [List.getD_eq_getElem?_getD,List.getElem?_eq_getElem (by omega)]
      show l[j]=_
      congr 1
  · rw [List.getElem?_eq_none (by rw [zfq];omega),List.getElem?_eq_none (by rw [List.length_reverse];omega)]
def Fresh (l:List Int) (k:Nat):Prop:=compactL (l.take k)=l.take k
theorem fresh_one (l:List Int) (h:1≤l.length):Fresh l 1:=by
  cases l with
  | nil=>simp at h
  | cons x l=>rfl
theorem fresh_go {l:List Int} {k:Nat} {x y:Int} (h:Fresh l (k+1)) (hx:l[k]?=some x) (hy:l[k+1]?=some y) (hn:¬y=x):Fresh l (k+2):=by
  unfold Fresh at h ⊢
  rw [zee hx hy,if_neg (fun e=>hn e.symm),h]
  have e:l.take (k+1+1)=l.take (k+1)++(l[k+1]?).toList:=List.take_add_one
  rw [hy] at e
  exact e.symm
theorem fresh_dup {l:List Int} {k:Nat} {x y:Int} (h:Fresh l (k+1)) (hx:l[k]?=some x) (hy:l[k+1]?=some y) (hn:y=x):compactL (l.take (k+2))=l.take (k+1):=by
  rw [zee hx hy,if_pos hn.symm,h]
def rowAt (l:List Int) (i:Nat):List Int:=compactL (l.take i)++l.drop (compactL (l.take i)).length
theorem rowAt_len {l:List Int} {i:Nat} (h:i≤l.length):(rowAt l i).length=l.length:=by
  unfold rowAt
  have:=compact_len (l.take i)
  rw [List.length_take] at this
  rw [List.length_append,List.length_drop];omega
theorem rowAt_get {l:List Int} {i j:Nat} (h:(compactL (l.take i)).length≤j):(rowAt l i)[j]?=l[j]?:=by
  unfold rowAt
  rw [List.getElem?_append_right h,List.getElem?_drop];congr 1;omega
theorem rowAt_same {l:List Int} {i:Nat} {x y:Int} (hx:l[i]?=some x) (hy:l[i+1]?=some y) (h:x=y):rowAt l (i+2)=rowAt l (i+1):=by
  unfold rowAt
  rw [zee hx hy,if_pos h]
theorem set_app {α:Type} (a b:List α) (y:α) (h:0<b.length):(a++b).set a.length y=a++[y]++b.drop 1:=by
  cases b with
  | nil=>simp at h
  | cons z b=>rw [List.set_append_right _ _ (Nat.le_refl _),Nat.sub_self];simp
theorem rowAt_new {l:List Int} {i:Nat} {x y:Int} (hx:l[i]?=some x) (hy:l[i+1]?=some y) (h:¬x=y) (hc:(compactL (l.take (i+1))).length<l.length):(rowAt l (i+1)).set (compactL (l.take (i+1))).length y=rowAt l (i+2):=by
  unfold rowAt
  rw [zee hx hy,if_neg h,set_app _ _ _ (by rw [List.length_drop];omega),List.drop_drop,List.length_append];rfl
theorem rowAt_fresh {l:List Int} {k:Nat} (h:compactL (l.take (k+2))=l.take (k+1)) (hk:k+1≤l.length):rowAt l (k+2)=l:=by
  unfold rowAt
  rw [h,List.length_take,Nat.min_eq_left hk,List.take_append_drop]
theorem compact_short {l:List Int} (h:l.length<2):compactL l=l:=by
  match l,h with
  | [],_=>rfl
  | [x],_=>rfl
theorem sNaN_ok (x:Int):Tells P 78 [.val i64T x] (.val boolT false):=by
 refine zc Tryz.func78 rfl rfl rfl (fun ext w hext=>?_)
 refine ze (d:=0) rfl zn (fun hin0=>?_)
 refine qbP ?_;refine qav ?_;refine A0 zch ?_;refine qac ?_
 exact za rfl rfl (zb2 (by simp [Fr.set]))
theorem lessInt_ok (x y:Int):Tells P 77 [.val i64T x,.val i64T y] (.val boolT (decide (x<y))):=by
 refine zc Tryz.func77 rfl rfl rfl (fun ext w hext=>?_)
 refine ze (d:=0) rfl zn (fun hin0=>?_)
 refine ze (d:=1) rfl zn (fun hin1=>?_)
 refine qbP ?_;refine A0 (oCl (isNaN_ok x) rfl fn_132 ⟨(zd rfl),trivial⟩) ?_;refine qav ?_;refine zbR (d:=7) rfl (rfl) ?_;refine qab ?_;refine qag ?_;refine qaG ?_;refine A1 zbF ?_;refine qa1 ?_
 exact za rfl rfl (zb rfl (rfl))
theorem growInt (n:Nat) (hn:n≤1000000000):Tells P 195 [.lit (.slice none 0 0),.val i64T (n:Int)] (.fresh 3 i64T []):=by
 refine zc Tryz.func195 rfl rfl rfl (fun ext w hext=>?_)
 refine ze (d:=1) rfl zn (fun hin1=>?_)
 refine qaq ?_;refine qaZ ?_;refine qaK ?_;refine zdo rfl (decide_eq_false (by show ¬((n:Int)<0);omega)) ?_;refine qb2 ?_;refine A0 mL ?_;refine A0 (zfc rfl rfl zb3) ?_;refine A0 mL ?_;refine A0 (by first|exact zK rfl rfl zb3|exact zak rfl rfl rfl zb3|exact zaw rfl rfl zb3) ?_;refine A0 zaL ?_;refine A0 zaL ?_;refine qae ?_;refine A0 zaG ?_;refine CN ?_;refine zp (p:=0<n) rfl (by rw [decide_eq_decide];simp only [IntL.toI,id_eq];omega) (fun ht16=>?_) (fun ht16=>?_)
 ·
  refine CR ?_;refine A0 mL ?_;refine A0 mL ?_;refine A0 (zfc rfl rfl zb3) ?_;refine A0 (by first|exact zbx rfl rfl rfl (by first|rfl|omega) zbt|exact zd2 rfl rfl rfl zbt (by first|assumption|omega|(simp;omega))) ?_;refine qav ?_;refine aw_appendz (T:=i64T) (n:=n) rfl rfl rfl rfl rfl rfl (by first|rfl|omega) zcI ze_3 (ui_3) (⟨by assumption,by omega,by omega⟩) ?_;refine A0 mL ?_;refine A0 (by first|exact zK rfl rfl zb3|exact zak rfl rfl rfl zb3|exact zaw rfl rfl zb3) ?_
  refine A0 (g_os_h (q:=0) rfl rfl rfl rfl zbt (by first|omega|rfl) (by first|assumption|omega|(simp;omega))) ?_;refine A0 aS ?_;refine CNQR ?_;refine A0 mS ?_;refine A0 aS ?_;refine CN ?_
  exact za rfl rfl (ret_fresh_s rfl rfl (by simp;omega) rfl)
 ·
  refine CSQR ?_;refine A0 mL ?_;refine A0 aL ?_;refine CN ?_
  exact za rfl rfl (zm rfl)
theorem concatInt (ls:List (List Int)) (hl:ls.flatten.length≤1000000000):Tells P 136 [.val (bsl (bsl i64T)) ls] (.fresh 3 i64T ls.flatten):=by
 refine zc Tryz.func136 rfl rfl rfl (fun ext w hext=>?_)
 refine ze (d:=0) rfl zl (fun hsl0=>?_)
 refine qbc ?_;refine qaj ?_;refine A0 (zK rfl rfl isl_239) ?_;refine qaA ?_;refine Lp (ι:=Nat) 0 (fun (k:Nat)=>(((((Fr.none).set 0 (.val (bsl (bsl i64T)) ls)).set 3 (.val i64T ((ls.take k).flatten.length:Int))).set 9 (.val (bsl (bsl i64T)) ls)).set 10 (.val i64T (ls.length:Int))).set 11 (.val i64T (k:Int))) (fun (k:Nat)=>Hp.none) (fun (k:Nat)=>k≤ls.length) (fun (k:Nat)=>ls.length-k) (0) (Nat.zero_le _) ?_
 intro k hinv
 refine qak ?_;refine Cf (p:=k<ls.length) (fun ht12=>?_) (fun ht12=>?_)
 ·
  obtain ⟨x,hx⟩:∃x,ls[k]?=some x:=⟨_,List.getElem?_eq_getElem ht12⟩
  have hle:=zcK ls (k+1)
  rw [zap hx,List.length_append] at hle
  refine CSQBQR ?_;refine A0 (zaK rfl rfl rfl sl_239 (by assumption)) ?_;refine A0 (zf rfl rfl zco) ?_;refine A0 aX ?_;refine CNQR ?_;refine qav ?_;refine A0 mX ?_;refine A0 (by first|exact zK rfl rfl zb3|exact zak rfl rfl rfl zb3|exact zaw rfl rfl zb3) ?_;refine A0 zbJ ?_;refine qae ?_;refine qaK ?_;refine zdo rfl (decide_eq_false (by simp only [IntL.toI,id_eq];omega)) ?_;refine qbe ?_;refine zi (d:=3) (y:=((ls.take (k+1)).flatten.length:Int)) rfl (by rw [zap hx,List.length_append];omega) ?_
  exact Nx (k+1) (by omega) (by omega)
 ·
  refine zi (d:=3) (y:=((ls.flatten.length:Nat):Int)) rfl (by rw [List.take_of_length_le (by omega)]) ?_;refine CE ?_;refine qa2 ?_;refine zaC (growInt ls.flatten.length hl) rfl fn_195 ⟨(by first|exact zy rfl|exact zW rfl|exact zF rfl rfl|exact zU rfl|exact zs rfl|exact zag rfl rfl|exact zV rfl),(zd rfl),trivial⟩ rfl rfl rfl ?_;refine A0 aO ?_;refine qaZ ?_;refine A0 (zK rfl rfl isl_239) ?_;refine qaA ?_
  refine Lp (ι:=Nat) 1 (fun (k:Nat)=>((((Fr.none).set 6 (.own 0)).set 25 (.val (bsl (bsl i64T)) ls)).set 26 (.val i64T (ls.length:Int))).set 27 (.val i64T (k:Int))) (fun (k:Nat)=>(Hp.none).set 0 (.row 3 i64T (ls.take k).flatten)) (fun (k:Nat)=>k≤ls.length) (fun (k:Nat)=>ls.length-k) (0) (Nat.zero_le _) ?_
  intro k hinv
  refine qak ?_;refine Cf (p:=k<ls.length) (fun ht28=>?_) (fun ht28=>?_)
  ·
   obtain ⟨x,hx⟩:∃x,ls[k]?=some x:=⟨_,List.getElem?_eq_getElem ht28⟩
   have hle:=zcK ls (k+1)
   rw [zap hx,List.length_append] at hle
   refine CSQBQR ?_;refine A0 (zaK rfl rfl rfl sl_239 (by assumption)) ?_;refine A0 (zf rfl rfl zco) ?_;refine A0 aX ?_;refine CNR ?_;refine A0 mO ?_;refine A0 mX ?_;refine zB rfl rfl rfl rfl rfl rfl rfl zcI (by omega) ?_;refine qbU ?_;refine zaH 1 0 2 rfl rfl rfl rfl rfl rfl ?_;refine zz (n:=0) rfl (zap hx).symm ?_
   exact Nx (k+1) (by omega) (by omega)
  ·
   refine qa8 ?_
   exact za rfl rfl (zg rfl rfl (by rw [List.take_of_length_le (by omega)]))
theorem revInt (l:List Int) (hl:l.length≤1000000000000):TellsM P 81 (.row 3 i64T l) [.own 0] (.lit (.tuple #[])) (.row 3 i64T l.reverse):=by
 refine zer trivial Tryz.func81 rfl rfl ⟨Nat.one_pos,trivial⟩ (fun ext pg w hext hgr=>?_)
 refine aw_factrow (n:=0) rfl (fun hrl=>?_)
 refine qbA ?_;refine A0 (zak rfl rfl rfl zb3) ?_;refine A0 zaL ?_;refine A0 aV ?_;refine A0 aV ?_;refine CNB ?_;refine zz (n:=0) (y:=swpI l 0) rfl swpI_zero.symm ?_;refine zi (d:=3) (y:=(l.length:Int)-1-((0:Nat):Int)) rfl (by omega) ?_;refine Lp (ι:=Nat) 1 (fun (k:Nat)=>(((Fr.none).set 0 (.own 0)).set 2 (.val i64T (k:Int))).set 3 (.val i64T ((l.length:Int)-1-k))) (fun (k:Nat)=>(Hp.none).set 0 (.row 3 i64T (swpI l k))) (fun (k:Nat)=>2*k≤l.length) (fun (k:Nat)=>l.length-k) (0) (Nat.zero_le _) ?_
 intro k hinv
 refine CQQR ?_;refine qal ?_;refine qaK ?_;refine Cf (p:=(k:Int)<(l.length:Int)-1-k) (fun ht9=>?_) (fun ht9=>?_)
 ·
  have hsl:=zfq (l:=l) (k:=k)
  obtain ⟨x,hx⟩:∃x,(swpI l k)[k]?=some x:=⟨_,List.getElem?_eq_getElem (by omega)⟩
  obtain ⟨y,hy⟩:∃y,(swpI l k)[l.length-1-k]?=some y:=⟨_,List.getElem?_eq_getElem (by omega)⟩
  have hsl2:((swpI l k).set k y).length=l.length:=by rw [List.length_set,hsl]
  have hy2:((swpI l k).set k y)[l.length-1-k]?=some y:=by rw [List.getElem?_set_ne (by omega)];exact hy
  refine CS ?_;refine CQ ?_;refine CB ?_;refine zE [some 1,some 1,some 1000001,some 1000001,some 1,some 1,some 1,some 1,some 1,some 1,some 1,some 1,some 1,none,some 1,none] mixed (by decide +kernel) ?_;refine X0 mO ?_;refine X0 mV ?_;refine XK.ga (fun _=>g_mo (.inl rfl) rfl) rfl rfl rfl ?_;refine XK.ga (fun _=>g_mv (.inl rfl) rfl) rfl rfl rfl ?_;refine X0 mO ?_;refine X0 mV ?_;refine X0 (zdB (i:=l.length-1-k) rfl rfl rfl rfl (by first|omega|rfl) zbt (by first|assumption|omega|(simp;omega))) ?_;refine X0 (zbZ rfl rfl rfl rfl (by assumption) (Lens.self _) ty_3) ?_;refine X0 mO ?_
  refine X0 mV ?_;refine X0 (zdB (i:=k) rfl rfl rfl rfl (by first|omega|rfl) zbt (by first|assumption|omega|(simp;omega))) ?_;refine X0 (zbZ rfl rfl rfl rfl (by assumption) (Lens.self _) ty_3) ?_;refine X0 (zdB (i:=k) rfl rfl rfl rfl (by first|omega|rfl) zbt (by first|assumption|omega|(simp;omega))) ?_;refine XK.e (x:=.idk) (fun fr' hfr kk H=>by exact zeg rfl rfl rfl ((hfr 26 (by decide +kernel)).trans rfl) rfl rfl (by assumption) (Lens.self _) ty_3 ((hfr 21 (by decide +kernel)).trans rfl) (zH H)) ?_
  refine X0 (zdB (i:=l.length-1-k) rfl rfl rfl rfl (by first|omega|rfl) zbt (by first|assumption|omega|(simp;omega))) ?_;refine XK.e (x:=.idk) (fun fr' hfr kk H=>by exact zeg rfl rfl rfl ((hfr 27 (by decide +kernel)).trans rfl) rfl rfl (by assumption) (Lens.self _) ty_3 ((hfr 25 (by decide +kernel)).trans rfl) (zH H)) ?_;refine XK.nil' ?_;refine CI ?_;refine CR ?_;refine qbd ?_;refine qbJ ?_;refine qbt ?_;refine zz (n:=0) (y:=swpI l (k+1)) rfl (swpI_step (by omega) hx hy) ?_;refine zi (d:=3) (y:=(l.length:Int)-1-((k+1:Nat):Int)) rfl (by omega) ?_
  exact Nx (k+1) (by omega) (by omega)
 ·
  refine CE ?_
  exact aw_fallm0 rfl rfl rfl rfl rfl (give_row rfl (swpI_end hinv ht9))
theorem bsInt_ok (l:List Int) (y:Int) (hl:l.length<4611686018427387904):Tells P 36 [.val (bsl i64T) l,.val i64T y] (.tup2 (.val i64T (halves (fun x=>x-y) l 0 l.length:Nat)) (.val boolT (foundAt (fun x=>x-y) l (halves (fun x=>x-y) l 0 l.length)))):=by
 refine zc Tryz.func36 rfl rfl rfl (fun ext w hext=>?_)
 refine ze (d:=0) rfl zl (fun hsl0=>?_)
 refine ze (d:=1) rfl zn (fun hin1=>?_)
 refine CQR ?_;refine qbz ?_;refine qbL ?_;refine qae ?_;refine A0 aV ?_;refine qaH ?_;refine CB ?_;refine Lp (ι:=Nat×Nat) 0 (fun (i:Nat×Nat)=>match i with|(lo,hi)=>(((((Fr.none).set 0 (.val (bsl i64T) l)).set 1 (.val i64T y)).set 6 (.val i64T (l.length:Int))).set 7 (.val i64T (lo:Int))).set 8 (.val i64T (hi:Int))) (fun (i:Nat×Nat)=>match i with|(lo,hi)=>Hp.none) (fun (i:Nat×Nat)=>match i with|(lo,hi)=>lo≤hi∧hi≤l.length∧halves (fun x=>x-y) l 0 l.length=halves (fun x=>x-y) l lo hi) (fun (i:Nat×Nat)=>match i with|(lo,hi)=>hi-lo) ((0,l.length)) (⟨Nat.zero_le _,Nat.le_refl _,rfl⟩) ?_
 intro ⟨lo,hi⟩ hinv
 dsimp only at hinv
 refine CQQR ?_;refine qal ?_;refine qaK ?_;refine Cf (p:=lo<hi) (fun ht15=>?_) (fun ht15=>?_)
 ·
  obtain ⟨x,hx⟩:∃x,l[(lo+hi)/2]?=some x:=⟨_,List.getElem?_eq_getElem (by omega)⟩
  refine CS ?_;refine CB ?_;refine CQR ?_;refine qal ?_;refine A0 zbJ ?_;refine A0 (zd3 rfl (ui_135) (us_3) rfl) ?_;refine A0 (zbu rfl rfl rfl (by first|decide|(simp [IntL.toI];done)|(simp [IntL.toI];omega)) rfl) ?_;refine A0 (zeV rfl (ui_3) (us_135) rfl (mid_eq (by omega))) ?_;refine qae ?_;refine qav ?_;refine A0 (zo (i:=(lo+hi)/2) rfl rfl rfl (by omega) zbt (by assumption)) ?_;refine qbT ?_;refine qav ?_
  refine A0 (oCl (lessInt_ok x y) rfl fn_77 ⟨(by first|exact zy rfl|exact zW rfl|exact zF rfl rfl|exact zU rfl|exact zs rfl|exact zag rfl rfl|exact zV rfl),(zd rfl),trivial⟩) ?_;refine CN ?_;refine zp (p:=x-y<0) rfl ((i64_sub _ _)) (fun ht27=>?_) (fun ht27=>?_)
  ·
   refine CR ?_;refine qbd ?_;refine qac ?_;refine CI ?_
   exact Nx (((lo+hi)/2+1,hi)) (by first|exact ⟨by omega,by omega,hinv.2.2.trans (halves_lt ht15 hx ht27)⟩|exact ⟨by omega,by omega,hinv.2.2.trans (halves_ge ht15 hx ht27)⟩) (by show _<hi-lo;simp only [];omega)
  ·
   refine CR ?_;refine qav ?_;refine qac ?_;refine CI ?_
   exact Nx ((lo,(lo+hi)/2)) (by first|exact ⟨by omega,by omega,hinv.2.2.trans (halves_lt ht15 hx ht27)⟩|exact ⟨by omega,by omega,hinv.2.2.trans (halves_ge ht15 hx ht27)⟩) (by show _<hi-lo;simp only [];omega)
 ·
  refine CE ?_;refine CQR ?_;refine qal ?_;refine qav ?_;refine A0 zbF ?_;refine Sp (d:=34) (p:=lo<l.length) (fun g34=>?_) (fun g34=>?_)
  ·
   obtain ⟨x,hx⟩:∃x,l[lo]?=some x:=⟨_,List.getElem?_eq_getElem g34⟩
   refine qav ?_;refine qaG ?_;refine A1 (zo (i:=lo) rfl rfl rfl (by omega) zbt (by assumption)) ?_;refine A1 (zf rfl rfl ty_3) ?_;refine A1 mV ?_;refine A1 zaW ?_;refine Sp (d:=41) (p:=x=y) (fun g41=>?_) (fun g41=>?_)
   ·
    refine A1 mV ?_;refine qab ?_;refine qab ?_;refine A3 ?_;refine A3 ?_;refine A2 ?_;refine A1 oK ?_;refine A0 oK ?_;refine qbt ?_
    exact zZ rfl rfl (zb rfl (by rw [hinv.2.2,show hi=lo by omega,zbG])) (zb rfl (by rw [hinv.2.2,show hi=lo by omega,zbG];unfold foundAt;rw [hx];symm;exact decide_eq_true (show x-y=0 by omega)))
   ·
    refine qaG ?_;refine A1 mV ?_;refine A1 (zo (i:=lo) rfl rfl rfl (by omega) zbt (by assumption)) ?_;refine A1 (zf rfl rfl ty_3) ?_;refine A1 (oCl (sNaN_ok x) rfl fn_78 ⟨(by first|exact zy rfl|exact zW rfl|exact zF rfl rfl|exact zU rfl|exact zs rfl|exact zag rfl rfl|exact zV rfl),trivial⟩) ?_;refine zbR (d:=47) rfl (rfl) ?_;refine A1 mV ?_;refine qaE ?_;refine A1 oK ?_;refine A1 oK ?_;refine A0 oK ?_;refine qbt ?_
    exact zZ rfl rfl (zb rfl (by rw [hinv.2.2,show hi=lo by omega,zbG])) (zb rfl (by rw [hinv.2.2,show hi=lo by omega,zbG];unfold foundAt;rw [hx];symm;exact decide_eq_false (show ¬x-y=0 by omega)))
  ·
   refine qby ?_;refine qab ?_;refine A2 ?_;refine qaB ?_;refine qaB ?_;refine qaB ?_;refine A2 ?_;refine A0 oK ?_;refine qbt ?_
   exact zZ rfl rfl (zb rfl (by rw [hinv.2.2,show hi=lo by omega,zbG])) (zb rfl (by rw [hinv.2.2,show hi=lo by omega,zbG];unfold foundAt;rw [List.getElem?_eq_none (by omega)]))
theorem compactInt (l:List Int) (hl:l.length≤1000000000):TellsM P 137 (.row 3 i64T l) [.own 0] (.fresh 3 i64T (compactL l)) (.none_):=by
 refine zer trivial Tryz.func137 rfl rfl ⟨Nat.one_pos,trivial⟩ (fun ext pg w hext hgr=>?_)
 refine aw_factrow (n:=0) rfl (fun hrl=>?_)
 refine qaq ?_;refine CNQQR ?_;refine A0 mO ?_;refine A0 (zak rfl rfl rfl zb3) ?_;refine qaK ?_;refine Cf (p:=l.length<2) (fun ht8=>?_) (fun ht8=>?_)
 ·
  refine qbA ?_;refine qbq ?_
  exact zcy rfl rfl rfl rfl rfl zb4 (retm_fresh zb4 (fun h=>h.elim) rfl rfl (compact_short ht8).symm)
 ·
  refine CSQQR ?_;refine A0 aV ?_;refine CNB ?_;refine Lp (ι:=Nat) 1 (fun (k:Nat)=>((Fr.none).set 0 (.own 0)).set 3 (.val i64T ((k:Int)+1))) (fun (k:Nat)=>(Hp.none).set 0 (.row 3 i64T l)) (fun (k:Nat)=>k+1≤l.length∧Fresh l (k+1)) (fun (k:Nat)=>l.length-k) (0) (⟨by omega,fresh_one l (by omega)⟩) ?_
  intro k hinv
  refine qbi ?_;refine A0 mO ?_;refine A0 (zak rfl rfl rfl zb3) ?_;refine qaK ?_;refine Cf (p:=k+1<l.length) (fun ht13=>?_) (fun ht13=>?_)
  ·
   obtain ⟨x,hx⟩:∃x,l[k]?=some x:=⟨_,List.getElem?_eq_getElem (by omega)⟩
   obtain ⟨y,hy⟩:∃y,l[k+1]?=some y:=⟨_,List.getElem?_eq_getElem ht13⟩
   refine CS ?_;refine CQ ?_;refine CB ?_;refine qaU ?_;refine G0 mO ?_;refine G0 mV ?_;refine G0 (zdB (i:=k+1) rfl rfl rfl rfl (by first|omega|rfl) zbt (by first|assumption|omega|(simp;omega))) ?_;refine G0 (zbZ rfl rfl rfl rfl (by assumption) (Lens.self _) ty_3) ?_;refine G0 mO ?_;refine G0 mV ?_;refine G0 zaL ?_;refine G0 (zdB (i:=k) rfl rfl rfl rfl (by first|omega|rfl) zbt (by first|assumption|omega|(simp;omega))) ?_;refine G0 (zbZ rfl rfl rfl rfl (by assumption) (Lens.self _) ty_3) ?_;refine G0 zaW ?_;refine GK.nil ?_;refine Cf (p:=y=x) (fun ht25=>?_) (fun ht25=>?_)
   ·
    have hdup:=fresh_dup hinv.2 hx hy ht25
    have hdl:(compactL (l.take (k+2))).length=k+1:=by rw [hdup,List.length_take];omega
    refine qbA ?_;refine qav ?_;refine A0 (g_os_l (p:=k+1) rfl rfl rfl rfl zbt (by first|omega|rfl) (by first|assumption|omega|(simp;omega))) ?_;refine A0 aS ?_;refine CNQQR ?_;refine A0 aV ?_;refine CNB ?_;refine zz (n:=0) (y:=rowAt l (k+1+1)) rfl (rowAt_fresh hdup (by omega)).symm ?_;refine zi (d:=3) (y:=((compactL (l.take (k+1+1))).length:Int)) rfl (by rw [hdl];omega) ?_;refine zi (d:=5) (y:=((k+1:Nat):Int)-k) rfl (by omega) ?_
    refine Lp (ι:=Nat) 1 (fun (j:Nat)=>((((Fr.none).set 0 (.own 0)).set 3 (.val i64T ((compactL (l.take (j+1))).length:Int))).set 4 (.osub 0 i64T.size (k+1) (l.length-(k+1)))).set 5 (.val i64T ((j:Int)-k))) (fun (j:Nat)=>(Hp.none).set 0 (.row 3 i64T (rowAt l (j+1)))) (fun (j:Nat)=>k+1≤j∧j<l.length∧(compactL (l.take (j+1))).length≤j) (fun (j:Nat)=>l.length-j) (k+1) (⟨Nat.le_refl _,by omega,by rw [hdl];omega⟩) ?_
    intro j hj
    refine qbi ?_;refine A0 mS ?_;refine A0 (g_len_s rfl rfl (by omega) zb3) ?_;refine qaK ?_;refine Cf (p:=j+1<l.length) (fun ht32=>?_) (fun ht32=>?_)
    ·
     have hrw:=rowAt_len (l:=l) (i:=j+1) (by omega)
     obtain ⟨x2,hx2⟩:∃x,l[j]?=some x:=⟨_,List.getElem?_eq_getElem (by omega)⟩
     obtain ⟨y2,hy2⟩:∃y,l[j+1]?=some y:=⟨_,List.getElem?_eq_getElem ht32⟩
     have hxr:(rowAt l (j+1))[k+1+(j-k-1)]?=some x2:=by rw [show k+1+(j-k-1)=j by omega,rowAt_get hj.2.2];exact hx2
     have hyr:(rowAt l (j+1))[k+1+(j-k)]?=some y2:=by rw [show k+1+(j-k)=j+1 by omega,rowAt_get (by omega)];exact hy2
     refine CS ?_;refine CQ ?_;refine CB ?_;refine qaU ?_;refine G0 mS ?_;refine G0 mV ?_;refine G0 (g_ia_s (i:=j-k) rfl rfl rfl (by first|omega|rfl) zbt (by first|assumption|omega|(simp;omega))) ?_;refine G0 (zbZ rfl rfl rfl rfl (by assumption) (Lens.self _) ty_3) ?_;refine G0 mS ?_;refine G0 mV ?_;refine G0 zaL ?_;refine G0 (g_ia_s (i:=j-k-1) rfl rfl rfl (by first|omega|rfl) zbt (by first|assumption|omega|(simp;omega))) ?_;refine G0 (zbZ rfl rfl rfl rfl (by assumption) (Lens.self _) ty_3) ?_;refine G0 zch ?_;refine GK.nil ?_;refine Cf (p:=¬y2=x2) (fun ht44=>?_) (fun ht44=>?_)
     ·
      obtain ⟨z,hz⟩:∃z,(rowAt l (j+1))[(compactL (l.take (j+1))).length]?=some z:=⟨_,List.getElem?_eq_getElem (by omega)⟩
      have hcl:(compactL (l.take (j+1+1))).length=(compactL (l.take (j+1))).length+1:=by rw [zee hx2 hy2,if_neg (fun e=>ht44 e.symm),List.length_append];rfl
      refine qbA ?_;refine qav ?_;refine A0 mS ?_;refine qav ?_;refine A0 (g_ia_s (i:=j-k) rfl rfl rfl (by first|omega|rfl) zbt (by first|assumption|omega|(simp;omega))) ?_;refine A0 (zbZ rfl rfl rfl rfl (by assumption) (Lens.self _) ty_3) ?_;refine A0 (zdB (i:=(compactL (l.take (j+1))).length) rfl rfl rfl rfl (by first|omega|rfl) zbt (by first|assumption|omega|(simp;omega))) ?_;refine zeg rfl rfl rfl rfl rfl rfl (by assumption) (Lens.self _) ty_3 rfl ?_;refine CNR ?_;refine qbd ?_;refine A0 aV ?_;refine CNIR ?_;refine qbd ?_;refine qac ?_
      refine zz (n:=0) (y:=rowAt l (j+1+1)) rfl (rowAt_new hx2 hy2 (fun e=>ht44 e.symm) (by omega)) ?_;refine zi (d:=3) (y:=((compactL (l.take (j+1+1))).length:Int)) rfl (by rw [hcl];omega) ?_;refine zi (d:=5) (y:=((j+1:Nat):Int)-k) rfl (by omega) ?_
      exact Nx (j+1) (⟨by omega,by omega,by omega⟩) (by omega)
     ·
      have hcl:(compactL (l.take (j+1+1))).length=(compactL (l.take (j+1))).length:=by rw [zee hx2 hy2,if_pos (Classical.not_not.1 ht44).symm]
      refine qaw ?_;refine zz (n:=0) (y:=rowAt l (j+1+1)) rfl (rowAt_same hx2 hy2 (Classical.not_not.1 ht44).symm).symm ?_;refine zi (d:=3) (y:=((compactL (l.take (j+1+1))).length:Int)) rfl (by rw [hcl]) ?_;refine zi (d:=5) (y:=((j+1:Nat):Int)-k) rfl (by omega) ?_
      exact Nx (j+1) (⟨by omega,by omega,by omega⟩) (by omega)
    ·
     refine CE ?_;refine CQ ?_
     have hjl:l.take (j+1)=l:=List.take_of_length_le (by omega)
     have hcl:=compact_len l
     have hcj:=hj.2.2
     rw [hjl] at hcj
     refine zz (n:=0) (y:=compactL l++l.drop (compactL l).length) rfl (by unfold rowAt;rw [hjl]) ?_;refine zi (d:=3) (y:=((compactL l).length:Int)) rfl (by rw [hjl]) ?_;refine CR ?_;refine A0 mO ?_;refine qav ?_;refine A0 (g_os_l (p:=(compactL l).length) rfl rfl rfl rfl zbt (by first|omega|rfl) (by first|assumption|omega|(simp;omega))) ?_;refine aw_clear rfl rfl rfl rfl rfl zcI ze_3 (by simp;omega) ?_;refine CNQR ?_;refine A0 mO ?_;refine qav ?_;refine A0 (g_os_h (q:=(compactL l).length) rfl rfl rfl rfl zbt (by first|omega|rfl) (by first|assumption|omega|(simp;omega))) ?_
     refine A0 aS ?_;refine CN ?_
     exact zcy rfl rfl rfl rfl rfl zb4 (retm_fresh_s rfl rfl (by simp;omega) (by rw [List.take_append_of_le_length (by simp)];simp))
   ·
    refine qaw ?_;refine zi (d:=3) (y:=((k+1:Nat):Int)+1) rfl (by omega) ?_
    exact Nx (k+1) (⟨by omega,fresh_go hinv.2 hx hy ht25⟩) (by omega)
  ·
   refine qa8 ?_
   exact zcy rfl rfl rfl rfl rfl zb4 (retm_fresh zb4 (fun h=>h.elim) rfl rfl (by have h:=hinv.2;unfold Fresh at h;rw [List.take_of_length_le (by omega)] at h;exact h.symm))
set_option maxRecDepth 20000
def backN (v:List Int) (n:Int):Nat→Nat
  | 0=>0
  | j+1=>if 0<n∧v.getD (j+1) 0<n then backN v n j else j+1
theorem zfH (v:List Int) (n:Int):∀j,backN v n j≤j
  | 0=>Nat.le_refl _
  | j+1=>by
    unfold backN
    split
    · have:=zfH v n j;omega
    · exact Nat.le_refl _
theorem back_go {v:List Int} {n x:Int} {j:Nat} (hj:0<j) (hx:v[j]?=some x) (h0:0<n) (h:x<n):backN v n j=backN v n (j-1):=by
  cases j with
  | zero=>omega
  | succ j =>
    have e:v.getD (j+1) 0=x:=by simp [hx]
    show (if 0<n∧v.getD (j+1) 0<n then backN v n j else j+1)=backN v n j
    rw [e,if_pos ⟨h0,h⟩]
theorem back_stop {v:List Int} {n:Int} {j:Nat} (h:∀x,v[j]?=some x→¬(0<n∧x<n)) (hj:j<v.length):backN v n j=j:=by
  cases j with
  | zero=>rfl
  | succ j =>
    show (if 0<n∧v.getD (j+1) 0<n then backN v n j else j+1)=j+1
    have e:v[j+1]?=some (v.getD (j+1) 0):=by rw [List.getD_eq_getElem?_getD,List.getElem?_eq_getElem hj];rfl
    rw [if_neg (h _ e)]
theorem back_zero (v:List Int) (j:Nat):backN v 0 j=j:=by
  cases j with
  | zero=>rfl
  | succ j=>show (if (0:Int)<0∧_ then _ else _)=_;rw [if_neg (fun h=>by have:=h.1;omega)]
def walkW (v:List Int) (low at_ n:Nat):List Int :=
  if h:low<at_ then
    if hx:backN v n (at_-1)<low then
      match n with
      | 0=>[]
      | n+1=>walkW v low at_ n
    else ((backN v n (at_-1):Nat):Int)::walkW v low (backN v n (at_-1)) n
  else []
termination_by at_+n
decreasing_by
  · omega
  · have:=zfH v n (at_-1);omega
theorem zfp (v:List Int) {low at_ n:Nat} (h:¬low<at_):walkW v low at_ n=[]:=by rw [walkW,dif_neg h]
theorem walk_down {v:List Int} {low at_ n:Nat} (h:low<at_) (hx:backN v ((n+1:Nat):Int) (at_-1)<low):walkW v low at_ (n+1)=walkW v low at_ n:=by
  rw [walkW,dif_pos h,dif_pos hx]
theorem walk_step {v:List Int} {low at_ n:Nat} (h:low<at_) (hx:¬backN v n (at_-1)<low):walkW v low at_ n=((backN v n (at_-1):Nat):Int)::walkW v low (backN v n (at_-1)) n:=by
  rw [walkW,dif_pos h,dif_neg hx]
def followOk (v:List Int) (high low:Int):Bool:=mayV v&&decide (0≤low∧low≤high∧high<v.length)
def followL (v:List Int) (high low:Int):List Int:=if followOk v high low=true then (high::walkW v low.toNat high.toNat 31).reverse else []
theorem follow_no {v:List Int} {high low:Int} (h:followOk v high low=false):followL v high low=[]:=by unfold followL;rw [h];rfl
structure WalkAt (v:List Int) (high low:Nat) (s:Nat×Nat×List Int):Prop where
  lo:low≤s.1
  hi:s.1≤high
  n:s.2.1≤31
  l:s.2.2++walkW v low s.1 s.2.1=(high:Int)::walkW v low high 31
  len:s.2.2.length+s.1≤high+1
theorem walk_down_at {v:List Int} {high low a n:Nat} {l:List Int} (h:WalkAt v high low (a,n,l)) (ha:¬a=low) (hx:backN v n (a-1)<low):1≤n∧WalkAt v high low (a,n-1,l):=by
  have h1:=h.lo
  simp only at h1
  cases n with
  | zero =>
    rw [show ((0:Nat):Int)=0 from rfl,back_zero] at hx;omega
  | succ n =>
    have h3:=h.n
    simp only at h3
    refine ⟨by omega,h.lo,h.hi,by show n≤31;omega,?_,h.len⟩
    have:=h.l
    simp only at this
    rw [walk_down (by omega) hx] at this
    exact this
theorem walk_step_at {v:List Int} {high low a n:Nat} {l:List Int} (h:WalkAt v high low (a,n,l)) (ha:¬a=low) (hx:¬backN v n (a-1)<low):WalkAt v high low (backN v n (a-1),n,l++[((backN v n (a-1):Nat):Int)]):=by
  have h1:=h.lo
  have h2:=h.hi
  have h5:=h.len
  have h4:=h.l
  simp only at h1 h2 h4 h5
  have hb:=zfH v n (a-1)
  refine ⟨by show low≤backN v n (a-1);omega,by show backN v n (a-1)≤high;omega,h.n,?_,by show (l++_).length+backN v n (a-1)≤high+1;rw [List.length_append];simp only [List.length_singleton];omega⟩
  show (l++[((backN v n (a-1):Nat):Int)])++walkW v low (backN v n (a-1)) n=_
  rw [List.append_assoc,List.singleton_append,←walk_step (by omega) hx]
  exact h4
theorem zcX {v:List Int} {high low:Int} (h:followOk v high low=true):0<v.length∧v.length≤200∧v[0]?=some 31∧0≤low∧low≤high∧high<v.length:=by
  unfold followOk mayV at h
  rw [Bool.and_eq_true,Bool.and_eq_true,decide_eq_true_eq,decide_eq_true_eq] at h
  exact ⟨h.1.1.1,h.1.1.2.1,h.1.1.2.2,h.2⟩
theorem follow_end {v:List Int} {H L a n:Nat} {l:List Int} (hok:followOk v H L=true) (h:WalkAt v H L (a,n,l)) (ha:a=L):l.reverse=followL v H L:=by
  have:=h.l
  simp only at this
  rw [zfp v (by omega),List.append_nil] at this
  unfold followL
  rw [if_pos hok,this];rfl
theorem build_walk {o:Oper} {y0 y1 y2 y3:Operand} (ho:o.op = .build 141 #[(0,y0),(1,y1),(2,y2),(3,y3)]) (e:Operand→Value) (w:World) (h:∀y∈[y0,y1,y2,y3],(e y).oneCell'=true∧(e y).cells.size=1):(execOp e o).run P w = .ok (.value (.agg ([y0,y1,y2,y3].map e).toArray)) w :=
  run_build4 (z0:=.slice none 0 0) (z1:=.int .i64 0) (z2:=.int .i64 0) (z3:=.slice none 0 0) (fun w=>by kernel_rfl) (by kernel_rfl) (by kernel_rfl) ho e w h
def unionL (a b:List Int):List Int:=compactL (sortInts (a++b))
theorem sort_length (l:List Int):(sortInts l).length=l.length:=(List.mergeSort_perm l _).length_eq
theorem union_len (a b:List Int):(unionL a b).length≤a.length+b.length:=by
  have:=compact_len (sortInts (a++b))
  rw [sort_length,List.length_append] at this
  exact this
theorem walk_len (v:List Int) (low:Nat):∀s at_ n,at_+n≤s→(walkW v low at_ n).length≤at_
  | 0,at_,n,h=>by rw [zfp v (by omega)];exact Nat.zero_le _
  | s+1,at_,n,h=>by
    by_cases c:low<at_
    · by_cases d:backN v n (at_-1)<low
      · cases n with
        | zero=>rw [walkW,dif_pos c,dif_pos d];exact Nat.zero_le _
        | succ n=>rw [walk_down c d];exact walk_len v low s at_ n (by omega)
      · rw [walk_step c d,List.length_cons]
        have hb:=zfH v n (at_-1)
        have:=walk_len v low s (backN v n (at_-1)) n (by omega)
        omega
    · rw [zfp v c];exact Nat.zero_le _
theorem zed (v:List Int) (high low:Int):(followL v high low).length≤201:=by
  unfold followL
  split
  · rename_i c
    obtain ⟨_,h2,_,h4,h5,h6⟩:=zcX c
    have:=walk_len v low.toNat _ high.toNat 31 (Nat.le_refl _)
    rw [List.length_reverse,List.length_cons]
    omega
  · simp
theorem back_ok (v:List Int) (i:Nat) (n:Int) (h0:∀z,v[0]?=some z→n≤z) (h1:1≤i) (hi:i≤v.length):Tells P 135 [.val (bsl i64T) v,.val i64T (i:Int),.val i64T n] (.val i64T (backN v n (i-1):Nat)):=by
 refine zc Tryz.func135 rfl rfl rfl (fun ext w hext=>?_)
 refine ze (d:=0) rfl zl (fun hsl0=>?_)
 refine ze (d:=1) rfl zn (fun hin1=>?_)
 refine ze (d:=2) rfl zn (fun hin2=>?_)
 refine qbP ?_;refine A0 zaL ?_;refine qaH ?_;refine CB ?_;refine zi (d:=7) (y:=((i-1:Nat):Int)) rfl (by omega) ?_;refine Lp (ι:=Nat) 0 (fun (j:Nat)=>(((Fr.none).set 0 (.val (bsl i64T) v)).set 2 (.val i64T n)).set 7 (.val i64T (j:Int))) (fun (j:Nat)=>Hp.none) (fun (j:Nat)=>j≤i-1∧backN v n (i-1)=backN v n j) (fun (j:Nat)=>j) (i-1) (⟨Nat.le_refl _,rfl⟩) ?_
 intro j hinv
 refine qbi ?_;refine A0 zaG ?_;refine Sp (d:=11) (p:=0<n) (fun g11=>?_) (fun g11=>?_)
 ·
  obtain ⟨x,hx⟩:∃x,v[j]?=some x:=⟨_,List.getElem?_eq_getElem (by omega)⟩
  refine qav ?_;refine qaG ?_;refine A1 (zo (i:=j) rfl rfl rfl (by omega) zbt (by assumption)) ?_;refine A1 (zf rfl rfl ty_3) ?_;refine A1 mV ?_;refine A1 zbF ?_;refine qas ?_;refine Cf (p:=x<n) (fun ht19=>?_) (fun ht19=>?_)
  ·
   have hj0:0<j:=Nat.pos_of_ne_zero fun e=>by subst e;have:=h0 x hx;omega
   refine CS ?_;refine CB ?_;refine CR ?_;refine qbJ ?_;refine qac ?_;refine CI ?_;refine zi (d:=7) (y:=((j-1:Nat):Int)) rfl (by omega) ?_
   exact Nx (j-1) (⟨by omega,hinv.2.trans (back_go hj0 hx g11 ht19)⟩) (by omega)
  ·
   refine CE ?_;refine qbj ?_
   exact za rfl rfl (zb rfl (by rw [hinv.2,back_stop (fun y hy h=>by rw [hx] at hy;injection hy with hy;omega) (by omega)]))
 ·
  refine qby ?_;refine qab ?_;refine qas ?_;refine Cg ?_;refine CE ?_;refine qbj ?_
  exact za rfl rfl (zb rfl (by rw [hinv.2,back_stop (fun y hy h=>g11 h.1) (by omega)]))
theorem follow_ok (v:List Int) (high low:Int):Tells P 37 [.val (bsl i64T) v,.val i64T high,.val i64T low] (.tup2 (.fresh 3 i64T (followL v high low)) (.val boolT (followOk v high low))):=by
 refine zc Tryz.func37 rfl rfl rfl (fun ext w hext=>?_)
 refine ze (d:=0) rfl zl (fun hsl0=>?_)
 refine ze (d:=1) rfl zn (fun hin1=>?_)
 refine ze (d:=2) rfl zn (fun hin2=>?_)
 refine qbg ?_;refine aw_scope (ι:=Unit) 2 0 rfl rfl rfl (fun (_u:Unit)=>(((Fr.none).set 2 (.val i64T low)).set 8 (.ptr 1 0)).set 9 (.bnd 80 1)) (fun (_u:Unit)=>((Hp.none).set 0 (.row 3 i64T [high])).set 1 (.parts 141 [.val (bsl i64T) v,.val i64T (high:Int),.val i64T (31:Int),.own 0])) (fun (_u:Unit)=>followOk v high low=true) (fun (_u:Unit)=>0) ?_ (fun hreach=>?_)
 ·
  intro _u hinv
  have hok:=hinv
  obtain ⟨hv1,hv2,hv3,ho1,ho2,ho3⟩:=zcX hok
  obtain ⟨H,hH⟩:∃H:Nat,high=H:=⟨high.toNat,by omega⟩
  obtain ⟨L,hL⟩:∃L:Nat,low=L:=⟨low.toNat,by omega⟩
  subst hH
  subst hL
  refine CQ ?_;refine CB ?_;refine Lp (ι:=Nat×Nat×List Int) 2 (fun (i:Nat×Nat×List Int)=>match i with|(a,n,l)=>(((Fr.none).set 2 (.val i64T (L:Int))).set 8 (.ptr 1 0)).set 9 (.bnd 80 1)) (fun (i:Nat×Nat×List Int)=>match i with|(a,n,l)=>((Hp.none).set 0 (.row 3 i64T l)).set 1 (.parts 141 [.val (bsl i64T) v,.val i64T (a:Int),.val i64T (n:Int),.own 0])) (fun (i:Nat×Nat×List Int)=>match i with|(a,n,l)=>WalkAt v H L (a,n,l)) (fun (i:Nat×Nat×List Int)=>match i with|(a,n,l)=>a+n) ((H,31,[(H:Int)])) (⟨by show L≤H;omega,Nat.le_refl _,Nat.le_refl _,rfl,by show 1+H≤H+1;omega⟩) ?_
  intro ⟨a,n,l⟩ hinv
  dsimp only at hinv
  have hlo:=hinv.lo
  have hhi:=hinv.hi
  have hn31:=hinv.n
  have hlen:=hinv.len
  simp only at hlo hhi hn31 hlen
  have hb0:∀z,v[0]?=some z→(n:Int)≤z:=fun z hz=>by rw [hv3] at hz;injection hz with hz;omega
  refine CB ?_;refine CB ?_;refine CQR ?_;refine A0 mP ?_;refine A0 (g_nc rfl rfl) ?_;refine A0 (oFp fd_141_1) ?_;refine A0 (zr rfl rfl rfl rfl rfl ty_3) ?_;refine qav ?_;refine A0 zaW ?_;refine qac ?_;refine Cf (p:=a=L) (fun ht36=>?_) (fun ht36=>?_)
  ·
   refine CE ?_;refine CQR ?_;refine A0 mP ?_;refine A0 (g_nc rfl rfl) ?_;refine A0 (oFp fd_141_3) ?_;refine A0 (zr rfl rfl rfl rfl rfl zco) ?_;refine zfJ (revInt l (by omega)) rfl fn_81 rfl trivial trivial rfl ⟨(by first|exact za0 rfl|exact zaZ rfl|exact zaA rfl|exact za3 rfl|exact za1 rfl|exact za2 rfl|exact zaY rfl rfl (by decide)),trivial⟩ rfl rfl rfl ?_;refine CNQR ?_;refine A0 mP ?_;refine A0 (g_nc rfl rfl) ?_;refine A0 (oFp fd_141_3) ?_;refine A0 (zr rfl rfl rfl rfl rfl zco) ?_;refine qbW ?_
   exact zZ rfl rfl (zg rfl rfl (follow_end hok hinv ht36)) (zb rfl hok.symm)
  ·
   refine CQR ?_;refine A0 (g_mb (.inl rfl) rfl) ?_;refine qav ?_;refine aw_inlineb rfl rfl rfl rfl rfl Tryz.func80 fn_80 rfl rfl (fun ia2 iok2=>?_)
   refine CQR ?_;refine qb6 ?_;refine G0 mP ?_;refine G0 (g_nc rfl rfl) ?_;refine G0 (oFp fd_141_0) ?_;refine G0 (zr rfl rfl rfl rfl rfl zco) ?_;refine G0 mP ?_;refine G0 (g_nc rfl rfl) ?_;refine G0 (oFp fd_141_1) ?_;refine G0 (zr rfl rfl rfl rfl rfl ty_3) ?_;refine G0 mP ?_;refine G0 (g_nc rfl rfl) ?_;refine G0 (oFp fd_141_2) ?_;refine G0 (zr rfl rfl rfl rfl rfl ty_3) ?_;refine G0 (oCl (back_ok v a (n:Int) hb0 (by omega) (by omega)) rfl fn_135 ⟨(zd rfl),(zd rfl),(zd rfl),trivial⟩) ?_;refine qbn ?_;refine CQQR ?_;refine qal ?_;refine qaK ?_
   refine Cf (p:=backN v n (a-1)<L) (fun ht21=>?_) (fun ht21=>?_)
   ·
    obtain ⟨hn1,hwn⟩:=walk_down_at hinv ht36 ht21
    refine qay ?_;refine zaX rfl ?_;refine A0 oN ?_;refine qac ?_;refine Ct ?_;refine CR ?_;refine A0 mP ?_;refine A0 (g_nc rfl rfl) ?_;refine A0 (oFp fd_141_2) ?_;refine A0 (zr rfl rfl rfl rfl rfl ty_3) ?_;refine A0 (g_sub rfl rfl rfl (show _=(((n-1:Nat):Int):Int) from (zae (by omega)).trans (by omega))) ?_;refine A0 (g_nc rfl rfl) ?_;refine A0 (oFp fd_141_2) ?_;refine zaj rfl rfl rfl rfl rfl rfl rfl rfl rfl rfl ty_3 ?_;refine CN ?_;refine CI ?_;refine CI ?_
    exact Nx ((a,n-1,l)) (hwn) (by first|(show a+(n-1)<a+n;omega)|(show backN v n (a-1)+n<a+n;have:=zfH v n (a-1);omega))
   ·
    have hwn:=walk_step_at hinv ht36 ht21
    refine CSQR ?_;refine A0 mP ?_;refine A0 mP ?_;refine A0 (g_nc rfl rfl) ?_;refine A0 (oFp fd_141_3) ?_;refine A0 (zr rfl rfl rfl rfl rfl zco) ?_;refine qav ?_;refine A0 (zu (T:=i64T) (xs:=[_]) rfl zbt zcI ⟨rfl,rfl,trivial⟩ rfl rfl) ?_;refine zB rfl rfl rfl rfl rfl rfl rfl zcI (by simp;omega) ?_;refine A0 (g_nc rfl rfl) ?_;refine A0 (oFp fd_141_3) ?_;refine zaj rfl rfl rfl rfl rfl rfl rfl rfl rfl rfl zco ?_;refine CNQR ?_;refine A0 mP ?_;refine qav ?_;refine A0 (g_nc rfl rfl) ?_;refine A0 (oFp fd_141_1) ?_
    refine zaj rfl rfl rfl rfl rfl rfl rfl rfl rfl rfl ty_3 ?_;refine CNQR ?_;refine qac ?_;refine zaX rfl ?_;refine A0 oN ?_;refine qac ?_;refine Cg ?_;refine CS ?_;refine CI ?_;refine CI ?_;refine zaH 2 0 3 rfl rfl rfl rfl rfl rfl ?_
    exact Nx ((backN v n (a-1),n,l++[((backN v n (a-1):Nat):Int)])) (hwn) (by first|(show a+(n-1)<a+n;omega)|(show backN v n (a-1)+n<a+n;have:=zfH v n (a-1);omega))
 ·
  refine qbi ?_;refine A0 (oCl (mayV_ok v) rfl fn_79 ⟨(zd rfl),trivial⟩) ?_;refine Sp (d:=11) (p:=mayV v=true) (fun g11=>?_) (fun g11=>?_)
  ·
   refine A0 oN ?_;refine qbp ?_;refine A1 zbF ?_;refine Sp (d:=15) (p:=low<0) (fun g15=>?_) (fun g15=>?_)
   ·
    refine qaM ?_;refine qaM ?_;refine A2 ?_;refine qas ?_;refine Ct ?_;refine qbg ?_
    exact zZ rfl rfl (by rw [follow_no (show followOk v high low=false from by unfold followOk;rw [decide_eq_false (by omega),Bool.and_false])];exact zm rfl) (zb rfl (show followOk v high low=false from by unfold followOk;rw [decide_eq_false (by omega),Bool.and_false]).symm)
   ·
    refine qag ?_;refine qaG ?_;refine A1 zaG ?_;refine Sp (d:=20) (p:=high<low) (fun g20=>?_) (fun g20=>?_)
    ·
     refine qaM ?_;refine A2 ?_;refine qas ?_;refine Ct ?_;refine qbg ?_
     exact zZ rfl rfl (by rw [follow_no (show followOk v high low=false from by unfold followOk;rw [decide_eq_false (by omega),Bool.and_false])];exact zm rfl) (zb rfl (show followOk v high low=false from by unfold followOk;rw [decide_eq_false (by omega),Bool.and_false]).symm)
    ·
     refine qag ?_;refine qaG ?_;refine A1 (zK rfl rfl zb3) ?_;refine A1 zcU ?_;refine qas ?_;refine Cf (p:=(v.length:Int)≤high) (fun ht27=>?_) (fun ht27=>?_)
     ·
      refine qbg ?_
      exact zZ rfl rfl (by rw [follow_no (show followOk v high low=false from by unfold followOk;rw [decide_eq_false (by omega),Bool.and_false])];exact zm rfl) (zb rfl (show followOk v high low=false from by unfold followOk;rw [decide_eq_false (by omega),Bool.and_false]).symm)
     ·
      have hok:followOk v high low=true:=by unfold followOk;rw [g11,Bool.true_and];exact decide_eq_true (by omega)
      refine qcd ?_;refine qav ?_;refine zbI (T:=i64T) (xs:=[_]) rfl rfl rfl rfl zbt zcI ⟨rfl,rfl,trivial⟩ rfl rfl ?_;refine aw_buildbox [.tmp 28,.tmp 29,.const (.int .i64 (31)),.tmp 31] (fun e w h=>build_walk rfl e w h) rfl rfl rfl rfl rfl rfl rfl rfl rfl ?_;refine A0 aP ?_;refine CNQR ?_;refine A0 mP ?_;refine A0 (g_mkbp rfl rfl) ?_;refine A0 (g_mb (.inr rfl) rfl) ?_;refine CNQ ?_
      exact aw_reach hreach (()) rfl (hok) rfl (by (repeat refine Fr.le_set ?_ (by first|rfl|(simp;done)));exact Fr.le_none _) (by (repeat refine Hp.le_set ?_ rfl);exact Hp.le_none _) (by (repeat refine Fr.below_setB ?_ rfl);exact Fr.below_none _) (by (repeat refine Hp.below_set ?_ (by decide));exact Hp.below_none _)
  ·
   refine A0 oN ?_;refine qav ?_;refine qaE ?_;refine qaM ?_;refine qaM ?_;refine A2 ?_;refine qas ?_;refine Ct ?_;refine qbg ?_
   exact zZ rfl rfl (by rw [follow_no (show followOk v high low=false from by unfold followOk;rw [Bool.eq_false_iff.2 g11];rfl)];exact zm rfl) (zb rfl (show followOk v high low=false from by unfold followOk;rw [Bool.eq_false_iff.2 g11];rfl).symm)
theorem union_ok (a b:List Int) (h:a.length+b.length≤1000000):Tells P 82 [.val (bsl i64T) a,.val (bsl i64T) b] (.fresh 3 i64T (unionL a b)):=by
 refine zc Tryz.func82 rfl rfl rfl (fun ext w hext=>?_)
 refine ze (d:=0) rfl zl (fun hsl0=>?_)
 refine ze (d:=1) rfl zl (fun hsl1=>?_)
 refine qbc ?_;refine qal ?_;refine A0 (zu (T:=(bsl i64T)) (xs:=[_,_]) rfl sl_239 row_239 ⟨rfl,rfl,rfl,rfl,trivial⟩ rfl rfl) ?_;refine zaC (concatInt [a,b] (by simp;omega)) rfl fn_136 ⟨(zd rfl),trivial⟩ rfl rfl rfl ?_;refine A0 aO ?_;refine CNQ ?_;refine zz (n:=0) (y:=a++b) rfl (by simp) ?_;refine CR ?_;refine A0 mO ?_
 refine zfJ (sortInt_ok (a++b) (by simp;omega)) rfl fn_102 rfl trivial trivial rfl ⟨(by first|exact za0 rfl|exact zaZ rfl|exact zaA rfl|exact za3 rfl|exact za1 rfl|exact za2 rfl|exact zaY rfl rfl (by decide)),trivial⟩ rfl rfl rfl ?_;refine CNQR ?_;refine A0 mO ?_;refine aw_callc (compactInt (sortInts (a++b)) (by rw [sort_length];simp;omega)) rfl fn_137 rfl trivial ⟨(by first|exact za0 rfl|exact zaZ rfl|exact zaA rfl|exact za3 rfl|exact za1 rfl|exact za2 rfl|exact zaY rfl rfl (by decide)),trivial⟩ rfl rfl rfl ?_
 refine qbq ?_
 exact za rfl rfl (zg rfl rfl rfl)
theorem both_ok (a b:List Int) (h:a.length+b.length≤1000000):Tells P 38 [.val (bsl i64T) a,.val (bsl i64T) b] (.fresh 3 i64T (unionL a b)):=by
 refine zc Tryz.func38 rfl rfl rfl (fun ext w hext=>?_)
 refine ze (d:=0) rfl zl (fun hsl0=>?_)
 refine ze (d:=1) rfl zl (fun hsl1=>?_)
 refine qbc ?_;refine qal ?_;refine zaC (union_ok a b h) rfl fn_82 ⟨(zd rfl),(zd rfl),trivial⟩ rfl rfl rfl ?_;refine qbq ?_
 exact za rfl rfl (zg rfl rfl rfl)
set_option maxRecDepth 20000
theorem halves_parts {L : List Int} (hL : L.Pairwise (· < ·)) (y : Int) : ∀ lo hi, lo ≤ hi → hi ≤ L.length → (∀ j x, L[j]? = some x → j < lo → x < y) → (∀ j x, L[j]? = some x → hi ≤ j → y ≤ x) →
    halves (fun x=>x-y) L lo hi≤L.length∧(∀j x,L[j]?=some x→j<halves (fun x=>x-y) L lo hi→x<y)∧(∀j x,L[j]?=some x→halves (fun x=>x-y) L lo hi≤j→y≤x):=by
  intro lo hi
  induction lo,hi using halves.induct (fun x=>x-y) L with
  | case1 lo hi hlt hx =>
    intro _ h2 _ _
    rw [List.getElem?_eq_getElem (by omega)] at hx;cases hx
  | case2 lo hi hlt x hx hc ih =>
    intro h1 h2 h3 h4
    rw [halves_lt hlt hx hc]
    refine ih (by omega) h2 (fun j z hz hj=>?_) h4
    by_cases e:j=(lo+hi)/2
    · subst e;rw [hx] at hz;injection hz with hz;omega
    · have:=(zbg hL hz hx).2 (by omega);omega
  | case3 lo hi hlt x hx hc ih =>
    intro h1 h2 h3 h4
    rw [halves_ge hlt hx hc]
    refine ih (by omega) (by omega) h3 (fun j z hz hj=>?_)
    by_cases e:j=(lo+hi)/2
    · subst e;rw [hx] at hz;injection hz with hz;omega
    · have:=(zbg hL hx hz).2 (by omega);omega
  | case4 lo hi hlt =>
    intro h1 h2 h3 h4
    have e:hi=lo:=by omega
    subst e
    rw [zbG]
    exact ⟨h2,h3,h4⟩
def placeIn (L:List Int) (q:Int):Nat:=halves (fun x=>x-q) L 0 L.length
def isIn (L:List Int) (q:Int):Bool:=foundAt (fun x=>x-q) L (placeIn L q)
theorem bsPl_ok (L:List Int) (q:Int) (hl:L.length<4611686018427387904):Tells P 36 [.val (bsl i64T) L,.val i64T q] (.tup2 (.val i64T (placeIn L q:Nat)) (.val boolT (isIn L q))):=bsInt_ok L q hl
theorem placeIn_spec {L:List Int} (hL:L.Pairwise (· < ·)) (q:Int):placeIn L q≤L.length∧(∀j x,L[j]?=some x→j<placeIn L q→x<q)∧(∀j x,L[j]?=some x→placeIn L q≤j→q≤x) :=
  halves_parts hL q 0 L.length (Nat.zero_le _) (Nat.le_refl _) (fun j x _ h=>absurd h (Nat.not_lt_zero _)) (fun j x hx h=>by rw [List.getElem?_eq_none h] at hx;cases hx)
theorem isIn_iff {L:List Int} (hL:L.Pairwise (· < ·)) (q:Int):isIn L q=true↔q∈L:=by
  obtain ⟨h1,h2,h3⟩:=placeIn_spec hL q
  unfold isIn foundAt
  constructor
  · intro h
    cases hx:L[placeIn L q]? with
    | none=>rw [hx] at h;cases h
    | some x =>
      rw [hx] at h
      have h5:x-q=0:=of_decide_eq_true h
      have e:x=q:=by omega
      rw [←e];exact List.mem_of_getElem? hx
  · intro h
    obtain ⟨j,hj⟩:=List.getElem?_of_mem h
    have hnl:¬j<placeIn L q:=fun c=>by have:=h2 j q hj c;omega
    have hjl:=(List.getElem?_eq_some_iff.1 hj).1
    obtain ⟨x,hx⟩:∃x,L[placeIn L q]?=some x:=⟨_,List.getElem?_eq_getElem (by omega)⟩
    have hqx:=h3 _ x hx (Nat.le_refl _)
    have:x=q:=by
      by_cases e:placeIn L q=j
      · rw [e,hj] at hx;injection hx with hx;exact hx.symm
      · have:=(zbg hL hx hj).2 (by omega);omega
    rw [hx]
    exact decide_eq_true (show x-q=0 by omega)
def wayL (v L:List Int) (q:Int):List Int:=if isIn L q=true then L else unionL L (unionL (followL v (L.getD (placeIn L q) 0) q) (followL v q (L.getD (placeIn L q-1) 0)))
def zbO (l:List Block) (m k q:Int):List Int:=wayL (levelsOf l) (placesOf l m k) q
def wiE (l:List Block) (m k q:Int):Int:=if ¬prE l m k=0 then prE l m k else if q<0∨(l.length:Int)-k≤q then 1 else 0
def wiOf (l:List Block) (m k q:Int):Proof:=if wiE l m k q=0 then ⟨m,k,(zbO l m k q).map (prPart l)⟩ else zProof
theorem wi_no {l:List Block} {m k q:Int} (h:¬wiE l m k q=0):wiOf l m k q=zProof:=by unfold wiOf;rw [if_neg h]
section
variable {l:List Block} {m k q:Int}
theorem zei (h : BuildOk l m k) (h0 : 0 ≤ q) (h1 : q < (l.length : Int) - k) (hn : ¬ isIn (placesOf l m k) q = true) :
    ∃x y,1≤placeIn (placesOf l m k) q∧(placesOf l m k)[placeIn (placesOf l m k) q-1]?=some x∧(placesOf l m k)[placeIn (placesOf l m k) q]?=some y∧0≤x∧x<q∧q<y∧y<l.length:=by
  have hr:=zax h
  obtain ⟨p1,p2,p3⟩:=placeIn_spec hr q
  rw [isIn_iff hr] at hn
  have hf:=places_first h
  have hl:=places_last h
  have hk:=h.k1
  have hi:1≤placeIn (placesOf l m k) q:=Nat.pos_of_ne_zero fun e=>by
    have:=p3 0 0 hf (by omega)
    exact hn (by rw [show q=0 by omega];exact List.mem_of_getElem? hf)
  have hne:(placesOf l m k).length≠0:=fun e=>by rw [List.length_eq_zero_iff.1 e] at hf;cases hf
  have hi2:placeIn (placesOf l m k) q<(placesOf l m k).length:=Nat.lt_of_not_le fun c=>by
    have:=p2 _ _ hl (by omega)
    omega
  obtain ⟨x,hx⟩:∃x,(placesOf l m k)[placeIn (placesOf l m k) q-1]?=some x:=⟨_,List.getElem?_eq_getElem (by omega)⟩
  obtain ⟨y,hy⟩:∃y,(placesOf l m k)[placeIn (placesOf l m k) q]?=some y:=⟨_,List.getElem?_eq_getElem hi2⟩
  have hx1:=p2 _ x hx (by omega)
  have hy1:=p3 _ y hy (Nat.le_refl _)
  have hy2:y≠q:=fun e=>hn (by rw [←e];exact List.mem_of_getElem? hy)
  have hxm:=zbE ⟨h.k1,h.kl⟩ (List.mem_of_getElem? hx)
  have hym:=zbE ⟨h.k1,h.kl⟩ (List.mem_of_getElem? hy)
  exact ⟨x,y,hi,hx,hy,hxm.1,hx1,by omega,hym.2⟩
theorem compact_mem (L:List Int) (x:Int):x∈compactL L↔x∈L:=by
  refine snoc_indI (p:=fun L=>x∈compactL L↔x∈L) Iff.rfl (fun L y ih=>?_) L
  show x∈compactL (L++[y])↔x∈L++[y]
  rw [zdE]
  unfold cstep
  split
  · rename_i c
    rw [ih,List.mem_append,List.mem_singleton]
    refine ⟨.inl,fun h=>h.elim id fun e=>?_⟩
    rw [e,←ih] at *
    rw [compact_last] at c
    exact List.mem_of_getLast? c
  · rw [List.mem_append,ih,List.mem_append]
theorem zej {a b:List Int} {x:Int}:x∈unionL a b↔x∈a∨x∈b:=by
  unfold unionL
  rw [compact_mem,zfu,List.mem_append]
theorem compact_rising (L:List Int) (h:L.Pairwise fun a b=>a≤b):(compactL L).Pairwise (· < ·):=by
  revert h
  refine snoc_indI (p:=fun L=>(L.Pairwise fun a b=>a≤b)→(compactL L).Pairwise (· < ·)) (fun _=>List.Pairwise.nil) (fun L y ih h=>?_) L
  rw [List.pairwise_append] at h
  have hi:=ih h.1
  rw [zdE]
  unfold cstep
  split
  · exact hi
  · rename_i c
    rw [List.pairwise_append]
    refine ⟨hi,List.pairwise_singleton ..,fun a ha b hb=>?_⟩
    rw [List.mem_singleton] at hb
    subst hb
    have h1:=h.2.2 a ((compact_mem L a).1 ha) b (List.mem_singleton.2 rfl)
    have hne:compactL L≠[]:=fun e=>by rw [e] at ha;cases ha
    obtain ⟨z,hz⟩:∃z,(compactL L).getLast?=some z:=⟨_,List.getLast?_eq_some_getLast hne⟩
    have hzm:z∈L:=(compact_mem L z).1 (List.mem_of_getLast? hz)
    have h2:=h.2.2 z hzm b (List.mem_singleton.2 rfl)
    have hzb:z≠b:=fun e=>c (by rw [hz,e])
    have h3:a≤z:=by
      obtain ⟨i,hi'⟩:=List.getElem?_of_mem ha
      rw [List.getLast?_eq_getElem?] at hz
      have hil:=(List.getElem?_eq_some_iff.1 hi').1
      by_cases e:i=(compactL L).length-1
      · rw [←e,hi'] at hz;injection hz with hz;omega
      · have:=(zbg hi hi' hz).2 (by omega);omega
    omega
theorem union_rising (a b:List Int):(unionL a b).Pairwise (· < ·):=compact_rising _ (zft _)
theorem walk_mem (v:List Int) (low:Nat):∀s at_ n,at_+n≤s→low≤at_→∀x∈walkW v low at_ n,(low:Int)≤x∧x<at_
  | 0,at_,n,h,_,x,hx=>by rw [zfp v (by omega)] at hx;cases hx
  | s+1,at_,n,h,hlo,x,hx=>by
    by_cases c:low<at_
    · by_cases d:backN v n (at_-1)<low
      · cases n with
        | zero=>rw [walkW,dif_pos c,dif_pos d] at hx;cases hx
        | succ n=>rw [walk_down c d] at hx;exact walk_mem v low s at_ n (by omega) hlo x hx
      · rw [walk_step c d] at hx
        have hb:=zfH v n (at_-1)
        rcases List.mem_cons.1 hx with e|hx
        · rw [e];omega
        · have:=walk_mem v low s (backN v n (at_-1)) n (by omega) (by omega) x hx;omega
    · rw [zfp v c] at hx;cases hx
theorem follow_mem {v:List Int} {high low x:Int} (h:x∈followL v high low):low≤x∧x≤high:=by
  unfold followL at h
  split at h
  · rename_i c
    obtain ⟨_,h2,_,h4,h5,h6⟩:=zcX c
    rw [List.mem_reverse] at h
    rcases List.mem_cons.1 h with e|h
    · rw [e];omega
    · have:=walk_mem v low.toNat _ high.toNat 31 (Nat.le_refl _) (by omega) x h;omega
  · cases h
theorem follow_high {v:List Int} {high low:Int} (h:followOk v high low=true):high∈followL v high low:=by
  unfold followL
  rw [if_pos h,List.mem_reverse]
  exact List.mem_cons_self ..
theorem way_len (L:List Int) (v:List Int) (q:Int):(wayL v L q).length≤L.length+402:=by
  unfold wayL
  split
  · omega
  · have h1:=union_len L (unionL (followL v (L.getD (placeIn L q) 0) q) (followL v q (L.getD (placeIn L q-1) 0)))
    have h2:=union_len (followL v (L.getD (placeIn L q) 0) q) (followL v q (L.getD (placeIn L q-1) 0))
    have h3:=zed v (L.getD (placeIn L q) 0) q
    have h4:=zed v q (L.getD (placeIn L q-1) 0)
    omega
theorem with_mem (h:BuildOk l m k) (h0:0≤q) (h1:q<(l.length:Int)-k) {x:Int} (hx:x∈zbO l m k q):0≤x∧x<l.length:=by
  unfold zbO wayL at hx
  split at hx
  · exact zbE ⟨h.k1,h.kl⟩ hx
  · rename_i c
    obtain ⟨a,b,hi,ha,hb,h2,h3,h4,h5⟩:=zei h h0 h1 c
    rw [List.getD_eq_getElem?_getD,List.getD_eq_getElem?_getD,ha,hb,zej,zej] at hx
    rcases hx with hx|hx|hx
    · exact zbE ⟨h.k1,h.kl⟩ hx
    · have:q≤x∧x≤b:=follow_mem hx;omega
    · have:a≤x∧x≤q:=follow_mem hx;omega
theorem zfo (h:BuildOk l m k):(zbO l m k q).Pairwise (· < ·):=by
  unfold zbO wayL
  split
  · exact zax h
  · exact union_rising ..
theorem with_all {x:Int} (hx:x∈placesOf l m k):x∈zbO l m k q:=by
  unfold zbO wayL
  split
  · exact hx
  · exact zej.2 (.inl hx)
theorem with_it (h:BuildOk l m k) (h0:0≤q) (h1:q<(l.length:Int)-k):q∈zbO l m k q:=by
  unfold zbO wayL
  split
  · rename_i c
    exact (isIn_iff (zax h) q).1 c
  · rename_i c
    obtain ⟨a,b,hi,ha,hb,h2,h3,h4,h5⟩:=zei h h0 h1 c
    rw [List.getD_eq_getElem?_getD,List.getD_eq_getElem?_getD,ha,hb]
    refine zej.2 (.inr (zej.2 (.inr (follow_high ?_))))
    unfold followOk
    rw [chain_mayV (zd8 h.c),decide_eq_true];rfl
    have hk:=h.k1
    show 0≤a∧a≤q∧q<((levelsOf l).length:Int)
    rw [zaM];omega
end
def proverB:GoT (List Block×Int×Int×List Int×List Int):=pairT (bsl blockT) (pairT i64T (pairT i64T (pairT (sl i64T) (sl i64T))))
theorem join_prover {l:List Block} {m k:Int} {v p:List Int}:JoinOk proverB (l,m,k,v,p) [.val (bsl blockT) l,.val i64T m,.val i64T k,.val (sl i64T) v] i64T p:=zen (zen (zen (zen join_last)))
theorem split_proverB {l:List Block} {m k:Int} {v p:List Int}:SplitOk proverB (l,m,k,v,p) [.val (bsl blockT) l,.val i64T m,.val i64T k,.val (sl i64T) v,.val (sl i64T) p]:=zbD zbP (zbD zbP (zbD zbP (zbD zbP zbP)))
theorem prWith_ok (l:List Block) (m k q:Int) (hl:smallC l):Tells P 16 [.val (bsl blockT) l,.val i64T m,.val i64T k,.val i64T q] (.tup2 (.val proofT (wiOf l m k q)) (.val i64T (wiE l m k q))):=by
 have hll:=hl.1
 refine zc Tryz.func16 rfl rfl rfl (fun ext w hext=>?_)
 refine ze (d:=0) rfl zl (fun hsl0=>?_)
 refine ze (d:=1) rfl zn (fun hin1=>?_)
 refine ze (d:=2) rfl zn (fun hin2=>?_)
 refine ze (d:=3) rfl zn (fun hin3=>?_)
 refine CQR ?_;refine zw zcR rfl rfl rfl rfl ?_;refine qae ?_;refine qal ?_;refine z6 rfl rfl rfl rfl Tryz.func31 fn_31 rfl rfl (fun ia1 iok1=>?_)
 refine qaq ?_;refine qaj ?_;refine A0 (oCl (check_ok l hl) rfl fn_26 ⟨(zd rfl),trivial⟩) ?_;refine A0 mX ?_;refine A0 (by first|exact zO rfl rfl|exact zM rfl rfl) ?_;refine A0 (by first|exact zR rfl rfl|exact zQ rfl rfl) ?_;refine qbw ?_;refine qa7 ?_;refine qae ?_;refine qaO ?_;refine zp (p:=¬(checkOf l).2=0) rfl (by simp [IntL.toI]) (fun ht18=>?_) (fun ht18=>?_)
 ·
  refine qa2 ?_;refine A0 aL ?_;refine qac ?_;refine zb1 rfl ?_;refine A0 (by first|exact zdA (.inl rfl) rfl|exact zdz (.inl rfl) rfl) ?_;refine A0 (by first|exact zO rfl rfl|exact zM rfl rfl) ?_;refine A0 (by first|exact zR rfl rfl|exact zQ rfl rfl) ?_;refine qax ?_;refine aw_if_t rfl (by simp;exact ht18) ?_;refine CQR ?_;refine A0 (zD rfl zcR zdT .nil rfl) ?_;refine qbr ?_
  exact zC rfl rfl (zJ rfl rfl zaE (by rw [wi_no (by unfold wiE prE;rw [if_pos ht18,if_pos ht18];exact ht18)])) (zai (zb rfl (by unfold wiE prE;rw [if_pos ht18,if_pos ht18])))
 ·
  refine qb2 ?_;refine A0 zbF ?_;refine qav ?_;refine Sp (d:=22) (p:=m<1) (fun g22=>?_) (fun g22=>?_)
  ·
   refine qaE ?_;refine qag ?_;refine qaE ?_;refine qag ?_;refine A2 ?_;refine qaz ?_;refine qas ?_;refine Ct ?_;refine qbg ?_;refine zb1 rfl ?_;refine A0 (by first|exact zdA (.inl rfl) rfl|exact zdz (.inl rfl) rfl) ?_;refine A0 (by first|exact zO rfl rfl|exact zM rfl rfl) ?_;refine A0 (by first|exact zR rfl rfl|exact zQ rfl rfl) ?_;refine qax ?_;refine Ct ?_;refine CQR ?_;refine A0 (zD rfl zcR zdT .nil rfl) ?_;refine qbr ?_
   exact zC rfl rfl (zJ rfl rfl zaE (by rw [wi_no (by rw [show wiE l m k q=1 by unfold wiE;rw [if_pos (by unfold prE;rw [if_neg (by omega),if_pos (by omega)];decide)];unfold prE;rw [if_neg (by omega),if_pos (by omega)]];decide)])) (zai (zb rfl ((show wiE l m k q=1 by unfold wiE;rw [if_pos (by unfold prE;rw [if_neg (by omega),if_pos (by omega)];decide)];unfold prE;rw [if_neg (by omega),if_pos (by omega)]).symm)))
  ·
   refine A1 mV ?_;refine A1 zaG ?_;refine qag ?_;refine Sp (d:=26) (p:=20<m) (fun g26=>?_) (fun g26=>?_)
   ·
    refine qaE ?_;refine qag ?_;refine A2 ?_;refine qaz ?_;refine qas ?_;refine Ct ?_;refine qbg ?_;refine zb1 rfl ?_;refine A0 (by first|exact zdA (.inl rfl) rfl|exact zdz (.inl rfl) rfl) ?_;refine A0 (by first|exact zO rfl rfl|exact zM rfl rfl) ?_;refine A0 (by first|exact zR rfl rfl|exact zQ rfl rfl) ?_;refine qax ?_;refine Ct ?_;refine CQR ?_;refine A0 (zD rfl zcR zdT .nil rfl) ?_;refine qbr ?_
    exact zC rfl rfl (zJ rfl rfl zaE (by rw [wi_no (by rw [show wiE l m k q=1 by unfold wiE;rw [if_pos (by unfold prE;rw [if_neg (by omega),if_pos (by omega)];decide)];unfold prE;rw [if_neg (by omega),if_pos (by omega)]];decide)])) (zai (zb rfl ((show wiE l m k q=1 by unfold wiE;rw [if_pos (by unfold prE;rw [if_neg (by omega),if_pos (by omega)];decide)];unfold prE;rw [if_neg (by omega),if_pos (by omega)]).symm)))
   ·
    refine A1 mV ?_;refine A1 zbF ?_;refine qag ?_;refine Sp (d:=30) (p:=k<1) (fun g30=>?_) (fun g30=>?_)
    ·
     refine A2 ?_;refine qaz ?_;refine qas ?_;refine Ct ?_;refine qbg ?_;refine zb1 rfl ?_;refine A0 (by first|exact zdA (.inl rfl) rfl|exact zdz (.inl rfl) rfl) ?_;refine A0 (by first|exact zO rfl rfl|exact zM rfl rfl) ?_;refine A0 (by first|exact zR rfl rfl|exact zQ rfl rfl) ?_;refine qax ?_;refine Ct ?_;refine CQR ?_;refine A0 (zD rfl zcR zdT .nil rfl) ?_;refine qbr ?_
     exact zC rfl rfl (zJ rfl rfl zaE (by rw [wi_no (by rw [show wiE l m k q=1 by unfold wiE;rw [if_pos (by unfold prE;rw [if_neg (by omega),if_pos (by omega)];decide)];unfold prE;rw [if_neg (by omega),if_pos (by omega)]];decide)])) (zai (zb rfl ((show wiE l m k q=1 by unfold wiE;rw [if_pos (by unfold prE;rw [if_neg (by omega),if_pos (by omega)];decide)];unfold prE;rw [if_neg (by omega),if_pos (by omega)]).symm)))
    ·
     refine A1 mV ?_;refine A1 zaG ?_;refine qag ?_;refine Sp (d:=34) (p:=20<k) (fun g34=>?_) (fun g34=>?_)
     ·
      refine qab ?_;refine A2 ?_;refine qas ?_;refine Ct ?_;refine qbg ?_;refine zb1 rfl ?_;refine A0 (by first|exact zdA (.inl rfl) rfl|exact zdz (.inl rfl) rfl) ?_;refine A0 (by first|exact zO rfl rfl|exact zM rfl rfl) ?_;refine A0 (by first|exact zR rfl rfl|exact zQ rfl rfl) ?_;refine qax ?_;refine Ct ?_;refine CQR ?_;refine A0 (zD rfl zcR zdT .nil rfl) ?_;refine qbr ?_
      exact zC rfl rfl (zJ rfl rfl zaE (by rw [wi_no (by rw [show wiE l m k q=1 by unfold wiE;rw [if_pos (by unfold prE;rw [if_neg (by omega),if_pos (by omega)];decide)];unfold prE;rw [if_neg (by omega),if_pos (by omega)]];decide)])) (zai (zb rfl ((show wiE l m k q=1 by unfold wiE;rw [if_pos (by unfold prE;rw [if_neg (by omega),if_pos (by omega)];decide)];unfold prE;rw [if_neg (by omega),if_pos (by omega)]).symm)))
     ·
      refine A1 mV ?_;refine A1 (zK rfl rfl zdf) ?_;refine A1 mV ?_;refine A1 zcP ?_;refine qas ?_;refine Cf (p:=l.length≤k) (fun ht39=>?_) (fun ht39=>?_)
      ·
       refine qbg ?_;refine zb1 rfl ?_;refine A0 (by first|exact zdA (.inl rfl) rfl|exact zdz (.inl rfl) rfl) ?_;refine A0 (by first|exact zO rfl rfl|exact zM rfl rfl) ?_;refine A0 (by first|exact zR rfl rfl|exact zQ rfl rfl) ?_;refine qax ?_;refine Ct ?_;refine CQR ?_;refine A0 (zD rfl zcR zdT .nil rfl) ?_;refine qbr ?_
       exact zC rfl rfl (zJ rfl rfl zaE (by rw [wi_no (by rw [show wiE l m k q=1 by unfold wiE;rw [if_pos (by unfold prE;rw [if_neg (by omega),if_pos (by omega)];decide)];unfold prE;rw [if_neg (by omega),if_pos (by omega)]];decide)])) (zai (zb rfl ((show wiE l m k q=1 by unfold wiE;rw [if_pos (by unfold prE;rw [if_neg (by omega),if_pos (by omega)];decide)];unfold prE;rw [if_neg (by omega),if_pos (by omega)]).symm)))
      ·
       have hpl:=zfx (levelsOf l) m k
       refine qcd ?_;refine qal ?_;refine A0 (oCl (zq (levels_ok l (by omega))) rfl fn_25 ⟨(zd rfl),trivial⟩) ?_;refine A0 (zD rfl zn_prover bd_82 (.cons fd_82_0 (Lens.fst _ _) ty_22 rfl (.cons fd_82_1 ((Lens.snd _ _).comp (Lens.fst _ _)) ty_3 rfl (.cons fd_82_2 ((Lens.snd _ _).comp ((Lens.snd _ _).comp (Lens.fst _ _))) ty_3 rfl (.cons fd_82_3 ((Lens.snd _ _).comp ((Lens.snd _ _).comp ((Lens.snd _ _).comp (Lens.fst _ _)))) zco rfl .nil)))) rfl) ?_;refine aw_box rfl rfl rfl rfl rfl ?_;refine A0 aP ?_;refine CN ?_;refine zdI 2 (x:=(l,m,k,levelsOf l,())) split_prover rfl ?_
       refine zcH 2 3 i64T [.val (bsl blockT) l,.val i64T m,.val i64T k,.val (sl i64T) (levelsOf l)] rfl (by intro x hx;simp only [List.mem_cons,List.not_mem_nil,or_false] at hx;rcases hx with rfl|rfl|rfl|rfl<;>trivial) ?_;refine CQR ?_;refine A0 mP ?_;refine A0 mP ?_;refine A0 (g_nc rfl rfl) ?_;refine A0 (oFp fd_82_3) ?_;refine A0 (zr rfl rfl rfl rfl rfl zco) ?_;refine qal ?_;refine aw_callf2 (prefix_ok (levelsOf l) m k) rfl fn_24 ⟨(zd rfl),(zd rfl),(zd rfl),trivial⟩ flat_bool rfl rfl rfl ?_;refine A0 (by first|exact zdA (.inl rfl) rfl|exact zdz (.inl rfl) rfl) ?_
       refine A0 (by first|exact zO rfl rfl|exact zM rfl rfl) ?_;refine A0 (by first|exact zR rfl rfl|exact zQ rfl rfl) ?_;refine A0 (g_nc rfl rfl) ?_;refine A0 (oFp zcY) ?_;refine zaj rfl rfl rfl rfl rfl rfl rfl rfl rfl rfl zco ?_;refine CNQQR ?_;refine qal ?_;refine CNB ?_;refine zz (n:=4) (y:=(prefixOf (levelsOf l) m k).1++(List.range 0).map fun j:Nat=>(l.length:Int)-k+(j:Int)) rfl (by simp) ?_
       refine Lp (ι:=Nat) 5 (fun (i:Nat)=>(((((Fr.none).set 0 (.val (bsl blockT) l)).set 2 (.val i64T k)).set 10 (.ptr 2 0)).set 60 (.val i64T k)).set 61 (.val i64T (i:Int))) (fun (i:Nat)=>(((Hp.none).set 0 (.box 25 proofT zProof)).set 2 (.parts 82 ([.val (bsl blockT) l,.val i64T m,.val i64T k,.val (sl i64T) (levelsOf l)]++[.own 4]))).set 4 (.row 3 i64T ((prefixOf (levelsOf l) m k).1++(List.range i).map fun j:Nat=>(l.length:Int)-k+(j:Int)))) (fun (i:Nat)=>(i:Int)≤k) (fun (i:Nat)=>k.toNat-i) (0) (by simp;omega) ?_
       intro i hi
       refine qak ?_;refine Cf (p:=(i:Int)<k) (fun ht62=>?_) (fun ht62=>?_)
       ·
        refine qaQ ?_;refine qbN ?_;refine A0 mP ?_;refine A0 mP ?_;refine A0 (g_nc rfl rfl) ?_;refine A0 (oFp zcY) ?_;refine A0 (zr rfl rfl rfl rfl rfl zco) ?_;refine qav ?_;refine A0 (zK rfl rfl zdf) ?_;refine qbJ ?_;refine qbd ?_;refine A0 (zu (T:=i64T) (xs:=[_]) rfl zbt zcI ⟨rfl,rfl,trivial⟩ rfl rfl) ?_;refine zB rfl rfl rfl rfl rfl rfl rfl zcI (by simp;omega) ?_;refine A0 (g_nc rfl rfl) ?_;refine A0 (oFp zcY) ?_;refine zaj rfl rfl rfl rfl rfl rfl rfl rfl rfl rfl zco ?_;refine qaW ?_;refine zaH 5 4 6 rfl rfl rfl rfl rfl rfl ?_
        refine zz (n:=4) (y:=(prefixOf (levelsOf l) m k).1++(List.range (i+1)).map fun j:Nat=>(l.length:Int)-k+(j:Int)) rfl (by rw [List.range_succ,List.map_append];simp) ?_
        exact Nx (i+1) (by omega) (by omega)
       ·
        refine CE ?_;refine CQ ?_
        obtain ⟨PL,hPL⟩:∃PL,PL=placesOf l m k:=⟨_,rfl⟩
        refine zz (n:=4) (y:=PL) rfl (by rw [hPL];unfold placesOf;rw [show k.toNat=i by omega]) ?_
        have hpm:∀x∈PL,0≤x∧x<l.length:=fun x hx=>zbE (by omega) (hPL▸hx)
        have hpn:PL.length≤220:=hPL▸places_length (by omega)
        refine CR ?_;refine A0 mP ?_;refine A0 aP ?_;refine qac ?_;refine zb1 rfl ?_;refine A0 (by first|exact zdA (.inl rfl) rfl|exact zdz (.inl rfl) rfl) ?_;refine A0 (by first|exact zO rfl rfl|exact zM rfl rfl) ?_;refine A0 (by first|exact zR rfl rfl|exact zQ rfl rfl) ?_;refine A0 aP ?_;refine A0 aX ?_;refine CNQQR ?_;refine A0 mX ?_;refine qaO ?_;refine Cg ?_;refine CS ?_;refine CQ ?_;refine CQ ?_
        have hpe:prE l m k=0:=by unfold prE;rw [if_neg (by omega),if_neg (by omega)]
        have hbo:=zbp hpe
        refine CR ?_;refine qav ?_;refine A0 zbF ?_;refine Sp (d:=30) (p:=q<0) (fun g30=>?_) (fun g30=>?_)
        ·
         refine qby ?_;refine qab ?_;refine qas ?_;refine Ct ?_;refine CQR ?_;refine A0 (zD rfl zcR zdT .nil rfl) ?_;refine qai ?_;refine qac ?_
         exact zC rfl rfl (zJ rfl rfl zaE (by rw [wi_no (by rw [show wiE l m k q=1 by unfold wiE;rw [if_neg (fun h=>h hpe),if_pos (by omega)]];decide)])) (zai (zb rfl ((show wiE l m k q=1 by unfold wiE;rw [if_neg (fun h=>h hpe),if_pos (by omega)]).symm)))
        ·
         refine qav ?_;refine qaG ?_;refine A1 (zK rfl rfl zdf) ?_;refine A1 mV ?_;refine A1 zaL ?_;refine A1 zcU ?_;refine qas ?_;refine Cf (p:=(l.length:Int)-k≤q) (fun ht38=>?_) (fun ht38=>?_)
         ·
          refine CQR ?_;refine A0 (zD rfl zcR zdT .nil rfl) ?_;refine qai ?_;refine qac ?_
          exact zC rfl rfl (zJ rfl rfl zaE (by rw [wi_no (by rw [show wiE l m k q=1 by unfold wiE;rw [if_neg (fun h=>h hpe),if_pos (by omega)]];decide)])) (zai (zb rfl ((show wiE l m k q=1 by unfold wiE;rw [if_neg (fun h=>h hpe),if_pos (by omega)]).symm)))
         ·
          refine CS ?_;refine CQ ?_;refine aw_joinb 2 4 [.val (bsl blockT) l,.val i64T m,.val i64T k,.val (sl i64T) (levelsOf l)] (z:=(l,m,k,levelsOf l,PL)) (R:=proverB) rfl rfl rfl join_prover ?_;refine zdI 2 (x:=(l,m,k,levelsOf l,PL)) split_proverB rfl ?_;refine CR ?_;refine A0 mP ?_;refine A0 (g_nc rfl rfl) ?_;refine A0 (oFp zcY) ?_;refine A0 (zr rfl rfl rfl rfl rfl zco) ?_;refine qav ?_;refine A0 (oCl (bsPl_ok PL q (by omega)) rfl fn_36 ⟨(zd rfl),(zd rfl),trivial⟩) ?_;refine A0 mX ?_;refine A0 (by first|exact zO rfl rfl|exact zM rfl rfl) ?_
          refine A0 (by first|exact zR rfl rfl|exact zQ rfl rfl) ?_;refine A0 aV ?_;refine qaj ?_;refine qaR ?_;refine zp (p:=¬isIn PL q=true) rfl (by simp) (fun ht50=>?_) (fun ht50=>?_)
          ·
           refine CQ ?_
           have hyl2:placeIn (placesOf l m k) q<(placesOf l m k).length:=Nat.lt_of_not_le fun c=>by obtain ⟨_,_,_,_,h,_⟩:=zei hbo (by omega) (by omega) (hPL▸ht50);rw [List.getElem?_eq_none c] at h;cases h
           rw [←hPL] at hyl2
           obtain ⟨x,y,hi1,hx,hy,hx0,hxq,hqy,hyl⟩:=zei hbo (by omega) (by omega) (hPL▸ht50)
           rw [←hPL] at hi1 hx hy
           refine CD mixed ?_;refine G0 mP ?_;refine G0 (g_nc rfl rfl) ?_;refine G0 (oFp fd_82_3) ?_;refine G0 (zr rfl rfl rfl rfl rfl zco) ?_;refine G0 mP ?_;refine G0 (g_nc rfl rfl) ?_;refine G0 (oFp zcY) ?_;refine G0 (zr rfl rfl rfl rfl rfl zco) ?_;refine G0 mV ?_;refine G0 (zo (i:=placeIn PL q) rfl rfl rfl (by omega) zbt (by assumption)) ?_;refine G0 (zf rfl rfl ty_3) ?_;refine G0 mV ?_
           refine G0 (oCl (zce (follow_ok (levelsOf l) y q)) rfl fn_37 ⟨(zd rfl),(by first|exact zy rfl|exact zW rfl|exact zF rfl rfl|exact zU rfl|exact zs rfl|exact zag rfl rfl|exact zV rfl),(zd rfl),trivial⟩) ?_;refine G0 mX ?_;refine G0 (by first|exact zO rfl rfl|exact zM rfl rfl) ?_;refine G0 (by first|exact zR rfl rfl|exact zQ rfl rfl) ?_;refine G0 aV ?_;refine qbn ?_;refine qaU ?_;refine G0 mP ?_;refine G0 (g_nc rfl rfl) ?_;refine G0 (oFp fd_82_3) ?_;refine G0 (zr rfl rfl rfl rfl rfl zco) ?_;refine G0 mV ?_;refine G0 mP ?_
           refine G0 (g_nc rfl rfl) ?_;refine G0 (oFp zcY) ?_;refine G0 (zr rfl rfl rfl rfl rfl zco) ?_;refine G0 mV ?_;refine G0 (g_sub rfl rfl rfl (show _=(((placeIn PL q-1:Nat):Int):Int) from (zae (by omega)).trans (by omega))) ?_;refine G0 (zo (i:=placeIn PL q-1) rfl rfl rfl (by omega) zbt (by assumption)) ?_;refine G0 (zf rfl rfl ty_3) ?_
           refine G0 (oCl (zce (follow_ok (levelsOf l) q x)) rfl fn_37 ⟨(zd rfl),(zd rfl),(by first|exact zy rfl|exact zW rfl|exact zF rfl rfl|exact zU rfl|exact zs rfl|exact zag rfl rfl|exact zV rfl),trivial⟩) ?_;refine G0 mX ?_;refine G0 (by first|exact zO rfl rfl|exact zM rfl rfl) ?_;refine G0 (by first|exact zR rfl rfl|exact zQ rfl rfl) ?_;refine G0 aV ?_;refine qbn ?_;refine zE [some 1,some 1,some 1,some 1,some 1,some 1,some 1,some 1,some 1,some 1,some 1,none] mixed (by decide +kernel) ?_;refine X0 mP ?_;refine X0 mP ?_
           refine X0 (g_nc rfl rfl) ?_;refine X0 (oFp zcY) ?_;refine X0 (zr rfl rfl rfl rfl rfl zco) ?_;refine qcb ?_;refine X0 (oCl (zq (both_ok (followL (levelsOf l) y q) (followL (levelsOf l) q x) (by have h1:=zed (levelsOf l) y q;have h2:=zed (levelsOf l) q x;omega))) rfl fn_38 ⟨(zd rfl),(zd rfl),trivial⟩) ?_
           refine X0 (oCl (zq (both_ok PL (unionL (followL (levelsOf l) y q) (followL (levelsOf l) q x)) (by have h1:=zed (levelsOf l) y q;have h2:=zed (levelsOf l) q x;have h3:=union_len (followL (levelsOf l) y q) (followL (levelsOf l) q x);omega))) rfl fn_38 ⟨(zd rfl),(zd rfl),trivial⟩) ?_;refine X0 (g_nc rfl rfl) ?_;refine X0 (oFp zcY) ?_;refine XK.e (x:=.idk) (fun fr' hfr kk H=>by exact zaj rfl rfl rfl ((hfr 94 (by decide +kernel)).trans rfl) rfl rfl ((hfr 92 (by decide +kernel)).trans rfl) rfl rfl rfl zco (zH H)) ?_;refine XK.nil' ?_;refine CQ ?_
           obtain ⟨WL,hWL⟩:∃WL,WL=zbO l m k q:=⟨_,rfl⟩
           have hwe:wiE l m k q=0:=by unfold wiE;rw [if_neg (fun h=>h hpe),if_neg (by omega)]
           have hwm:∀x∈WL,0≤x∧x<l.length:=fun x hx=>with_mem hbo (by omega) (by omega) (hWL▸hx)
           have hwn:WL.length≤622:=by rw [hWL];unfold zbO;have h1:=way_len (placesOf l m k) (levelsOf l) q;have h2:=hpn;rw [hPL] at h2;omega
           first|refine aw_reparts 2 [.val (bsl blockT) l,.val i64T m,.val i64T k,.val (sl i64T) (levelsOf l),.val (sl i64T) WL] rfl (by show [_,_,_,_,AV.val (sl i64T) _]=_;congr 5;rw [hWL];unfold zbO wayL;rw [←hPL,if_neg ht50,List.getD_eq_getElem?_getD,List.getD_eq_getElem?_getD,hx,hy];rfl) ?_|refine aw_reparts 2 [.val (bsl blockT) l,.val i64T m,.val i64T k,.val (sl i64T) (levelsOf l),.val (sl i64T) WL] rfl (by congr 5;rw [hWL];unfold zbO wayL;rw [←hPL,if_pos (Classical.not_not.1 ht50)]) ?_
           refine CR ?_;refine A0 mP ?_;refine z6 rfl rfl rfl rfl Tryz.func32 fn_32 rfl rfl (fun ia3 iok3=>?_)
           refine CQR ?_;refine zw zcR rfl rfl rfl rfl ?_;refine CNQ ?_;refine zE [some 1000001,some 1000001,some 1000001,some 1000001,some 1000001,some 1000001,some 1000001,some 1000001,some 1000001,none,none] mixed (by decide +kernel) ?_;refine XK.ga (fun _=>g_mp (.inl rfl) rfl) rfl rfl rfl ?_;refine XK.ga (fun _=>g_nc rfl rfl) rfl rfl rfl ?_;refine XK.ga (fun _=>g_fa_p rfl rfl fd_82_1 rfl) rfl rfl rfl ?_;refine XK.gf (t:=8) rfl rfl (fun _ he=>zr rfl rfl he rfl rfl ty_3) ⟨rfl,trivial⟩ rfl rfl rfl ?_;refine XK.ga (fun _=>g_mp (.inl rfl) rfl) rfl rfl rfl ?_
           refine XK.ga (fun _=>g_nc rfl rfl) rfl rfl rfl ?_;refine XK.ga (fun _=>g_fa_p rfl rfl fd_82_2 rfl) rfl rfl rfl ?_;refine XK.gf (t:=12) rfl rfl (fun _ he=>zr rfl rfl he rfl rfl ty_3) ⟨rfl,trivial⟩ rfl rfl rfl ?_;refine XK.ga (fun _=>zD rfl zn_proof zdT (.cons zcG (Lens.fst _ _) ty_3 rfl (.cons zb6 ((Lens.snd _ _).comp (Lens.fst _ _)) ty_3 rfl .nil)) rfl) rfl rfl rfl ?_;refine XK.e (fun fr' hfr kk H=>by exact zw zn_proof rfl rfl rfl rfl (zH H)) ?_
           refine XK.e (x:=.idk) (fun fr' hfr kk H=>by exact zh rfl rfl rfl ((hfr 3 (by decide +kernel)).trans rfl) rfl (Lens.self _) zaE ((hfr 14 (by decide +kernel)).trans rfl) (zH H)) ?_;refine XK.nilp ⟨⟨rfl,rfl,trivial⟩,⟨rfl,rfl,trivial⟩,trivial⟩ ?_;refine zdI 6 (x:=(m,k,())) zfr rfl ?_;refine zcH 6 55 partT [.val i64T m,.val i64T k] rfl (by intro x hx;simp only [List.mem_cons,List.not_mem_nil,or_false] at hx;rcases hx with rfl|rfl<;>trivial) ?_;refine CQQR ?_;refine A0 mP ?_;refine A0 (g_nc rfl rfl) ?_;refine A0 (oFp zcY) ?_
           refine A0 (zr rfl rfl rfl rfl rfl zco) ?_;refine qbL ?_;refine qaA ?_
           refine Lp (ι:=Nat) 8 (fun (i:Nat)=>((((((Fr.none).set 0 (.ptr 2 0)).set 2 (.ptr 5 0)).set 3 (.ptr 6 0)).set 18 (.val (sl i64T) WL)).set 19 (.val i64T (WL.length:Int))).set 20 (.val i64T (i:Int))) (fun (i:Nat)=>(((((Hp.none).set 0 (.box 25 proofT zProof)).set 2 (.parts 82 ([.val (bsl blockT) l,.val i64T m,.val i64T k,.val (sl i64T) (levelsOf l)]++[.val (sl i64T) WL]))).set 5 (.box 25 proofT zProof)).set 6 (.parts 25 [.val i64T m,.val i64T k,.own 7])).set 7 (.row 55 partT ((WL.take i).map (prPart l)))) (fun (i:Nat)=>i≤WL.length) (fun (i:Nat)=>WL.length-i) (0) (Nat.zero_le _) ?_
           intro i hi2
           refine qak ?_;refine Cf (p:=i<WL.length) (fun ht21=>?_) (fun ht21=>?_)
           ·
            obtain ⟨x,hx⟩:∃x,WL[i]?=some x:=⟨_,List.getElem?_eq_getElem ht21⟩
            have hxb:=hwm x (List.mem_of_getElem? hx)
            obtain ⟨b,hb⟩:∃b,l[x.toNat]?=some b:=⟨_,List.getElem?_eq_getElem (by omega)⟩
            refine CSQBQR ?_;refine A0 (zo (i:=i) rfl rfl rfl (by omega) zbt (by assumption)) ?_;refine qbT ?_;refine qaI ?_;refine zE [some 1,some 1,some 1,some 1,some 1,some 1,some 1,some 1,some 1,some 1,some 1,some 1,some 1,some 1,some 1,some 1,some 1,some 1,some 1,some 1,some 1,none,some 1,none] mixed (by decide +kernel) ?_;refine X0 (oFp zaq) ?_;refine X0 (zr rfl rfl rfl rfl rfl zcd) ?_;refine X0 mP ?_;refine X0 (g_nc rfl rfl) ?_;refine X0 (oFp fd_82_0) ?_;refine X0 (zr rfl rfl rfl rfl rfl ty_22) ?_;refine X0 mX ?_
            refine X0 (zo (i:=x.toNat) rfl rfl rfl (by omega) zda (by assumption)) ?_;refine X0 (oFr zar zah) ?_;refine X0 (zf rfl rfl zal) ?_;refine X0 mP ?_;refine X0 (g_nc rfl rfl) ?_;refine X0 (oFp fd_82_0) ?_;refine X0 (zr rfl rfl rfl rfl rfl ty_22) ?_;refine X0 mX ?_;refine X0 (zo (i:=x.toNat) rfl rfl rfl (by omega) zda (by assumption)) ?_;refine X0 (oFr zbH zbq) ?_;refine X0 (zf rfl rfl zbc) ?_
            refine X0 (oCl (zq (cloneId b.l (by have:=(hl.2 b (List.mem_of_getElem? hb)).1;constructor<;>omega))) rfl fn_74 ⟨(by first|exact zy rfl|exact zW rfl|exact zF rfl rfl|exact zU rfl|exact zs rfl|exact zag rfl rfl|exact zV rfl),trivial⟩) ?_;refine X0 (zD rfl ze_55 bd_55 (.cons za6 zaO zal rfl (.cons zbv zbA zbc rfl .nil)) rfl) ?_;refine X0 (zu (T:=partT) (xs:=[_]) rfl zaP row_23 ⟨rfl,rfl,trivial⟩ rfl rfl) ?_
            refine XK.e (fun fr' hfr kk H=>by exact zB rfl rfl rfl rfl ((hfr 25 (by decide +kernel)).trans rfl) rfl ((hfr 44 (by decide +kernel)).trans rfl) row_23 (by simp;omega) (zH H)) ?_;refine X0 (oFp zaq) ?_;refine XK.e (x:=.idk) (fun fr' hfr kk H=>by exact zaj rfl rfl rfl ((hfr 46 (by decide +kernel)).trans rfl) rfl rfl ((hfr 45 (by decide +kernel)).trans rfl) rfl rfl rfl zcd (zH H)) ?_;refine qaL ?_;refine zaH 8 7 9 rfl rfl rfl rfl rfl rfl ?_
            refine zz (n:=7) (y:=(WL.take (i+1)).map (prPart l)) rfl (by rw [List.take_add_one,hx,List.map_append];simp [prPart,hb]) ?_
            exact Nx (i+1) (by omega) (by omega)
           ·
            refine CE ?_;refine CQ ?_;refine zz (n:=7) (y:=WL.map (prPart l)) rfl (by rw [List.take_of_length_le (by omega)]) ?_;refine aw_joinb 6 7 [.val i64T m,.val i64T k] (z:=(⟨m,k,WL.map (prPart l)⟩:Proof)) (R:=proofT) rfl rfl rfl join_proof ?_;refine CR ?_;refine A0 (oLs rfl rfl rfl zaE) ?_;refine qai ?_;refine CN ?_;refine zdM rfl rfl rfl zaE ?_;refine qai ?_;refine qac ?_
            exact zC rfl rfl (zJ rfl rfl zaE (by unfold wiOf;rw [if_pos hwe,hWL])) (zai (zb rfl (hwe.symm)))
          ·
           refine CS ?_;refine CQ ?_
           obtain ⟨WL,hWL⟩:∃WL,WL=zbO l m k q:=⟨_,rfl⟩
           have hwe:wiE l m k q=0:=by unfold wiE;rw [if_neg (fun h=>h hpe),if_neg (by omega)]
           have hwm:∀x∈WL,0≤x∧x<l.length:=fun x hx=>with_mem hbo (by omega) (by omega) (hWL▸hx)
           have hwn:WL.length≤622:=by rw [hWL];unfold zbO;have h1:=way_len (placesOf l m k) (levelsOf l) q;have h2:=hpn;rw [hPL] at h2;omega
           first|refine aw_reparts 2 [.val (bsl blockT) l,.val i64T m,.val i64T k,.val (sl i64T) (levelsOf l),.val (sl i64T) WL] rfl (by show [_,_,_,_,AV.val (sl i64T) _]=_;congr 5;rw [hWL];unfold zbO wayL;rw [←hPL,if_neg ht50,List.getD_eq_getElem?_getD,List.getD_eq_getElem?_getD,hx,hy];rfl) ?_|refine aw_reparts 2 [.val (bsl blockT) l,.val i64T m,.val i64T k,.val (sl i64T) (levelsOf l),.val (sl i64T) WL] rfl (by congr 5;rw [hWL];unfold zbO wayL;rw [←hPL,if_pos (Classical.not_not.1 ht50)]) ?_
           refine CR ?_;refine A0 mP ?_;refine z6 rfl rfl rfl rfl Tryz.func32 fn_32 rfl rfl (fun ia5 iok5=>?_)
           refine CQR ?_;refine zw zcR rfl rfl rfl rfl ?_;refine CNQ ?_;refine zE [some 1000001,some 1000001,some 1000001,some 1000001,some 1000001,some 1000001,some 1000001,some 1000001,some 1000001,none,none] mixed (by decide +kernel) ?_;refine XK.ga (fun _=>g_mp (.inl rfl) rfl) rfl rfl rfl ?_;refine XK.ga (fun _=>g_nc rfl rfl) rfl rfl rfl ?_;refine XK.ga (fun _=>g_fa_p rfl rfl fd_82_1 rfl) rfl rfl rfl ?_;refine XK.gf (t:=8) rfl rfl (fun _ he=>zr rfl rfl he rfl rfl ty_3) ⟨rfl,trivial⟩ rfl rfl rfl ?_;refine XK.ga (fun _=>g_mp (.inl rfl) rfl) rfl rfl rfl ?_
           refine XK.ga (fun _=>g_nc rfl rfl) rfl rfl rfl ?_;refine XK.ga (fun _=>g_fa_p rfl rfl fd_82_2 rfl) rfl rfl rfl ?_;refine XK.gf (t:=12) rfl rfl (fun _ he=>zr rfl rfl he rfl rfl ty_3) ⟨rfl,trivial⟩ rfl rfl rfl ?_;refine XK.ga (fun _=>zD rfl zn_proof zdT (.cons zcG (Lens.fst _ _) ty_3 rfl (.cons zb6 ((Lens.snd _ _).comp (Lens.fst _ _)) ty_3 rfl .nil)) rfl) rfl rfl rfl ?_;refine XK.e (fun fr' hfr kk H=>by exact zw zn_proof rfl rfl rfl rfl (zH H)) ?_
           refine XK.e (x:=.idk) (fun fr' hfr kk H=>by exact zh rfl rfl rfl ((hfr 3 (by decide +kernel)).trans rfl) rfl (Lens.self _) zaE ((hfr 14 (by decide +kernel)).trans rfl) (zH H)) ?_;refine XK.nilp ⟨⟨rfl,rfl,trivial⟩,⟨rfl,rfl,trivial⟩,trivial⟩ ?_;refine zdI 6 (x:=(m,k,())) zfr rfl ?_;refine zcH 6 55 partT [.val i64T m,.val i64T k] rfl (by intro x hx;simp only [List.mem_cons,List.not_mem_nil,or_false] at hx;rcases hx with rfl|rfl<;>trivial) ?_;refine CQQR ?_;refine A0 mP ?_;refine A0 (g_nc rfl rfl) ?_;refine A0 (oFp zcY) ?_
           refine A0 (zr rfl rfl rfl rfl rfl zco) ?_;refine qbL ?_;refine qaA ?_
           refine Lp (ι:=Nat) 8 (fun (i:Nat)=>((((((Fr.none).set 0 (.ptr 2 0)).set 2 (.ptr 5 0)).set 3 (.ptr 6 0)).set 18 (.val (sl i64T) WL)).set 19 (.val i64T (WL.length:Int))).set 20 (.val i64T (i:Int))) (fun (i:Nat)=>(((((Hp.none).set 0 (.box 25 proofT zProof)).set 2 (.parts 82 ([.val (bsl blockT) l,.val i64T m,.val i64T k,.val (sl i64T) (levelsOf l)]++[.val (sl i64T) WL]))).set 5 (.box 25 proofT zProof)).set 6 (.parts 25 [.val i64T m,.val i64T k,.own 7])).set 7 (.row 55 partT ((WL.take i).map (prPart l)))) (fun (i:Nat)=>i≤WL.length) (fun (i:Nat)=>WL.length-i) (0) (Nat.zero_le _) ?_
           intro i hi2
           refine qak ?_;refine Cf (p:=i<WL.length) (fun ht21=>?_) (fun ht21=>?_)
           ·
            obtain ⟨x,hx⟩:∃x,WL[i]?=some x:=⟨_,List.getElem?_eq_getElem ht21⟩
            have hxb:=hwm x (List.mem_of_getElem? hx)
            obtain ⟨b,hb⟩:∃b,l[x.toNat]?=some b:=⟨_,List.getElem?_eq_getElem (by omega)⟩
            refine CSQBQR ?_;refine A0 (zo (i:=i) rfl rfl rfl (by omega) zbt (by assumption)) ?_;refine qbT ?_;refine qaI ?_;refine zE [some 1,some 1,some 1,some 1,some 1,some 1,some 1,some 1,some 1,some 1,some 1,some 1,some 1,some 1,some 1,some 1,some 1,some 1,some 1,some 1,some 1,none,some 1,none] mixed (by decide +kernel) ?_;refine X0 (oFp zaq) ?_;refine X0 (zr rfl rfl rfl rfl rfl zcd) ?_;refine X0 mP ?_;refine X0 (g_nc rfl rfl) ?_;refine X0 (oFp fd_82_0) ?_;refine X0 (zr rfl rfl rfl rfl rfl ty_22) ?_;refine X0 mX ?_
            refine X0 (zo (i:=x.toNat) rfl rfl rfl (by omega) zda (by assumption)) ?_;refine X0 (oFr zar zah) ?_;refine X0 (zf rfl rfl zal) ?_;refine X0 mP ?_;refine X0 (g_nc rfl rfl) ?_;refine X0 (oFp fd_82_0) ?_;refine X0 (zr rfl rfl rfl rfl rfl ty_22) ?_;refine X0 mX ?_;refine X0 (zo (i:=x.toNat) rfl rfl rfl (by omega) zda (by assumption)) ?_;refine X0 (oFr zbH zbq) ?_;refine X0 (zf rfl rfl zbc) ?_
            refine X0 (oCl (zq (cloneId b.l (by have:=(hl.2 b (List.mem_of_getElem? hb)).1;constructor<;>omega))) rfl fn_74 ⟨(by first|exact zy rfl|exact zW rfl|exact zF rfl rfl|exact zU rfl|exact zs rfl|exact zag rfl rfl|exact zV rfl),trivial⟩) ?_;refine X0 (zD rfl ze_55 bd_55 (.cons za6 zaO zal rfl (.cons zbv zbA zbc rfl .nil)) rfl) ?_;refine X0 (zu (T:=partT) (xs:=[_]) rfl zaP row_23 ⟨rfl,rfl,trivial⟩ rfl rfl) ?_
            refine XK.e (fun fr' hfr kk H=>by exact zB rfl rfl rfl rfl ((hfr 25 (by decide +kernel)).trans rfl) rfl ((hfr 44 (by decide +kernel)).trans rfl) row_23 (by simp;omega) (zH H)) ?_;refine X0 (oFp zaq) ?_;refine XK.e (x:=.idk) (fun fr' hfr kk H=>by exact zaj rfl rfl rfl ((hfr 46 (by decide +kernel)).trans rfl) rfl rfl ((hfr 45 (by decide +kernel)).trans rfl) rfl rfl rfl zcd (zH H)) ?_;refine qaL ?_;refine zaH 8 7 9 rfl rfl rfl rfl rfl rfl ?_
            refine zz (n:=7) (y:=(WL.take (i+1)).map (prPart l)) rfl (by rw [List.take_add_one,hx,List.map_append];simp [prPart,hb]) ?_
            exact Nx (i+1) (by omega) (by omega)
           ·
            refine CE ?_;refine CQ ?_;refine zz (n:=7) (y:=WL.map (prPart l)) rfl (by rw [List.take_of_length_le (by omega)]) ?_;refine aw_joinb 6 7 [.val i64T m,.val i64T k] (z:=(⟨m,k,WL.map (prPart l)⟩:Proof)) (R:=proofT) rfl rfl rfl join_proof ?_;refine CR ?_;refine A0 (oLs rfl rfl rfl zaE) ?_;refine qai ?_;refine CN ?_;refine zdM rfl rfl rfl zaE ?_;refine qai ?_;refine qac ?_
            exact zC rfl rfl (zJ rfl rfl zaE (by unfold wiOf;rw [if_pos hwe,hWL])) (zai (zb rfl (hwe.symm)))
end Go.Proofs.YtjjlfapfjjkomaaGreat
