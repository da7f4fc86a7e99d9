/- Parts of the proof: the layer that reads Go values as data, and what the functions of the program tell. -/
import Derived.Test.YtikaeepohlkjdaaGreatK5
set_option linter.unusedVariables false
set_option linter.unusedSimpArgs false
set_option maxRecDepth 20000
namespace Go.Proofs.YtikaeepohlkjdaaGreat
open Go.Ab Go.RowKit
def sortI_ren:Go.Shelf.Ren:=⟨fun|189=>217|125=>169|257=>268|128=>223|129=>224|294=>314|295=>315|296=>316|297=>317|298=>318|299=>319|216=>162|300=>320|301=>321|328=>354|329=>355|330=>356|331=>357|332=>358|215=>212|343=>380|n=>n,fun|28=>24|3=>3|46=>234|0=>0|51=>53|53=>50|4=>4|183=>384|182=>383|131=>167|5=>5|9=>9|218=>403|222=>407|228=>418|229=>126|n=>n,fun|n=>n⟩
theorem sortI:Go.Proofs.Lays.n189 P sortI_ren:={
  mixed:=by kernel_rfl,
  f125:=Tryz.func169.trans (congrArg some yo),
  f128:=Tryz.func223.trans (congrArg some yo),
  f129:=Tryz.func224.trans (congrArg some yo),
  f189:=Tryz.func217.trans (congrArg some yo),
  f215:=Tryz.func212.trans (congrArg some yo),
  f216:=Tryz.func162.trans (congrArg some yo),
  f257:=Tryz.func268.trans (congrArg some yo),
  f294:=Tryz.func314.trans (congrArg some yo),
  f295:=Tryz.func315.trans (congrArg some yo),
  f296:=Tryz.func316.trans (congrArg some yo),
  f297:=Tryz.func317.trans (congrArg some yo),
  f298:=Tryz.func318.trans (congrArg some yo),
  f299:=Tryz.func319.trans (congrArg some yo),
  f300:=Tryz.func320.trans (congrArg some yo),
  f301:=Tryz.func321.trans (congrArg some yo),
  f328:=Tryz.func354.trans (congrArg some yo),
  f329:=Tryz.func355.trans (congrArg some yo),
  f330:=Tryz.func356.trans (congrArg some yo),
  f331:=Tryz.func357.trans (congrArg some yo),
  f332:=Tryz.func358.trans (congrArg some yo),
  f343:=Tryz.func380.trans (congrArg some yo),
  t0:=Tryz.underlying0,
  a0:=Tryz.isAgg0,
  z0:=Tryz.sizeOf0,
  v0:=Tryz.zeroValue0,
  t3:=Tryz.underlying3,
  a3:=Tryz.isAgg3,
  z3:=Tryz.sizeOf3,
  v3:=Tryz.zeroValue3,
  t4:=Tryz.underlying4,
  a4:=Tryz.isAgg4,
  z4:=Tryz.sizeOf4,
  v4:=Tryz.zeroValue4,
  t5:=Tryz.underlying5,
  a5:=Tryz.isAgg5,
  z5:=Tryz.sizeOf5,
  v5:=Tryz.zeroValue5,
  t9:=Tryz.underlying9,
  a9:=Tryz.isAgg9,
  z9:=Tryz.sizeOf9,
  v9:=Tryz.zeroValue9,
  t28:=Tryz.underlying24,
  a28:=Tryz.isAgg24,
  z28:=Tryz.sizeOf24,
  v28:=Tryz.zeroValue24,
  t46:=Tryz.underlying234,
  a46:=Tryz.isAgg234,
  z46:=Tryz.sizeOf234,
  v46:=Tryz.zeroValue234,
  t51:=Tryz.underlying53,
  a51:=Tryz.isAgg53,
  z51:=Tryz.sizeOf53,
  v51:=Tryz.zeroValue53,
  t53:=Tryz.underlying50,
  a53:=Tryz.isAgg50,
  z53:=Tryz.sizeOf50,
  v53:=Tryz.zeroValue50,
  t131:=Tryz.underlying167,
  a131:=Tryz.isAgg167,
  z131:=Tryz.sizeOf167,
  v131:=Tryz.zeroValue167,
  t182:=Tryz.underlying383,
  a182:=Tryz.isAgg383,
  z182:=Tryz.sizeOf383,
  v182:=Tryz.zeroValue383,
  t183:=Tryz.underlying384,
  a183:=Tryz.isAgg384,
  z183:=Tryz.sizeOf384,
  v183:=Tryz.zeroValue384,
  t218:=Tryz.underlying403,
  a218:=Tryz.isAgg403,
  z218:=Tryz.sizeOf403,
  v218:=Tryz.zeroValue403,
  t222:=Tryz.underlying407,
  a222:=Tryz.isAgg407,
  z222:=Tryz.sizeOf407,
  v222:=Tryz.zeroValue407,
  t228:=Tryz.underlying418,
  a228:=Tryz.isAgg418,
  z228:=Tryz.sizeOf418,
  v228:=Tryz.zeroValue418,
  t229:=Tryz.underlying126,
  a229:=Tryz.isAgg126,
  z229:=Tryz.sizeOf126,
  v229:=Tryz.zeroValue126 }
theorem sortInt_ok (l:List Int) (hn:l.length<1000000000):ze7 P 217 (.row 3 i64T l) [.own 0] (.lit (.tuple #[])) (.row 3 i64T (zbw l)):=ztE sortI hn
def mayV (v:List Int):Bool:=decide (0<v.length∧v.length≤200∧v[0]?=some 31) && !(v.any fun n=>decide (n<0∨31<n))
def mayP (v:List Int) (m k:Int):Bool:=mayV v&&decide (1≤m∧1≤k∧k<v.length)
def upR (v:List Int) (n:Int) (a i:Nat):List Int:=((List.range' a (i-a)).filter fun j:Nat=>decide (n≤v.getD j 0)).map fun j:Nat=>(j:Int)
def upOf (v:List Int) (a b n:Int):List Int:=upR v n (max a 0).toNat (min b v.length).toNat
theorem zoP (v:List Int) (n:Int) (a i:Nat):(upR v n a i).length≤i-a:=by
  unfold upR;rw[List.length_map];exact Nat.le_trans (List.length_filter_le _ _) yA
theorem up_length (v:List Int) (a b n:Int):(upOf v a b n).length≤v.length:=Nat.le_trans (zoP ..) ya
theorem zuM (v:List Int) (n:Int) (a:Nat):upR v n a a=[]:=by unfold upR;simp
theorem zuL {v:List Int} {n x:Int} {a i:Nat} (hx:v[i]?=some x) (ha:a≤i):upR v n a (i+1)=upR v n a i++(if n≤x then [(i:Int)] else []):=by
  unfold upR;rw[show i+1-a=(i-a)+1 by omega,List.range'_1_concat,show a+(i-a)=i by omega,List.filter_append,List.map_append];congr 1
  have:v.getD i 0=x:=by simp[hx]
  by_cases c:n≤x<;>simp[c,hx]
theorem upR_yes {v:List Int} {n x:Int} {a i:Nat} (hx:v[i]?=some x) (ha:a≤i) (h:n≤x):upR v n a (i+1)=upR v n a i++[(i:Int)]:=by rw[zuL hx ha,ut h]
theorem upR_no {v:List Int} {n x:Int} {a i:Nat} (hx:v[i]?=some x) (ha:a≤i) (h:¬n≤x):upR v n a (i+1)=upR v n a i:=by rw[zuL hx ha,ur h,List.append_nil]
theorem zrs {v:List Int} {n:Int} {a i:Nat} (h:i≤a):upR v n a i=[]:=by unfold upR;rw[show i-a=0 by omega];rfl
theorem upOf_end {v:List Int} {a b n:Int} {i:Nat} (h1:(max a 0).toNat≤i) (h2:(i:Int)≤min b v.length∨i=(max a 0).toNat) (h3:¬(i:Int)<min b v.length):upR v n (max a 0).toNat i=upOf v a b n:=by
  unfold upOf;by_cases c:(i:Int)=min b v.length
  · rw[show(min b v.length).toNat=i by omega]
  rw[zrs ya,zrs ya]
theorem mem_upR {v:List Int} {n:Int} {a i:Nat} {x:Int}:x∈upR v n a i↔∃j:Nat,x=j∧a≤j∧j<i∧n≤v.getD j 0:=by
  unfold upR;simp only[List.mem_map,List.mem_filter,List.mem_range'_1,uj]
  constructor
  · rintro ⟨j,⟨h1,h2⟩,rfl⟩;exact⟨j,rfl,h1.1,by omega,h2⟩
  rintro ⟨j,rfl,h1,h2,h3⟩;exact⟨j,⟨⟨h1,by omega⟩,h3⟩,rfl⟩
theorem mem_up {v:List Int} {a b n x:Int}:x∈upOf v a b n↔∃j:Nat,x=j∧a≤j∧(j:Int)<b∧j<v.length∧n≤v.getD j 0:=by
  unfold upOf;rw[mem_upR]
  constructor
  · rintro ⟨j,rfl,h1,h2,h3⟩;exact⟨j,rfl,by omega,by omega,by omega,h3⟩
  rintro ⟨j,rfl,h1,h2,h3,h4⟩;exact⟨j,rfl,by omega,by omega,h4⟩
def zbj (v:List Int) (m k:Int):Nat→Int×List Int
  | 0=>(0,[])
  | i+1 =>
    (if m<(upOf v (zbj v m k i).1 ((v.length:Int)-k) (31-(i:Int))).length then (upOf v (zbj v m k i).1 ((v.length:Int)-k) (31-(i:Int))).getD ((upOf v (zbj v m k i).1 ((v.length:Int)-k) (31-(i:Int))).length-m.toNat) 0 else (zbj v m k i).1,
      (upOf v (zbj v m k i).1 ((v.length:Int)-k) (31-(i:Int))).foldl zdW (zbj v m k i).2)
def zbo (v:List Int) (m k:Int):List Int×Bool:=if mayP v m k=true then (zbw (zbj v m k 32).2,true) else ([],false)
theorem ziZ {v L:List Int} {m k c:Int} {i:Nat} (hL:L=upOf v (zbj v m k i).1 ((v.length:Int)-k) (31-(i:Int))) (hc:L[L.length-m.toNat]?=some c) (h:m<L.length):c=(zbj v m k (i+1)).1:=by
  show c=if _ then _ else _
  rw[←hL,ut h];simp[hc]
theorem zkj {v L:List Int} {m k:Int} {i:Nat} (hL:L=upOf v (zbj v m k i).1 ((v.length:Int)-k) (31-(i:Int))) (h:¬m<L.length):(zbj v m k i).1=(zbj v m k (i+1)).1:=by
  show _=if _ then _ else _
  rw[←hL,ur h]
theorem znB:∀(L K:List Int) (x:Int),x∈L.foldl zdW K↔x∈K∨x∈L
  | [],K,x=>by simp
  | y::L,K,x=>by rw[List.foldl_cons,znB L,mem_setAdd,List.mem_cons];exact⟨fun h=>by rcases h with (h|h)|h<;>simp[h],fun h=>by rcases h with h|h|h<;>simp[h]⟩
theorem zpo:∀(L K:List Int),K.Nodup→(L.foldl zdW K).Nodup
  | [],K,h=>h
  | y::L,K,h=>zpo L _ (zrN h)
theorem zjY {v:List Int} {m k:Int} (h:mayP v m k=true):mayV v=true∧1≤m∧1≤k∧k<v.length:=by
  unfold mayP at h;rw[uk,uj] at h;exact h
theorem mayV_spec {v:List Int} (h:mayV v=true):0<v.length∧v.length≤200∧v[0]?=some 31∧∀n∈v,0≤n∧n≤31:=by
  unfold mayV at h;rw[uk,uj,Bool.not_eq_true',List.any_eq_false] at h;refine⟨h.1.1,h.1.2.1,h.1.2.2,fun n hn=>?_⟩
  have:=h.2 n hn
  rw[uj] at this;omega
theorem zmc {v:List Int} {m k:Int} (h:mayP v m k=true):1≤m∧1≤k∧k<v.length∧v.length≤200:=⟨(zjY h).2.1,(zjY h).2.2.1,(zjY h).2.2.2,(mayV_spec (zjY h).1).2.1⟩
theorem zml {v:List Int} {m k:Int} (h:mayP v m k=true):∀i:Nat,i≤32→(0≤(zbj v m k i).1∧(zbj v m k i).1<v.length)∧(zbj v m k i).2.Nodup∧∀x∈(zbj v m k i).2,0≤x∧x<(v.length:Int)-k
  | 0,_=>by
    have:=zmc h
    exact⟨⟨Int.le_refl _,by show(0:Int)<_;omega⟩,List.nodup_nil,fun x hx=>by cases hx⟩
  | i+1,hi=>by
    obtain⟨h1,h2,h3⟩:=zml h i ya;have hl:=zmc h;obtain⟨L,hL⟩:∃L,L=upOf v (zbj v m k i).1 ((v.length:Int)-k) (31-(i:Int)):=⟨_,rfl⟩;have hm:∀x∈L,0≤x∧x<(v.length:Int)-k:=fun x hx=>by
      rw[hL] at hx;obtain⟨j,rfl,_,h5,_⟩:=mem_up.1 hx;omega
    refine⟨?_,?_,?_⟩
    · by_cases c:m<L.length
      · obtain⟨z,hz⟩:∃z,L[L.length-m.toNat]?=some z:=yB
        rw[←ziZ hL hz c]
        have:=hm z (ud hz)
        omega
      rw[←zkj hL c];exact h1
    · show(List.foldl zdW _ _).Nodup
      exact zpo _ _ h2
    intro x hx;have hx:x∈(upOf v (zbj v m k i).1 ((v.length:Int)-k) (31-(i:Int))).foldl zdW (zbj v m k i).2:=hx;rw[←hL,znB] at hx;exact hx.elim (h3 x) (hm x)
theorem zpr {α:Type} (p:α→Bool):∀l:List α,l.length=(l.filter p).length+(l.filter fun x=>!p x).length
  | []=>rfl
  | x::l=>by
    have:=zpr p l
    cases h:p x<;>simp[h,this]<;>omega
theorem zma:∀{n:Nat} {l:List Nat},l.Nodup→(∀i∈l,i<n)→l.length≤n
  | 0,[],_,_=>ug _
  | 0,x::l,_,h=>absurd (h x (List.mem_cons_self ..)) (Nat.not_lt_zero _)
  | n+1,l,hd,h=>by
    have h1:(l.filter fun i=>decide (i≠n)).length≤n:=zma (hd.sublist List.filter_sublist) (fun i hi=>by
      rw[List.mem_filter] at hi
      have:=h i hi.1
      have:=of_decide_eq_true hi.2
      omega)
    have h2:(l.filter fun i=>!decide (i≠n)).length≤1:=by
      have hs:(l.filter fun i=>!decide (i≠n)).Nodup:=hd.sublist List.filter_sublist
      match hf:l.filter (fun i=>!decide (i≠n)) with
      | []=>simp
      | [_]=>simp
      | a::b::_ =>
        rw[hf] at hs;have ha:a∈l.filter fun i=>!decide (i≠n):=by rw[hf];simp
        have hb:b∈l.filter fun i=>!decide (i≠n):=by rw[hf];simp
        simp only[List.mem_filter,Bool.not_eq_true',decide_eq_false_iff_not,Decidable.not_not] at ha hb;simp[ha.2,hb.2] at hs
    have h3:=zpr (fun i=>decide (i≠n)) l;omega
theorem seen_step {K:List Int} {seen:List Nat} {i:Nat} {v:Int} (hs:seen.Nodup∧∀i∈seen,i<K.length) (hv:K[i]?=some v) (hi:i∉seen) :
    ((seen++[i]).Nodup∧∀j∈seen++[i],j<K.length)∧K.length-(seen++[i]).length<K.length-seen.length∧seen.length<K.length:=by
  have h1:(seen++[i]).Nodup∧∀j∈seen++[i],j<K.length:=⟨List.nodup_append.2 ⟨hs.1,by simp,fun a ha b hb=>by simp at hb;subst hb;exact fun e=>hi (e▸ha)⟩,fun j hj=>by
    rcases List.mem_append.1 hj with h|h
    · exact hs.2 j h
    simp at h;subst h;exact(ul.1 hv).1⟩
  have h2:=zma h1.1 h1.2;simp only[ue,List.length_cons,List.length_nil] at h2;exact⟨h1,by simp;omega,by omega⟩
theorem seen_all {K:List Int} {seen:List Nat} (hs:seen.Nodup∧∀i∈seen,i<K.length) (h:∀i,i<K.length→i∈seen):(seen.map fun i=>K.getD i 0).Perm K:=by
  have h1:seen.Perm (List.range K.length):=(List.perm_ext_iff_of_nodup hs.1 List.nodup_range).2 fun i=>by rw[List.mem_range];exact⟨hs.2 i,h i⟩
  refine(h1.map _).trans ?_
  have:(List.range K.length).map (fun i=>K.getD i 0)=K:=by
    apply List.ext_getElem?;intro i;rw[List.getElem?_map];by_cases c:i<K.length
    · rw[List.getElem?_range c,ub c];simp[c]
    rw[List.getElem?_eq_none ybD,List.getElem?_eq_none ya];rfl
  rw[this]
theorem sort_mem {l:List Int} {x:Int}:x∈zbw l↔x∈l:=(List.mergeSort_perm l _).mem_iff
theorem zmI (l:List Int):(zbw l).Pairwise fun a b=>a≤b:=by
  have:=List.pairwise_mergeSort (le:=fun x y:Int=>decide (x≤y)) (fun a b c h1 h2=>by simp at *;omega) (fun a b=>by simp;omega) l
  exact this.imp fun h=>of_decide_eq_true h
theorem sort_perm {l r:List Int} (h:l.Perm r):zbw l=zbw r :=
  (((List.mergeSort_perm l _).trans h).trans (List.mergeSort_perm r _).symm).eq_of_pairwise (fun a b _ _ h1 h2=>Int.le_antisymm h1 h2) (zmI l) (zmI r)
theorem zlB {v K:List Int} {m k a:Int} (h:(0≤a∧a<v.length)∧K.Nodup∧∀x∈K,0≤x∧x<(v.length:Int)-k) (hl:1≤m∧1≤k∧k<v.length∧v.length≤200):K.length≤200:=by
  have h1:(K.map Int.toNat).length≤v.length:=zma (by
    rw[List.Nodup,List.pairwise_map];exact h.2.1.imp_of_mem fun {a b} ha hb hne=>by
      have:=h.2.2 a ha
      have:=h.2.2 b hb
      omega) (fun i hi=>by
    obtain⟨x,hx,rfl⟩:=List.mem_map.1 hi
    have:=h.2.2 x hx
    omega)
  rw[List.length_map] at h1;omega
theorem zsC (l:List Int) (p:Int→Bool):Tells P 198 [.val (bsl i64T) l,.fn1 P i64T zl p] (.val i64T (idx p l)):=by
 refine zd Tryz.func198 rfl rfl rfl (fun ext w hext=>?_);refine ze (d:=0) rfl zm (fun hsl0=>?_);refine qcQ ?_;refine qb5 ?_;refine qaH ?_;refine Lp (ι:=Nat) 0 (fun (k:Nat)=>(((((Fr.none).set 0 (.val (bsl i64T) l)).set 1 (.fn1 P i64T zl p)).set 6 (.val (bsl i64T) l)).set 7 (.val i64T (l.length:Int))).set 8 (.val i64T (k:Int))) (fun (k:Nat)=>Hp.none) (fun (k:Nat)=>k≤l.length∧idx p l=shift k (idx p (l.drop k))) (fun (k:Nat)=>l.length-k) (0) (⟨uf _,zdM p l⟩) ?_;intro k hinv;refine qar ?_;refine Cf (p:=k<l.length) (fun ht9=>?_) (fun ht9=>?_)
 ·
  obtain⟨x,hx⟩:∃x,l[k]?=some x:=ybi;refine qaR ?_;refine qaj ?_;refine A0 mF ?_;refine qav ?_;refine qcc ?_;refine qbp ?_;refine zn (p:=p x=true) rfl yA (fun ht16=>?_) (fun ht16=>?_)
  ·
   refine qb4 ?_;exact zb rfl rfl (za rfl (hinv.2.trans (zhO hx ht16)).symm)
  refine qbq ?_;exact Nx (k+1) (⟨by omega,hinv.2.trans (zlt hx ht16)⟩) ya
 refine qcM ?_;exact zb rfl rfl (za rfl (hinv.2.trans (zhP ya)).symm)
theorem znQ (l:List Int) (p:Int→Bool):Tells P 214 [.val (bsl i64T) l,.fn1 P i64T zl p] (.val zl (l.any p)):=by
 refine zd Tryz.func214 rfl rfl rfl (fun ext w hext=>?_);refine ze (d:=0) rfl zm (fun hsl0=>?_);refine CQR ?_;refine qaL ?_;refine A0 mF ?_;refine A0 (oCl (zsC _ _) rfl fn_198 ⟨yn,(zaF rfl rfl),trivial⟩) ?_;refine A0 zfb ?_;refine qae ?_;exact zb rfl rfl (za rfl (zhQ p l))
theorem mayN_ok (n:Int):Tells P 213 [.val i64T n] (.val zl (decide (n<0∨31<n))):=by
 refine zd Tryz.func213 rfl rfl rfl (fun ext w hext=>?_);refine ze (d:=0) rfl zu (fun hin0=>?_);refine CQR ?_;refine qaL ?_;refine A0 zcy ?_;refine qa7 ?_;refine Sp (d:=5) (p:=n<0) (fun g5=>?_) (fun g5=>?_)
 ·
  refine qda ?_;exact zb rfl rfl (za rfl ((ui (.inl g5)).symm))
 refine qcV ?_;refine A1 zbH ?_;refine qa6 ?_;exact zb rfl rfl (za rfl ybr)
theorem mayV_ok (v:List Int):Tells P 164 [.val (bsl i64T) v] (.val zl (mayV v)):=by
 refine zd Tryz.func164 rfl rfl rfl (fun ext w hext=>?_);refine ze (d:=0) rfl zm (fun hsl0=>?_);refine CQR ?_;refine qaj ?_;refine A0 aC ?_;refine CNQR ?_;refine qa7 ?_;refine qb5 ?_;refine A0 zbH ?_;refine qa7 ?_;refine Sp (d:=7) (p:=0<v.length) (fun g7=>?_) (fun g7=>?_)
 ·
  refine qcV ?_;refine A1 (zN rfl rfl zgu) ?_;refine A1 zgV ?_;refine qaf ?_;refine Sp (d:=12) (p:=v.length≤200) (fun g12=>?_) (fun g12=>?_)
  ·
   obtain⟨x,hx⟩:∃x,v[0]?=some x:=⟨_,ub g7⟩;refine qcV ?_;refine A1 (zV (i:=0) rfl rfl rfl ya zcj yj) ?_;refine A1 (zf rfl rfl ty_3) ?_;refine A1 zaH ?_;refine qaf ?_;refine Sp (d:=18) (p:=x=31) (fun g18=>?_) (fun g18=>?_)
   ·
    refine qcV ?_;refine A1 mC ?_;refine A1 (oCl (znQ v (fun n=>decide (n<0∨31<n))) rfl fn_214 ⟨yn,(by first|exact zdI (Cs:=[]) rfl fn_213 yF trivial rfl (fun x=>mayN_ok x)|exact zdH (Cs:=[]) rfl fn_213 yF trivial rfl (fun x y=>mayN_ok x)|exact zdJ rfl),trivial⟩) ?_;refine A1 oN ?_;refine qa6 ?_;exact zb rfl rfl (za rfl ((by unfold mayV;rw[ui ⟨g7,g12,by rw[hx,g18]⟩];rfl)))
   refine qaa ?_;refine A2 ?_;refine qa6 ?_;exact zb rfl rfl (za rfl ((by unfold mayV;rw[uh (fun h=>g18 (by have:=h.2.2;rw[hx] at this;exact Option.some.inj this))];rfl)))
  refine qaa ?_;refine qa8 ?_;refine A2 ?_;refine qa6 ?_;exact zb rfl rfl (za rfl ((by unfold mayV;rw[uh (fun h=>g12 h.2.1)];rfl)))
 refine qb1 ?_;refine qa8 ?_;refine A2 ?_;refine qa6 ?_;exact zb rfl rfl (za rfl ((by unfold mayV;rw[uh (fun h=>g7 h.1)];rfl)))
theorem mayP_ok (v:List Int) (m k:Int):Tells P 207 [.val (bsl i64T) v,.val i64T m,.val i64T k] (.val zl (mayP v m k)):=by
 refine zd Tryz.func207 rfl rfl rfl (fun ext w hext=>?_);refine ze (d:=0) rfl zm (fun hsl0=>?_);refine ze (d:=1) rfl zu (fun hin1=>?_);refine ze (d:=2) rfl zu (fun hin2=>?_);refine CQR ?_;refine qaL ?_;refine A0 (oCl (mayV_ok v) rfl fn_164 yd) ?_;refine qa7 ?_;refine Sp (d:=9) (p:=mayV v=true) (fun g9=>?_) (fun g9=>?_)
 ·
  refine qcV ?_;refine A1 zfb ?_;refine qaf ?_;refine Sp (d:=13) (p:=1≤m) (fun g13=>?_) (fun g13=>?_)
  ·
   refine qcV ?_;refine A1 zfb ?_;refine qaf ?_;refine Sp (d:=17) (p:=1≤k) (fun g17=>?_) (fun g17=>?_)
   ·
    refine qcV ?_;refine A1 (zN rfl rfl zgu) ?_;refine qcV ?_;refine A1 zbH ?_;refine qa6 ?_;exact zb rfl rfl (za rfl ((by unfold mayP;rw[g9,Bool.true_and,uo];simp only[IntL.toI,id_eq];omega)))
   refine qaa ?_;refine A2 ?_;refine qa6 ?_;exact zb rfl rfl (za rfl ((by unfold mayP;rw[uh (fun h=>g17 h.2.1),Bool.and_false])))
  refine qc1 ?_;refine A2 ?_;refine qa6 ?_;exact zb rfl rfl (za rfl ((by unfold mayP;rw[uh (fun h=>g13 h.1),Bool.and_false])))
 refine qbm ?_;refine qaf ?_;refine qc1 ?_;refine A2 ?_;refine qa6 ?_;exact zb rfl rfl (za rfl ((by unfold mayP;rw[Bool.eq_false_iff.2 g9];rfl)))
theorem up_ok (v:List Int) (a b n:Int) (hl:v.length≤1000000000000):Tells P 264 [.val (bsl i64T) v,.val i64T a,.val i64T b,.val i64T n] (.fresh 3 i64T (upOf v a b n)):=by
 refine zd Tryz.func264 rfl rfl rfl (fun ext w hext=>?_);refine ze (d:=0) rfl zm (fun hsl0=>?_);refine ze (d:=1) rfl zu (fun hin1=>?_);refine ze (d:=2) rfl zu (fun hin2=>?_);refine ze (d:=3) rfl zu (fun hin3=>?_);refine qcn ?_;refine A0 aL ?_;refine qbx ?_;refine A0 (g_max rfl rfl rfl) ?_;refine qcq ?_;refine zi (d:=10) (y:=(((max a 0).toNat:Nat):Int)) rfl (by first|omega|(simp only[IntL.toI,id_eq];omega)) ?_;refine zbk (T:=i64T) (d:=9) 3 rfl ?_;refine zj (n:=0) (y:=upR v n (max a 0).toNat (max a 0).toNat) rfl (zuM v n _).symm ?_;refine Lp (ι:=Nat) 1 (fun i=>((((Fr.none.set 0 (.val (bsl i64T) v)).set 2 (.val i64T b)).set 3 (.val i64T n)).set 9 (.own 0)).set 10 (.val i64T (i:Int))) (fun i=>Hp.none.set 0 (.row 3 i64T (upR v n (max a 0).toNat i))) (fun i=>(max a 0).toNat≤i∧((i:Int)≤min b v.length∨i=(max a 0).toNat)) (fun i=>v.length-i) ((max a 0).toNat) (⟨ug _,.inr rfl⟩) ?_;intro i hinv;refine CQQR ?_;refine qav ?_;refine qa7 ?_;refine qb5 ?_;refine A0 (g_min rfl rfl rfl) ?_;refine qbr ?_;refine Cf (p:=(i:Int)<min b v.length) (fun ht18=>?_) (fun ht18=>?_)
 ·
  obtain⟨x,hx⟩:∃x,v[i]?=some x:=yB;refine CSQBQR ?_;refine qav ?_;refine A0 (zV (i:=i) rfl rfl rfl ya zcj yj) ?_;refine A0 (zf rfl rfl ty_3) ?_;refine qa7 ?_;refine qcs ?_;refine Cf (p:=n≤x) (fun ht26=>?_) (fun ht26=>?_)
  ·
   refine qcP ?_;refine qa7 ?_;refine A0 (zL (T:=i64T) (xs:=[_]) rfl zcj zgr yE rfl rfl) ?_;refine zC rfl rfl rfl rfl rfl rfl rfl zgr (by have:=zoP v n (max a 0).toNat i;simp;omega) ?_;refine qcu ?_;refine xh ?_;refine zj (n:=0) (y:=upR v n (max a 0).toNat (i+1)) rfl (upR_yes hx hinv.1 ht26).symm ?_;exact Nx (i+1) (⟨by omega,by omega⟩) ya
  refine qa2 ?_;refine zj (n:=0) (y:=upR v n (max a 0).toNat (i+1)) rfl (upR_no hx hinv.1 ht26).symm ?_;exact Nx (i+1) (⟨by omega,by omega⟩) ya
 refine qaS ?_;exact zb rfl rfl (zh rfl rfl (upOf_end hinv.1 hinv.2 ht18))
theorem prefix_ok (v:List Int) (m k:Int):Tells P 161 [.val (bsl i64T) v,.val i64T m,.val i64T k] (.tup2 (.fresh 3 i64T (zbo v m k).1) (.val zl (zbo v m k).2)):=by
 refine zd Tryz.func161 rfl rfl rfl (fun ext w hext=>?_);refine ze (d:=0) rfl zm (fun hsl0=>?_);refine ze (d:=1) rfl zu (fun hin1=>?_);refine ze (d:=2) rfl zu (fun hin2=>?_);refine qa9 ?_;refine qap ?_;refine qav ?_;refine A0 (oCl (mayP_ok v m k) rfl fn_207 yaf) ?_;refine qb3 ?_;refine zn (p:=¬mayP v m k=true) rfl yA (fun ht13=>?_) (fun ht13=>?_)
 ·
  refine qc9 ?_;exact zac rfl rfl (by unfold zbo;rw[ur ht13];exact zx rfl) (za rfl (by unfold zbo;rw[ur ht13]))
 have hmp:mayP v m k=true:=Classical.byContradiction ht13;have hcl:=zml hmp;have hvl:=zmc hmp;refine CSQR ?_;refine aw_mkmap rfl rfl rfl rfl (fun b0=>?_);refine ziD zp_301 rfl rfl rfl rfl rfl rfl ?_;refine zap rfl rfl rfl rfl rfl rfl rfl rfl rfl rfl zmy ?_;refine CNQR ?_;refine qav ?_;refine qa7 ?_;refine xd ?_;refine zR rfl rfl rfl rfl Tryz.func208 fn_208 rfl rfl (fun ia2 iok2=>?_);refine CQR ?_;refine qaj ?_;refine qaH ?_;refine Lp (ι:=Nat) 2 (fun (i:Nat)=>((((((Fr.none).set 0 (.val (bsl i64T) v)).set 1 (.val i64T m)).set 2 (.val i64T k)).set 3 (.clo 209 [1])).set 8 (.val i64T (zbj v m k i).1)).set 12 (.val i64T (i:Int))) (fun (i:Nat)=>((Hp.none).set 0 (.objAt b0 (setO (zbj v m k i).2))).set 1 (.parts 301 [.lit (.map (some b0))])) (fun (i:Nat)=>i≤32) (fun (i:Nat)=>32-i) (0) (uf _) ?_;intro i hi;refine qar ?_;refine Cf (p:=i<32) (fun ht13=>?_) (fun ht13=>?_)
 ·
  have hci:=hcl i ya;have hup:=zB (up_ok v (zbj v m k i).1 ((v.length:Int)-k) (31-(i:Int)) ya);obtain⟨L,hL⟩:∃L,L=upOf v (zbj v m k i).1 ((v.length:Int)-k) (31-(i:Int)):=⟨_,rfl⟩;rw[←hL] at hup;have hLl:L.length≤200:=by rw[hL];have:=up_length v (zbj v m k i).1 ((v.length:Int)-k) (31-(i:Int));omega
  refine qaR ?_;refine qaL ?_;refine A0 zbT ?_;refine qbv ?_;refine qa7 ?_;refine qb5 ?_;refine qcO ?_;refine qa7 ?_;refine A0 (oCl (hup) rfl fn_264 ⟨yn,yn,yn,yn,trivial⟩) ?_;refine qaj ?_;refine A0 mC ?_;refine qav ?_;refine qa7 ?_;refine zdT rfl rfl rfl rfl rfl Tryz.func209 fn_209 rfl rfl yO (fun ia3 iok3=>?_);refine qaE ?_;refine qb5 ?_;refine qaH ?_;refine Lp (ι:=Nat) 2 (fun (j:Nat)=>((((Fr.none).set 3 (.ptr 1 0)).set 9 (.val (sl i64T) L)).set 10 (.val i64T (L.length:Int))).set 11 (.val i64T (j:Int))) (fun (j:Nat)=>((Hp.none).set 0 (.objAt b0 (setO ((L.take j).foldl zdW (zbj v m k i).2)))).set 1 (.parts 301 [.lit (.map (some b0))])) (fun (j:Nat)=>j≤L.length) (fun (j:Nat)=>L.length-j) (0) (uf _) ?_;intro j hj;refine qar ?_;refine Cf (p:=j<L.length) (fun ht12=>?_) (fun ht12=>?_)
  ·
   obtain⟨x,hx⟩:∃x,L[j]?=some x:=⟨_,ub ht12⟩;refine CSQBQR ?_;refine qcc ?_;refine A0 aX ?_;refine CNR ?_;refine A0 yaJ ?_;refine A0 mX ?_;refine A0 (zvK rfl zu_186 su_186) ?_;refine aw_mapput (n:=0) rfl rfl rfl rfl rfl rfl rfl mp_301 ui_3 ?_;refine qbt ?_;refine zkn 0 (setO ((L.take (j+1)).foldl zdW (zbj v m k i).2)) rfl (by rw[un,hx,List.foldl_append];rfl) ?_;exact Nx (j+1) ya ya
  refine CE ?_;refine zia rfl ?_;refine CNQ ?_;refine zkn 0 (setO (L.foldl zdW (zbj v m k i).2)) rfl yT ?_;refine CR ?_;refine qa7 ?_;refine qb5 ?_;refine qa7 ?_;refine qcL ?_;refine Cf (p:=m<L.length) (fun ht33=>?_) (fun ht33=>?_)
  ·
   obtain⟨c,hc⟩:∃c,L[L.length-m.toNat]?=some c:=yB;refine CR ?_;refine qav ?_;refine qb5 ?_;refine qcO ?_;refine A0 (zV (i:=L.length-m.toNat) rfl rfl rfl ya zcj yj) ?_;refine A0 (zf rfl rfl ty_3) ?_;refine A0 aX ?_;refine qbt ?_;refine zi (d:=8) (y:=(zbj v m k (i+1)).1) rfl (ziZ hL hc ht33) ?_;refine zkn 0 (setO (zbj v m k (i+1)).2) rfl (by rw[hL];rfl) ?_;exact Nx (i+1) ya ya
  refine qbq ?_;refine zi (d:=8) (y:=(zbj v m k (i+1)).1) rfl (zkj hL ht33) ?_;refine zkn 0 (setO (zbj v m k (i+1)).2) rfl (by rw[hL];rfl) ?_;exact Nx (i+1) ya ya
 refine CE ?_;refine zia rfl ?_;refine CNQ ?_;have hi32:i=32:=ya;subst hi32;obtain⟨K,hK⟩:∃K,K=(zbj v m k 32).2:=⟨_,rfl⟩;have hck:=hcl 32 ya;rw[←hK] at hck;refine zkn 0 (setO K) rfl (by rw[hK]) ?_;have hkeys:∀x∈K,-9223372036854775808≤x∧x≤9223372036854775807:=fun x hx=>by have:=hck.2.2 x hx;omega
 have hKl:=zlB hck hvl;refine CR ?_;refine A0 yaJ ?_;refine zR rfl rfl rfl rfl Tryz.func211 fn_211 rfl rfl (fun ia4 iok4=>?_);refine CQR ?_;refine zq7 rfl rfl rfl rfl rfl rfl rfl ?_;refine qbY ?_;refine zR rfl rfl rfl rfl Tryz.func210 fn_210 rfl rfl (fun ia6 iok6=>?_);refine qcn ?_;refine A0 mC ?_;refine zR rfl rfl rfl rfl Tryz.func265 fn_265 rfl rfl (fun ia7 iok7=>?_);refine qcn ?_;refine A0 mC ?_;refine zR rfl rfl rfl rfl Tryz.func313 fn_313 rfl rfl (fun ia8 iok8=>?_);refine CQR ?_;refine zq7 rfl rfl rfl rfl rfl rfl rfl ?_;refine A0 aL ?_;refine CN ?_;refine aw_nilpart 3 3 i64T rfl ?_;refine CQQR ?_;refine A0 mC ?_;refine CNB ?_;refine ziA rfl rfl rfl Tryz.func266 fn_266 rfl rfl yO (fun fid11 ca11 lN11 DN11 cok11 rc11 hrc11=>?_);refine CQR ?_;refine A0 yaJ ?_;refine zuu (n:=0) rfl rfl rfl rfl rfl rfl mp_301 (fun it0=>?_);refine CNB ?_;refine zaz 4 8 9 rfl rfl rfl rfl rfl rfl ?_;refine Lp (ι:=List Nat) 9 (fun (seen:List Nat)=>((Fr.none).set 0 (.lit (.func (.yield lN11) #[] #[]))).set 5 (.ptr 7 0)) (fun (seen:List Nat)=>((((((Hp.none).set 0 (.objAt b0 (setO K))).set 3 (.parts 24 [.own 8])).set 8 (.row 3 i64T (seen.map fun i=>K.getD i 0))).set 5 (.objAt DN11 (.deferred (some [])))).set 6 (.objAt lN11 (rc11 .ready none))).set 7 (.objAt it0 (itO b0 K.length seen))) (fun (seen:List Nat)=>seen.Nodup∧∀i∈seen,i<K.length) (fun (seen:List Nat)=>K.length-seen.length) ([]) (⟨List.nodup_nil,fun i h=>by cases h⟩) ?_;intro seen hs;refine CQR ?_;refine aw_nextmap (n1:=0) (n2:=7) rfl rfl rfl rfl rfl (hkeys) rfl rfl (fun hall=>?_) (fun i v hiv his=>?_)
 ·
  refine A0 (g_x1f rfl rfl) ?_;refine CNQ ?_;refine Cg ?_;refine CE ?_;refine zeQ (nL:=6) rfl hrc11 rfl yr ?_;refine CI ?_;refine CQR ?_;refine A0 ybK ?_;refine qbJ ?_;refine zay (zcn (nD:=5) rfl rfl rfl (ar_back1 rfl ?_));refine qbJ ?_;refine zcw rfl ?_;refine A0 aO ?_;refine CNQR ?_;refine A0 mO ?_;refine ziB (sortInt_ok (seen.map fun i=>K.getD i 0) (by rw[List.length_map];have:=zma hs.1 hs.2;omega)) rfl fn_217 rfl trivial trivial rfl ⟨yl,trivial⟩ rfl rfl rfl ?_;refine CNQR ?_;refine A0 mO ?_;refine qbJ ?_;refine zcw rfl ?_;refine qcR ?_;exact zac rfl rfl (zh rfl rfl (by unfold zbo;rw[ut hmp,←hK];exact sort_perm (seen_all hs hall))) (za rfl (by unfold zbo;rw[ut hmp]))
 obtain⟨hs1,hs2,hs3⟩:=seen_step hs hiv his;refine A0 e30 ?_;refine CNQ ?_;refine Ct ?_;refine CS ?_;refine CB ?_;refine CQR ?_;refine aw_entry (n1:=0) (n2:=7) (v:=v) (i:=i) rfl rfl rfl rfl rfl yai yai yj (hkeys) ?_;refine A0 yS ?_;refine A0 aX ?_;refine CNQR ?_;refine A0 mL ?_;refine A0 mX ?_;refine ziz (nL:=6) rfl rfl rfl rfl rfl hrc11 rfl rfl rfl (fun ya12 yok12=>?_);refine CR ?_;refine qaT ?_;refine ziC (nL:=6) hrc11 rfl ?_;refine CB ?_;refine CR ?_;refine A0 ybK ?_;refine A0 mX ?_;refine qbB ?_;refine zap rfl rfl rfl rfl rfl rfl rfl rfl rfl rfl zcF ?_;refine CN ?_;refine CI ?_;refine zdS (nL:=6) hrc11 rfl ?_;refine qb3 ?_;refine Cg ?_;refine CS ?_;refine CI ?_;refine zaz 9 8 10 rfl rfl rfl rfl rfl rfl ?_;refine zj (n:=8) (y:=(seen++[i]).map fun i=>K.getD i 0) rfl (by rw[List.map_append];simp[hiv]) ?_;exact Nx (seen++[i]) (hs1) (hs2)
set_option maxRecDepth 20000
def proverN:GoT (List Block×Int×Int×List Int×Unit):=zbx (bsl zav) (zbx i64T (zbx i64T (zbx (sl i64T) nilT)))
def proofN:GoT (Int×Int×Unit):=zbx i64T (zbx i64T nilT)
theorem zn_prover:zaw P 170 proverN ([],0,0,[],()):=zU (zI zcR (zI zbn (zI zbn (zI zcR zjt)))) yo
theorem zuD:zaw P 27 proofN (0,0,()):=zU (zI zbn (zI zbn zjt)) yo
theorem zrG {l:List Block} {m k:Int} {v:List Int}:zdK proverN (l,m,k,v,()) [.val (bsl zav) l,.val i64T m,.val i64T k,.val (sl i64T) v,.lit (.slice none 0 0)]:=zaR zaS (zaR zaS (zaR zaS (zaR zaS zmH)))
theorem zmG {m k:Int}:zdK proofN (m,k,()) [.val i64T m,.val i64T k,.lit (.slice none 0 0)]:=zaR zaS (zaR zaS zmH)
theorem zkP {m k:Int} {l:List Part}:zlH zP (⟨m,k,l⟩:Proof) [.val i64T m,.val i64T k] zba l:=zvv (znn (znn zsh))
def zdx (l:List Block) (m k:Int):List Int:=(zbo (zbp l) m k).1++(List.range k.toNat).map fun j:Nat=>(l.length:Int)-k+(j:Int)
def zjN (l:List Block) (i:Int):Part:=⟨(l.getD i.toNat default).h,(l.getD i.toNat default).l⟩
def prE (l:List Block) (m k:Int):Int:=if ¬(zab l).2=0 then (zab l).2 else if m<1∨20<m∨k<1∨20<k∨l.length≤k then 1 else 0
def prOf (l:List Block) (m k:Int):Proof:=if prE l m k=0 then ⟨m,k,(zdx l m k).map (zjN l)⟩ else zb3
theorem prefix_mem {v:List Int} {m k x:Int} (h:x∈(zbo v m k).1):0≤x∧x<(v.length:Int)-k:=by
  unfold zbo at h
  split at h
  · rename_i c
    exact(zml c 32 (ug _)).2.2 x (sort_mem.1 h)
  cases h
theorem zjM (v:List Int) (m k:Int):(zbo v m k).1.length≤200:=by
  unfold zbo
  split
  · rename_i c
    have:=zlB (zml c 32 (ug _)) (zmc c)
    simpa [zbw] using this
  simp
theorem zqw (l:List Block):(zbp l).length=l.length:=by unfold zbp;simp
theorem zo9 {l:List Block} {m k x:Int} (hk:1≤k∧k<l.length) (h:x∈zdx l m k):0≤x∧x<l.length:=by
  unfold zdx at h;rcases List.mem_append.1 h with h|h
  · have:=prefix_mem h
    rw[zqw] at this;omega
  obtain⟨j,hj,rfl⟩:=List.mem_map.1 h;rw[List.mem_range] at hj;omega
theorem zqe {l:List Block} {m k:Int} (hk:k≤20):(zdx l m k).length≤220:=by
  unfold zdx
  have:=zjM (zbp l) m k
  simp;omega
theorem zo8 (l:List Block) (m k:Int) (hl:zli l):Tells P 47 [.val (bsl zav) l,.val i64T m,.val i64T k] (.tup2 (.val zP (prOf l m k)) (.val i64T (prE l m k))):=by
 have hll:=hl.1;refine zd Tryz.func47 rfl rfl rfl (fun ext w hext=>?_);refine ze (d:=0) rfl zm (fun hsl0=>?_);refine ze (d:=1) rfl zu (fun hin1=>?_);refine ze (d:=2) rfl zu (fun hin2=>?_);refine CQR ?_;refine qbC ?_;refine qbv ?_;refine qa7 ?_;refine zR rfl rfl rfl rfl Tryz.func93 fn_93 rfl rfl (fun ia1 iok1=>?_);refine qa9 ?_;refine qap ?_;refine A0 (oCl (zwc l hl) rfl fn_21 yd) ?_;refine qcX ?_;refine qaL ?_;refine qbk ?_;refine zn (p:=¬(zab l).2=0) rfl yw (fun ht18=>?_) (fun ht18=>?_)
 ·
  refine qaE ?_;refine A0 aL ?_;refine qae ?_;refine zhb rfl ?_;refine A0 yH ?_;refine qab ?_;refine qbA ?_;refine zes rfl (by simp;exact ht18) ?_;refine CQR ?_;refine xy ?_;refine A0 mX ?_;refine qas ?_;refine qaT ?_;exact zp rfl rfl (zs rfl rfl zaD (by unfold prOf;rw[ur (by unfold prE;rw[ut ht18];exact ht18)])) (zQ (za rfl (by unfold prE;rw[ut ht18])))
 refine qc2 ?_;refine A0 zcy ?_;refine qa7 ?_;refine Sp (d:=22) (p:=m<1) (fun g22=>?_) (fun g22=>?_)
 ·
  refine qcA ?_;refine qaf ?_;refine qc1 ?_;refine qcm ?_;refine Ct ?_;refine qc9 ?_;refine zhb rfl ?_;refine A0 yH ?_;refine qab ?_;refine qbA ?_;refine Ct ?_;refine CQR ?_;refine xy ?_;refine A0 mX ?_;refine qas ?_;refine qaT ?_;exact zp rfl rfl (zs rfl rfl zaD y9) (zQ (za rfl yaw))
 refine qcV ?_;refine A1 zbH ?_;refine qaf ?_;refine Sp (d:=26) (p:=20<m) (fun g26=>?_) (fun g26=>?_)
 ·
  refine qbm ?_;refine qaf ?_;refine qc1 ?_;refine qcm ?_;refine Ct ?_;refine qc9 ?_;refine zhb rfl ?_;refine A0 yH ?_;refine qab ?_;refine qbA ?_;refine Ct ?_;refine CQR ?_;refine xy ?_;refine A0 mX ?_;refine qas ?_;refine qaT ?_;exact zp rfl rfl (zs rfl rfl zaD y9) (zQ (za rfl yaw))
 refine qcV ?_;refine A1 zcy ?_;refine qaf ?_;refine Sp (d:=30) (p:=k<1) (fun g30=>?_) (fun g30=>?_)
 ·
  refine qc1 ?_;refine qcm ?_;refine Ct ?_;refine qc9 ?_;refine zhb rfl ?_;refine A0 yH ?_;refine qab ?_;refine qbA ?_;refine Ct ?_;refine CQR ?_;refine xy ?_;refine A0 mX ?_;refine qas ?_;refine qaT ?_;exact zp rfl rfl (zs rfl rfl zaD y9) (zQ (za rfl yaw))
 refine qcV ?_;refine A1 zbH ?_;refine qaf ?_;refine Sp (d:=34) (p:=20<k) (fun g34=>?_) (fun g34=>?_)
 ·
  refine qaa ?_;refine qcm ?_;refine Ct ?_;refine qc9 ?_;refine zhb rfl ?_;refine A0 yH ?_;refine qab ?_;refine qbA ?_;refine Ct ?_;refine CQR ?_;refine xy ?_;refine A0 mX ?_;refine qas ?_;refine qaT ?_;exact zp rfl rfl (zs rfl rfl zaD y9) (zQ (za rfl yaw))
 refine qcV ?_;refine A1 (zN rfl rfl zno) ?_;refine qcV ?_;refine A1 zgV ?_;refine qau ?_;refine Cf (p:=l.length≤k) (fun ht39=>?_) (fun ht39=>?_)
 ·
  refine qc9 ?_;refine zhb rfl ?_;refine A0 yH ?_;refine qab ?_;refine qbA ?_;refine Ct ?_;refine CQR ?_;refine xy ?_;refine A0 mX ?_;refine qas ?_;refine qaT ?_;exact zp rfl rfl (zs rfl rfl zaD y9) (zQ (za rfl yaw))
 have hpl:=zjM (zbp l) m k;refine CSQR ?_;refine qav ?_;refine qav ?_;refine A0 (oCl (zB (levels_ok l ya)) rfl fn_160 yd) ?_;refine A0 (zy rfl zn_prover bd_170 (.cons zqQ (Lens.fst _ _) ty_46 rfl (.cons zv2 ((Lens.snd _ _).comp (Lens.fst _ _)) ty_3 rfl (.cons zv1 ((Lens.snd _ _).comp ((Lens.snd _ _).comp (Lens.fst _ _))) ty_3 rfl (.cons zv0 ((Lens.snd _ _).comp ((Lens.snd _ _).comp ((Lens.snd _ _).comp (Lens.fst _ _)))) zcF rfl .nil)))) rfl) ?_;refine xb ?_;refine A0 aP ?_;refine CN ?_;refine zfM 2 (x:=(l,m,k,zbp l,())) zrG rfl ?_;refine zg9 2 3 i64T [.val (bsl zav) l,.val i64T m,.val i64T k,.val (sl i64T) (zbp l)] rfl (by intro x hx;simp only[List.mem_cons,List.not_mem_nil,or_false] at hx;rcases hx with rfl|rfl|rfl|rfl<;>trivial) ?_;refine CQR ?_;refine A0 mP ?_;refine A0 mP ?_;refine qco ?_;refine A0 (oFp zv0) ?_;refine A0 (zO rfl rfl rfl rfl rfl zcF) ?_;refine qav ?_;refine zoa (prefix_ok (zbp l) m k) rfl fn_161 yaf znF rfl rfl rfl ?_;refine A0 yH ?_;refine qab ?_;refine qco ?_;refine A0 (oFp zmj) ?_;refine zap rfl rfl rfl rfl rfl rfl rfl rfl rfl rfl zcF ?_;refine CNQQR ?_;refine qav ?_;refine CNB ?_;refine zj (n:=4) (y:=(zbo (zbp l) m k).1++(List.range 0).map fun j:Nat=>(l.length:Int)-k+(j:Int)) rfl yA ?_;refine Lp (ι:=Nat) 5 (fun i=>((((Fr.none.set 0 (.val (bsl zav) l)).set 2 (.val i64T k)).set 10 (.ptr 2 0)).set 60 (.val i64T k)).set 61 (.val i64T (i:Int))) (fun i=>((Hp.none.set 0 (.box 27 zP zb3)).set 2 (.parts 170 ([.val (bsl zav) l,.val i64T m,.val i64T k,.val (sl i64T) (zbp l)]++[.own 4]))).set 4 (.row 3 i64T ((zbo (zbp l) m k).1++(List.range i).map fun j:Nat=>(l.length:Int)-k+(j:Int)))) (fun i=>(i:Int)≤k) (fun i=>k.toNat-i) (0) yK ?_;intro i hi;refine qar ?_;refine Cf (p:=(i:Int)<k) (fun ht62=>?_) (fun ht62=>?_)
 ·
  refine qaR ?_;refine qc3 ?_;refine A0 mP ?_;refine A0 mP ?_;refine qco ?_;refine A0 (oFp zmj) ?_;refine A0 (zO rfl rfl rfl rfl rfl zcF) ?_;refine qa7 ?_;refine A0 (zN rfl rfl zno) ?_;refine qcO ?_;refine qb2 ?_;refine qbB ?_;refine qco ?_;refine A0 (oFp zmj) ?_;refine zap rfl rfl rfl rfl rfl rfl rfl rfl rfl rfl zcF ?_;refine qbt ?_;refine zaz 5 4 6 rfl rfl rfl rfl rfl rfl ?_;refine zj (n:=4) (y:=(zbo (zbp l) m k).1++(List.range (i+1)).map fun j:Nat=>(l.length:Int)-k+(j:Int)) rfl (by rw[List.range_succ,List.map_append];simp) ?_;exact Nx (i+1) ya ya
 refine CE ?_;refine CQ ?_;obtain⟨PL,hPL⟩:∃PL,PL=zdx l m k:=⟨_,rfl⟩;refine zj (n:=4) (y:=PL) rfl (by rw[hPL];unfold zdx;rw[show k.toNat=i by omega]) ?_;have hpm:∀x∈PL,0≤x∧x<l.length:=fun x hx=>zo9 ya (hPL▸hx)
 have hpn:PL.length≤220:=hPL▸zqe ya;refine CR ?_;refine A0 mP ?_;refine A0 aP ?_;refine qae ?_;refine zhb rfl ?_;refine A0 yH ?_;refine qab ?_;refine A0 aP ?_;refine A0 aX ?_;refine CNQQR ?_;refine A0 mX ?_;refine qbk ?_;refine Cg ?_;refine CSQR ?_;refine A0 mP ?_;refine zR rfl rfl rfl rfl Tryz.func97 fn_97 rfl rfl (fun ia3 iok3=>?_);refine CQR ?_;refine qbC ?_;refine CNQ ?_;refine zA [some 1000001,some 1000001,some 1000001,some 1000001,some 1000001,some 1000001,some 1000001,some 1000001,some 1000001,none,none] mixed yc ?_;refine XK.ga (fun _=>g_mp (.inl rfl) rfl) rfl rfl rfl ?_;refine XK.ga (fun _=>g_nc rfl rfl) rfl rfl rfl ?_;refine XK.ga (fun _=>zdp rfl rfl zv2 rfl) rfl rfl rfl ?_;refine XK.gf (t:=8) rfl rfl (fun _ he=>zO rfl rfl he rfl rfl ty_3) ⟨rfl,trivial⟩ rfl rfl rfl ?_;refine XK.ga (fun _=>g_mp (.inl rfl) rfl) rfl rfl rfl ?_;refine XK.ga (fun _=>g_nc rfl rfl) rfl rfl rfl ?_;refine XK.ga (fun _=>zdp rfl rfl zv1 rfl) rfl rfl rfl ?_;refine XK.gf (t:=12) rfl rfl (fun _ he=>zO rfl rfl he rfl rfl ty_3) ⟨rfl,trivial⟩ rfl rfl rfl ?_;refine XK.ga (fun _=>zy rfl zuD zjp (.cons zcY (Lens.fst _ _) ty_3 rfl (.cons zcI ((Lens.snd _ _).comp (Lens.fst _ _)) ty_3 rfl .nil)) rfl) rfl rfl rfl ?_;refine XK.e (fun fr' hfr kk H=>by exact zq zuD rfl rfl rfl rfl (zt H)) ?_;refine XK.e (x:=.idk) (fun fr' hfr kk H=>by exact zg rfl rfl rfl ((hfr 3 yc).trans rfl) rfl (Lens.self _) zaD ((hfr 14 yc).trans rfl) (zt H)) ?_;refine XK.nilp ⟨yE,yE,trivial⟩ ?_;refine zfM 6 (x:=(m,k,())) zmG rfl ?_;refine zg9 6 72 zba [.val i64T m,.val i64T k] rfl yba ?_;refine CQQR ?_;refine A0 mP ?_;refine qco ?_;refine A0 (oFp zmj) ?_;refine A0 (zO rfl rfl rfl rfl rfl zcF) ?_;refine A0 (zbe rfl rfl rfl zgu) ?_;refine qaH ?_;refine Lp (ι:=Nat) 8 (fun i=>(((((Fr.none.set 0 (.ptr 2 0)).set 2 (.ptr 5 0)).set 3 (.ptr 6 0)).set 18 (.own 4)).set 19 (.val i64T (PL.length:Int))).set 20 (.val i64T (i:Int))) (fun i=>(((((Hp.none.set 0 (.box 27 zP zb3)).set 2 (.parts 170 ([.val (bsl zav) l,.val i64T m,.val i64T k,.val (sl i64T) (zbp l)]++[.own 4]))).set 4 (.row 3 i64T PL)).set 5 (.box 27 zP zb3)).set 6 (.parts 27 [.val i64T m,.val i64T k,.own 7])).set 7 (.row 72 zba ((PL.take i).map (zjN l)))) (fun i=>i≤PL.length) (fun i=>PL.length-i) (0) (uf _) ?_;intro i hi2;refine qar ?_;refine Cf (p:=i<PL.length) (fun ht21=>?_) (fun ht21=>?_)
 ·
  obtain⟨x,hx⟩:∃x,PL[i]?=some x:=⟨_,ub ht21⟩;have hxb:=hpm x (ud hx);obtain⟨b,hb⟩:∃b,l[x.toNat]?=some b:=yB;refine CSQBQR ?_;refine A0 (zb8 (i:=i) rfl rfl rfl rfl yp zcj yg) ?_;refine qcF ?_;refine qae ?_;refine zA [some 1,some 1,some 1,some 1,some 1,some 1,some 1,some 1,some 1,some 1,some 1,some 1,some 1,some 1,some 1,some 1,some 1,some 1,some 1,some 1,some 1,none,some 1,none] mixed yc ?_;refine X0 (oFp zag) ?_;refine X0 (zO rfl rfl rfl rfl rfl zci) ?_;refine X0 mP ?_;refine xk ?_;refine X0 (oFp zqQ) ?_;refine X0 (zO rfl rfl rfl rfl rfl ty_46) ?_;refine X0 mV ?_;refine X0 (zV (i:=x.toNat) rfl rfl rfl ya zkD yj) ?_;refine X0 (oFr zce zaN) ?_;refine X0 (zf rfl rfl zaX) ?_;refine X0 mP ?_;refine xk ?_;refine X0 (oFp zqQ) ?_;refine X0 (zO rfl rfl rfl rfl rfl ty_46) ?_;refine X0 mV ?_;refine X0 (zV (i:=x.toNat) rfl rfl rfl ya zkD yj) ?_;refine X0 (oFr zgd zdu) ?_;refine X0 (zf rfl rfl zcc) ?_;refine X0 (oCl (zB (zh4 b.l (by have:=(hl.2 b (ud hb)).1;constructor<;>omega))) rfl zsN ybM) ?_;refine X0 (zy rfl zrl bd_72 (.cons za7 zaV zaX rfl (.cons zbz zbC zcc rfl .nil)) rfl) ?_;refine X0 (zL (T:=zba) (xs:=[_]) rfl zdV zo2 yE rfl rfl) ?_;refine XK.e (fun fr' hfr kk H=>by exact zC rfl rfl rfl rfl ((hfr 25 yc).trans rfl) rfl ((hfr 44 yc).trans rfl) zo2 yK (zt H)) ?_;refine X0 (oFp zag) ?_;refine XK.e (x:=.idk) (fun fr' hfr kk H=>by exact zap rfl rfl rfl ((hfr 46 yc).trans rfl) rfl rfl ((hfr 45 yc).trans rfl) rfl rfl rfl zci (zt H)) ?_;refine qbj ?_;refine zaz 8 7 9 rfl rfl rfl rfl rfl rfl ?_;refine zj (n:=7) (y:=(PL.take (i+1)).map (zjN l)) rfl (by rw[un,hx,List.map_append];simp[zjN,hb]) ?_;exact Nx (i+1) ya ya
 refine CE ?_;refine CQ ?_;refine zj (n:=7) (y:=PL.map (zjN l)) rfl yT ?_;refine zmn 6 7 [.val i64T m,.val i64T k] (z:=(⟨m,k,PL.map (zjN l)⟩:Proof)) (R:=zP) rfl rfl rfl zkP ?_;refine CR ?_;refine qaU ?_;refine qas ?_;refine CN ?_;refine ztk rfl rfl rfl zaD ?_;refine qas ?_;refine qae ?_;exact zp rfl rfl (zs rfl rfl zaD (by unfold prOf;rw[ut (by unfold prE;rw[ur ya,ur ya]),hPL])) (zQ (za rfl (by unfold prE;rw[ur ya,ur ya])))
theorem toI_u32 {a b:UInt32}:IntL.toI u32T a=IntL.toI u32T b↔a=b:=⟨fun h=>UInt32.toNat_inj.1 (Int.ofNat.inj h),fun h=>by rw[h]⟩
def idsP (p:Proof):List Ab.Id:=p.p.map fun x=>za5 x.h
def znk (p:Proof):List Int:=p.p.map fun x=>zat x.h
def zhK (l:List Ab.Id) (prev id:Ab.Id):Bool:=decide (prev=id)||l.any fun x=>decide (id=x)
def zr1 (y z:Part) (last:Prop) [Decidable last] (d:Ab.Id):Int :=
  if y.h.height≤z.h.height∨¬y.h.bits=z.h.bits∨last∧(¬y.h.height=IntKind.i64.wrap (z.h.height+1)∨¬y.h.prev=d) then 5 else 0
def zse (y:Part) (c d:Ab.Id):Int :=
  if y.l.length=0∨32<y.l.length∨¬y.l.getD 0 zId=c∨zhK y.l y.h.prev d=false∨¬zcM y.l=y.h.links then 6 else 0
def workF (y:Part):Int:=if ¬zcl y.h=true then 4 else 0
def zju:Part:=⟨zkv,[]⟩
def yOf (x:CTrial):Part:=x.p.p.getD x.at_.toNat zju
def zOf (x:CTrial):Part:=x.p.p.getD (x.at_.toNat-1) zju
def dOf (x:CTrial):Ab.Id:=x.ids.getD (x.at_.toNat-1) zId
def cOf (x:CTrial):Ab.Id:=x.ids.getD 0 zId
def zkH (x:CTrial):Int:=zr1 (yOf x) (zOf x) ((x.p.p.length:Int)-x.p.k≤x.at_) (dOf x)
def zkL (x:CTrial):Int:=zse (yOf x) (cOf x) (dOf x)
def zmr (x:CTrial):Int:=workF (yOf x)
def TrOk (x:CTrial):Prop:=1≤x.at_∧x.at_<x.p.p.length∧x.ids.length=x.p.p.length∧x.p.p.length≤100∧1≤x.p.k∧x.p.k≤20
theorem ziM {x:CTrial} {y:Part} (h:x.p.p[x.at_.toNat]?=some y):yOf x=y:=by unfold yOf;simp[h]
theorem zOf_at {x:CTrial} {y:Part} (h:x.p.p[x.at_.toNat-1]?=some y):zOf x=y:=by unfold zOf;simp[h]
theorem zpy {x:CTrial} {y:Ab.Id} (h:x.ids[x.at_.toNat-1]?=some y):dOf x=y:=by unfold dOf;simp[h]
theorem cOf_at {x:CTrial} {y:Ab.Id} (h:x.ids[0]?=some y):cOf x=y:=by unfold cOf;simp[h]
theorem zjL {x:CTrial} {y z:Part} {d:Ab.Id} (hy:x.p.p[x.at_.toNat]?=some y) (hz:x.p.p[x.at_.toNat-1]?=some z) (hd:x.ids[x.at_.toNat-1]?=some d)
    (h:y.h.height≤z.h.height∨¬y.h.bits=z.h.bits∨((x.p.p.length:Int)-x.p.k≤x.at_)∧(¬y.h.height=IntKind.i64.wrap (z.h.height+1)∨¬y.h.prev=d)):zkH x=5:=by
  unfold zkH zr1;rw[ziM hy,zOf_at hz,zpy hd,ut h]
theorem zqd {x:CTrial} {y z:Part} {d:Ab.Id} (hy:x.p.p[x.at_.toNat]?=some y) (hz:x.p.p[x.at_.toNat-1]?=some z) (hd:x.ids[x.at_.toNat-1]?=some d)
    (h:¬(y.h.height≤z.h.height∨¬y.h.bits=z.h.bits∨((x.p.p.length:Int)-x.p.k≤x.at_)∧(¬y.h.height=IntKind.i64.wrap (z.h.height+1)∨¬y.h.prev=d))):zkH x=0:=by
  unfold zkH zr1;rw[ziM hy,zOf_at hz,zpy hd,ur h]
theorem zhI {x:CTrial} {y:Part} {c d:Ab.Id} (hy:x.p.p[x.at_.toNat]?=some y) (hc:x.ids[0]?=some c) (hd:x.ids[x.at_.toNat-1]?=some d)
    (h:y.l.length=0∨32<y.l.length∨¬y.l.getD 0 zId=c∨zhK y.l y.h.prev d=false∨¬zcM y.l=y.h.links):zkL x=6:=by
  unfold zkL zse;rw[ziM hy,cOf_at hc,zpy hd,ut h]
theorem zvq {x:CTrial} {y:Part} {c d:Ab.Id} (hy:x.p.p[x.at_.toNat]?=some y) (hc:x.ids[0]?=some c) (hd:x.ids[x.at_.toNat-1]?=some d)
    (h:¬(y.l.length=0∨32<y.l.length∨¬y.l.getD 0 zId=c∨zhK y.l y.h.prev d=false∨¬zcM y.l=y.h.links)):zkL x=0:=by
  unfold zkL zse;rw[ziM hy,cOf_at hc,zpy hd,ur h]
def three:List (Option Nat):=[some 53,some 54,some 55]
def askC (f:Option Nat) (x:CTrial):Int:=if f=some 53 then zkH x else if f=some 54 then zkL x else zmr x
def zd2:List (Option Nat)→CTrial→Int
  | [],_=>0
  | f::l,x=>if askC f x=0 then zd2 l x else askC f x
theorem zly (x:CTrial):zd2 three x=if ¬zkH x=0 then zkH x else if ¬zkL x=0 then zkL x else zmr x:=by
  have e1:askC (some 53) x=zkH x:=by unfold askC;rw[ut rfl]
  have e2:askC (some 54) x=zkL x:=by unfold askC;rw[ur yr,ut rfl]
  have e3:askC (some 55) x=zmr x:=by unfold askC;rw[ur yr,ur yr]
  unfold three;simp only[zd2,e1,e2,e3];by_cases h1:zkH x=0
  · by_cases h2:zkL x=0
    · by_cases h3:zmr x=0<;>simp[h1,h2,h3]
    simp[h1,h2]
  simp[h1]
theorem zjh {l:List (Option Nat)} {j:Nat} {f:Option Nat} {x:CTrial} (h:l[j]?=some f) (h0:askC f x=0):zd2 (l.drop j) x=zd2 (l.drop (j+1)) x:=by
  obtain⟨hj,rfl⟩:=ul.1 h;rw[List.drop_eq_getElem_cons hj];show(if _ then _ else _)=_;rw[ut h0]
theorem zek {l:List (Option Nat)} {j:Nat} {f:Option Nat} {x:CTrial} (h:l[j]?=some f) (h0:¬askC f x=0):zd2 (l.drop j) x=askC f x:=by
  obtain⟨hj,rfl⟩:=ul.1 h;rw[List.drop_eq_getElem_cons hj];show(if _ then _ else _)=_;rw[ur h0]
def zf6 (p:Proof) (ids:List Ab.Id):Nat→Nat→Int
  | 0,_=>0
  | n+1,i=>if zd2 three ⟨p,ids,i⟩=0 then zf6 p ids n (i+1) else zd2 three ⟨p,ids,i⟩
theorem trials_go {p:Proof} {ids:List Ab.Id} {i:Nat} (hi:i<p.p.length) (h:zd2 three ⟨p,ids,i⟩=0):zf6 p ids (p.p.length-i) i=zf6 p ids (p.p.length-(i+1)) (i+1):=by
  rw[show p.p.length-i=(p.p.length-(i+1))+1 by omega];show(if _ then _ else _)=_;rw[ut h]
theorem zi5 {p:Proof} {ids:List Ab.Id} {i:Nat} (hi:i<p.p.length) (h:¬zd2 three ⟨p,ids,i⟩=0):zf6 p ids (p.p.length-i) i=zd2 three ⟨p,ids,i⟩:=by
  rw[show p.p.length-i=(p.p.length-(i+1))+1 by omega];show(if _ then _ else _)=_;rw[ur h]
def zK (p:Proof):Int :=
  if p.m<1∨20<p.m∨p.k<1∨20<p.k then 1
  else if 100<p.p.length∨(p.p.length:Int)≤p.k then 3
  else if zbG (p.p.getD 0 zju).h.bits=false∨0<(p.p.getD 0 zju).l.length∨¬(p.p.getD 0 zju).h=(zan (p.p.getD 0 zju).h.bits).b.h then 12
  else zf6 p (idsP p) (p.p.length-1) 1
def zoM (p:Proof):Bool:=p.p.all (fun x=>decide (x.l.length≤40))&&decide (p.p.length≤110)
theorem zsD (p:Proof) (hl:p.p.length≤1000000000000):Tells P 22 [.val zP p] (.fresh 49 idT (idsP p)):=by
 refine zd Tryz.func22 rfl rfl rfl (fun ext w hext=>?_);refine qah ?_;refine A0 aL ?_;refine CNQR ?_;refine A0 aL ?_;refine CNQQR ?_;refine qcl ?_;refine xz ?_;refine qaH ?_;refine zbk (T:=idT) (d:=3) 49 rfl ?_;refine Lp (ι:=Nat) 2 (fun (k:Nat)=>((((Fr.none).set 3 (.own 1)).set 7 (.val (sl zba) p.p)).set 8 (.val i64T (p.p.length:Int))).set 9 (.val i64T (k:Int))) (fun (k:Nat)=>(Hp.none).set 1 (.row 49 idT ((p.p.take k).map fun x=>za5 x.h))) (fun (k:Nat)=>k≤p.p.length) (fun (k:Nat)=>p.p.length-k) (0) (uf _) ?_;intro k hinv;refine qar ?_;refine Cf (p:=k<p.p.length) (fun ht10=>?_) (fun ht10=>?_)
 ·
  obtain⟨x,hx⟩:∃x,p.p[k]?=some x:=⟨_,ub ht10⟩;refine CSQBQR ?_;refine qcb ?_;refine qaI ?_;refine CNR ?_;refine A0 mO ?_;refine A0 (oFp za7) ?_;refine A0 (oLb zaV zaX) ?_;refine A0 (oCl (zgw x.h) rfl fn_23 yd) ?_;refine qbT ?_;refine xq ?_;refine zj (n:=1) (y:=(p.p.take (k+1)).map fun x=>za5 x.h) rfl (by rw[un,hx,List.map_append];simp) ?_;exact Nx (k+1) ya ya
 refine qaS ?_;exact zb rfl rfl (zh rfl rfl (by rw[uc ya];rfl))
theorem levelsP_ok (p:Proof) (hl:p.p.length≤1000000000000):Tells P 65 [.val zP p] (.fresh 3 i64T (znk p)):=by
 refine zd Tryz.func65 rfl rfl rfl (fun ext w hext=>?_);refine qah ?_;refine A0 aL ?_;refine CNQR ?_;refine A0 aL ?_;refine CNQQR ?_;refine qcl ?_;refine xz ?_;refine qaH ?_;refine zbk (T:=i64T) (d:=3) 3 rfl ?_;refine Lp (ι:=Nat) 2 (fun (k:Nat)=>((((Fr.none).set 3 (.own 1)).set 7 (.val (sl zba) p.p)).set 8 (.val i64T (p.p.length:Int))).set 9 (.val i64T (k:Int))) (fun (k:Nat)=>(Hp.none).set 1 (.row 3 i64T ((p.p.take k).map fun x=>zat x.h))) (fun (k:Nat)=>k≤p.p.length) (fun (k:Nat)=>p.p.length-k) (0) (uf _) ?_;intro k hinv;refine qar ?_;refine Cf (p:=k<p.p.length) (fun ht10=>?_) (fun ht10=>?_)
 ·
  obtain⟨x,hx⟩:∃x,p.p[k]?=some x:=⟨_,ub ht10⟩;refine CSQBQR ?_;refine qcb ?_;refine qaI ?_;refine CNR ?_;refine A0 mO ?_;refine A0 (oFp za7) ?_;refine A0 (oLb zaV zaX) ?_;refine A0 (oCl (zfY x.h) rfl zvS yd) ?_;refine qbB ?_;refine A0 aO ?_;refine qbt ?_;refine xq ?_;refine zj (n:=1) (y:=(p.p.take (k+1)).map fun x=>zat x.h) rfl (by rw[un,hx,List.map_append];simp) ?_;exact Nx (k+1) ya ya
 refine qaS ?_;exact zb rfl rfl (zh rfl rfl (by rw[uc ya];rfl))
theorem cprev_ok (x:CTrial) (h:TrOk x):Tells P 53 [.rptr zfJ x] (.val i64T (zkH x)):=by
 obtain⟨h1,h2,h3,h4,h5,h6⟩:=h;obtain⟨y,hy⟩:∃y,x.p.p[x.at_.toNat]?=some y:=yB;obtain⟨z,hz⟩:∃z,x.p.p[x.at_.toNat-1]?=some z:=yB;obtain⟨d,hd⟩:∃d,x.ids[x.at_.toNat-1]?=some d:=yB;refine zd Tryz.func53 rfl rfl rfl (fun ext w hext=>?_);refine CQR ?_;refine qaQ ?_;refine zq6 25 (.box 55 zbU zkv) [some 1000001,some 1000001,some 1000001,some 1000001,some 1000001,some 1000001,some 1000001,some 1000001,some 1000001,some 1000001,some 1000001,some 1000001,some 1000001,some 1000001,some 1000001,some 1000001,some 1000001,some 1000001,some 1000001,some 1000001,some 1000001,some 1000001,some 1000001,some 1000001,some 1000001,some 1000001,none,none,none] mixed yc rfl ?_;refine XKF.ga rfl (fun _=>g_mr (.inl rfl) rfl) rfl rfl rfl rfl ?_;refine XKF.ga rfl (fun _=>zdR rfl rfl) rfl rfl rfl rfl ?_;refine XKF.ga rfl (fun _=>zhj rfl rfl zg7 zex) rfl rfl rfl rfl ?_;refine XKF.ga rfl (fun _=>zhj rfl rfl zag zao) rfl rfl rfl rfl ?_;refine XKF.ga rfl (fun _=>zf rfl rfl zci) rfl rfl rfl rfl ?_;refine XKF.ga rfl (fun _=>g_mr (.inl rfl) rfl) rfl rfl rfl rfl ?_;refine XKF.ga rfl (fun _=>zdR rfl rfl) rfl rfl rfl rfl ?_;refine XKF.ga rfl (fun _=>zhj rfl rfl zd3 zbl) rfl rfl rfl rfl ?_;refine XKF.ga rfl (fun _=>zf rfl rfl ty_3) rfl rfl rfl rfl ?_;refine XKF.ga rfl (fun _=>zV (i:=x.at_.toNat) rfl rfl rfl ya zdV yj) rfl rfl rfl rfl ?_;refine XKF.ga rfl (fun _=>zhj rfl rfl za7 zaV) rfl rfl rfl rfl ?_;refine XKF.ga rfl (fun _=>zf rfl rfl zaX) rfl rfl rfl rfl ?_;refine XKF.ga rfl (fun _=>g_mr (.inl rfl) rfl) rfl rfl rfl rfl ?_;refine XKF.ga rfl (fun _=>zdR rfl rfl) rfl rfl rfl rfl ?_;refine XKF.ga rfl (fun _=>zhj rfl rfl zg7 zex) rfl rfl rfl rfl ?_;refine XKF.ga rfl (fun _=>zhj rfl rfl zag zao) rfl rfl rfl rfl ?_;refine XKF.ga rfl (fun _=>zf rfl rfl zci) rfl rfl rfl rfl ?_;refine XKF.ga rfl (fun _=>g_mr (.inl rfl) rfl) rfl rfl rfl rfl ?_;refine XKF.ga rfl (fun _=>zdR rfl rfl) rfl rfl rfl rfl ?_;refine XKF.ga rfl (fun _=>zhj rfl rfl zd3 zbl) rfl rfl rfl rfl ?_;refine XKF.ga rfl (fun _=>zf rfl rfl ty_3) rfl rfl rfl rfl ?_;refine XKF.ga rfl yas rfl rfl rfl rfl ?_;refine XKF.ga rfl (fun _=>zV (i:=x.at_.toNat-1) rfl rfl rfl ya zdV yj) rfl rfl rfl rfl ?_;refine XKF.ga rfl (fun _=>zhj rfl rfl za7 zaV) rfl rfl rfl rfl ?_;refine XKF.ga rfl (fun _=>zf rfl rfl zaX) rfl rfl rfl rfl ?_;refine XKF.f rfl zon rfl rfl rfl rfl rfl rfl ?_;refine XKF.e rfl (fun fr' hfr kk H=>by exact zq zon rfl rfl rfl rfl (zt H)) (EffA.conv (fun fr' hfr kk H=>by exact zq zon rfl rfl rfl rfl (zt H)) y5) yai yai yai (by (repeat refine zi1 ?_ rfl);exact fun _ _=>rfl) ?_;refine XKF.ew (x:=.idk) rfl yc (fun fr' hfr kk H=>by exact zg rfl rfl rfl ((hfr 3 yc).trans rfl) rfl (Lens.self _) zaX ((hfr 17 yc).trans rfl) (zt H)) yai (by (repeat refine zi1 ?_ rfl);exact fun _ _=>rfl) ?_;refine XKF.ew (x:=.idk) rfl yc (fun fr' hfr kk H=>by exact zg rfl rfl rfl ((hfr 4 yc).trans rfl) rfl (Lens.self _) zaX ((hfr 30 yc).trans rfl) (zt H)) yai (by (repeat refine zi1 ?_ rfl);exact fun _ _=>rfl) ?_;refine XKF.nilp trivial ?_;refine qb0 ?_;refine qca ?_;refine G0 (oFr zd3 zbl) ?_;refine qc8 ?_;refine qca ?_;refine G0 (oFr zg7 zex) ?_;refine G0 (oFr zag zao) ?_;refine G0 (zf rfl rfl zci) ?_;refine G0 yaj ?_;refine qca ?_;refine G0 (oFr zg7 zex) ?_;refine G0 (oFr zcI zcp) ?_;refine qc8 ?_;refine G0 zbT ?_;refine G0 zfb ?_;refine qbs ?_;refine CQ ?_;refine qb0 ?_;refine G0 (oFp zcf) ?_;refine G0 (oLb zaa ty_3) ?_
 refine G0 (oFp zcf) ?_;refine G0 (oLb zaa ty_3) ?_;refine G0 zgV ?_;refine G0 mV ?_;refine zaG (d:=53) (p:=y.h.height≤z.h.height) rfl yz (fun g53=>?_) (fun g53=>?_)
 ·
  refine qbn ?_;refine G2 ?_;refine G2 ?_;refine qbP ?_;refine G2 ?_;refine G2 ?_;refine qai ?_;refine qai ?_;refine G2 ?_;refine qby ?_;refine Ct ?_;refine qa3 ?_;exact zb rfl rfl (za rfl ((zjL hy hz hd (.inl g53)).symm))
 refine G1 (oFp zcX) ?_;refine G1 (oLb za2 zcd) ?_;refine G1 (oFp zcX) ?_;refine G1 (oLb za2 zcd) ?_;refine G1 zcQ ?_;refine qbP ?_;refine zaG (d:=60) (p:=¬y.h.bits=z.h.bits) rfl (by simp[toI_u32]) (fun g60=>?_) (fun g60=>?_)
 ·
  refine G2 ?_;refine G2 ?_;refine qai ?_;refine qai ?_;refine G2 ?_;refine qby ?_;refine Ct ?_;refine qa3 ?_;exact zb rfl rfl (za rfl ((zjL hy hz hd (.inr (.inl g60))).symm))
 refine G1 mV ?_;refine G1 mV ?_;refine zaG (d:=62) (p:=(x.p.p.length:Int)-x.p.k≤x.at_) rfl yz (fun g62=>?_) (fun g62=>?_)
 ·
  refine G1 (oFp zcf) ?_;refine G1 (oLb zaa ty_3) ?_;refine G1 (oFp zcf) ?_;refine G1 (oLb zaa ty_3) ?_;refine G1 zdl ?_;refine G1 zcQ ?_;refine G1 mV ?_;refine zaG (d:=69) (p:=¬y.h.height=IntKind.i64.wrap (z.h.height+1)) rfl yw (fun g69=>?_) (fun g69=>?_)
  ·
   refine qad ?_;refine qad ?_;refine G2 ?_;refine G2 ?_;refine G1 oK ?_;refine G1 oK ?_;refine qby ?_;refine Ct ?_;refine qa3 ?_;exact zb rfl rfl (za rfl ((zjL hy hz hd (.inr (.inr ⟨g62,.inl g69⟩))).symm))
  refine G1 (oFp zfF) ?_;refine G1 (oLb zc4 z6) ?_;refine qcW ?_;refine G1 mR ?_;refine G1 (zdR rfl rfl) ?_;refine G1 (oFr zd3 zbl) ?_;refine G1 (zf rfl rfl ty_3) ?_;refine G1 zbT ?_;refine G1 (zV (i:=x.at_.toNat-1) rfl rfl rfl ya zdD yj) ?_;refine G1 (zf rfl rfl z6) ?_;refine G1 (zgy rfl rfl rfl (zh1)) ?_;refine G1 oK ?_;refine G1 oK ?_;refine qby ?_;refine zn (p:=¬y.h.prev=d) rfl yA (fun ht86=>?_) (fun ht86=>?_)
  ·
   refine qa3 ?_;exact zb rfl rfl (za rfl ((zjL hy hz hd (.inr (.inr ⟨g62,.inr ht86⟩))).symm))
  refine CSQR ?_;refine qae ?_;exact zb rfl rfl (za rfl ((zqd hy hz hd (fun h=>h.elim g53 (fun h=>h.elim g60 (fun h=>h.2.elim g69 ht86)))).symm))
 refine qad ?_;refine G2 ?_;refine qai ?_;refine G3 ?_;refine G3 ?_;refine G3 ?_;refine G2 ?_;refine G1 oK ?_;refine qby ?_;refine Cg ?_;refine CSQR ?_;refine qae ?_;exact zb rfl rfl (za rfl ((zqd hy hz hd (fun h=>h.elim g53 (fun h=>h.elim g60 (fun h=>g62 h.1)))).symm))
theorem clink_ok (x:CTrial) (h:TrOk x):Tells P 54 [.rptr zfJ x] (.val i64T (zkL x)):=by
 obtain⟨h1,h2,h3,h4,h5,h6⟩:=h;obtain⟨y,hy⟩:∃y,x.p.p[x.at_.toNat]?=some y:=yB;obtain⟨d,hd⟩:∃d,x.ids[x.at_.toNat-1]?=some d:=yB;obtain⟨c,hc⟩:∃c,x.ids[0]?=some c:=yB;refine zd Tryz.func54 rfl rfl rfl (fun ext w hext=>?_);refine CQR ?_;refine qaQ ?_;refine zA [some 1000001,some 1000001,some 1000001,some 1000001,some 1000001,some 1000001,some 1000001,some 1000001,some 1000001,some 1000001,some 1000001,none,none] mixed yc ?_;refine XK.ga (fun _=>g_mr (.inl rfl) rfl) rfl rfl rfl ?_;refine XK.ga (fun _=>zdR rfl rfl) rfl rfl rfl ?_;refine XK.ga (fun _=>zhj rfl rfl zg7 zex) rfl rfl rfl ?_;refine XK.ga (fun _=>zhj rfl rfl zag zao) rfl rfl rfl ?_;refine XK.ga (fun _=>zf rfl rfl zci) rfl rfl rfl ?_;refine XK.ga (fun _=>g_mr (.inl rfl) rfl) rfl rfl rfl ?_;refine XK.ga (fun _=>zdR rfl rfl) rfl rfl rfl ?_;refine XK.ga (fun _=>zhj rfl rfl zd3 zbl) rfl rfl rfl ?_;refine XK.ga (fun _=>zf rfl rfl ty_3) rfl rfl rfl ?_;refine XK.ga (fun _=>zV (i:=x.at_.toNat) rfl rfl rfl ya zdV yj) rfl rfl rfl ?_;refine XK.ga (fun _=>zf rfl rfl zeW) rfl rfl rfl ?_;refine XK.e (fun fr' hfr kk H=>by exact zq zrl rfl rfl rfl rfl (zt H)) ?_;refine XK.e (x:=.idk) (fun fr' hfr kk H=>by exact zg rfl rfl rfl ((hfr 3 yc).trans rfl) rfl (Lens.self _) zeW ((hfr 14 yc).trans rfl) (zt H)) ?_;refine XK.nil' ?_;refine CQ ?_;refine qb0 ?_;refine G0 (oFp zbz) ?_;refine G0 (oLb zbC zcc) ?_;refine G0 (zN rfl rfl zfA) ?_;refine G0 zaH ?_;refine G0 mV ?_;refine zaG (d:=19) (p:=y.l.length=0) rfl (by rw[uo];simp[IntL.toI]) (fun g19=>?_) (fun g19=>?_)
 ·
  refine qbn ?_;refine G2 ?_;refine qbP ?_;refine qad ?_;refine qbn ?_;refine G2 ?_;refine G2 ?_;refine qbP ?_;refine qad ?_;refine qad ?_;refine qad ?_;refine qbP ?_;refine qad ?_;refine G2 ?_;refine qby ?_;refine Ct ?_;refine qa3 ?_;exact zb rfl rfl (za rfl ((zhI hy hc hd (.inl g19)).symm))
 refine G1 (oFp zbz) ?_;refine G1 (oLb zbC zcc) ?_;refine G1 (zN rfl rfl zfA) ?_;refine G1 zbH ?_;refine qbP ?_;refine zaG (d:=25) (p:=32<y.l.length) rfl yz (fun g25=>?_) (fun g25=>?_)
 ·
  refine qad ?_;refine qbn ?_;refine G2 ?_;refine G2 ?_;refine qbP ?_;refine qad ?_;refine qad ?_;refine qad ?_;refine qbP ?_;refine qad ?_;refine G2 ?_;refine qby ?_;refine Ct ?_;refine qa3 ?_;exact zb rfl rfl (za rfl ((zhI hy hc hd (.inr (.inl g25))).symm))
 obtain⟨e,he⟩:∃e,y.l[0]?=some e:=yB;have hel:y.l.getD 0 zId=e:=by simp[he]
 refine G1 (oFp zbz) ?_;refine G1 (oLb zbC zcc) ?_;refine qcj ?_;refine qcW ?_;refine qcj ?_;refine G1 (zgy rfl rfl rfl (zh1)) ?_;refine qbP ?_;refine zaG (d:=38) (p:=¬e=c) rfl yA (fun g38=>?_) (fun g38=>?_)
 ·
  refine qad ?_;refine qad ?_;refine qad ?_;refine qbP ?_;refine qad ?_;refine G2 ?_;refine qby ?_;refine Ct ?_;refine qa3 ?_;exact zb rfl rfl (za rfl ((zhI hy hc hd (.inr (.inr (.inl (by rw[hel];exact g38))))).symm))
 refine G1 (oFp zbz) ?_;refine G1 (oLb zbC zcc) ?_;refine G1 (oFp za7) ?_;refine G1 (oFp zfF) ?_;refine G1 (oLb (zaV.comp zc4) z6) ?_;refine qcW ?_;refine G1 mR ?_;refine G1 (zdR rfl rfl) ?_;refine G1 (oFr zd3 zbl) ?_;refine G1 (zf rfl rfl ty_3) ?_;refine G1 zbT ?_;refine G1 (zV (i:=x.at_.toNat-1) rfl rfl rfl ya zdD yj) ?_;refine G1 (zf rfl rfl z6) ?_;refine G1 (oCl (leads_ok y.l y.h.prev d) rfl fn_119 ⟨yn,yn,yb,trivial⟩) ?_;refine G1 oN ?_;refine qbP ?_;refine zaG (d:=58) (p:=zhK y.l y.h.prev d=false) rfl (by show(!(zhK y.l y.h.prev d))=_;cases zhK y.l y.h.prev d<;>rfl) (fun g58=>?_) (fun g58=>?_)
 ·
  refine qad ?_;refine G2 ?_;refine qby ?_;refine Ct ?_;refine qa3 ?_;exact zb rfl rfl (za rfl ((zhI hy hc hd (.inr (.inr (.inr (.inl g58))))).symm))
 refine G1 (oFp zbz) ?_;refine G1 (oLb zbC zcc) ?_;refine G1 (oCl (zjb y.l ya) rfl fn_114 yd) ?_;refine G1 (oFp za7) ?_;refine G1 (oFp zfE) ?_;refine G1 (oLb (zaV.comp zcs) z6) ?_;refine G1 (zgy rfl rfl rfl (zh1)) ?_;refine qby ?_;refine zn (p:=¬zcM y.l=y.h.links) rfl yA (fun ht66=>?_) (fun ht66=>?_)
 ·
  refine qa3 ?_;exact zb rfl rfl (za rfl ((zhI hy hc hd (.inr (.inr (.inr (.inr ht66))))).symm))
 refine CSQR ?_;refine qae ?_;exact zb rfl rfl (za rfl ((zvq hy hc hd (fun h=>h.elim g19 (fun h=>h.elim g25 (fun h=>h.elim (by rw[hel];exact g38) (fun h=>h.elim g58 ht66))))).symm))
theorem cwork_ok (x:CTrial) (h:TrOk x):Tells P 55 [.rptr zfJ x] (.val i64T (zmr x)):=by
 obtain⟨h1,h2,h3,h4,h5,h6⟩:=h;obtain⟨y,hy⟩:∃y,x.p.p[x.at_.toNat]?=some y:=yB;refine zd Tryz.func55 rfl rfl rfl (fun ext w hext=>?_);refine CQR ?_;refine qaQ ?_;refine qb0 ?_;refine qca ?_;refine G0 (oFr zg7 zex) ?_;refine G0 (oFr zag zao) ?_;refine G0 (zf rfl rfl zci) ?_;refine qca ?_;refine G0 (oFr zd3 zbl) ?_;refine qc8 ?_;refine G0 (zV (i:=x.at_.toNat) rfl rfl rfl ya zdV yj) ?_;refine G0 (oFr za7 zaV) ?_;refine G0 (zf rfl rfl zaX) ?_;refine G0 (oCl (zkT y.h) rfl fn_120 ybM) ?_;refine G0 oN ?_;refine GK.nil ?_;refine zn (p:=¬zcl y.h=true) rfl (by cases zcl y.h<;>rfl) (fun ht16=>?_) (fun ht16=>?_)
 ·
  refine qa3 ?_;exact zb rfl rfl (za rfl (by unfold zmr workF;rw[ziM hy,ut ht16]))
 refine CSQR ?_;refine qae ?_;exact zb rfl rfl (za rfl (by unfold zmr workF;rw[ziM hy,ur ht16]))
theorem zeO (p:Proof):Tells P 17 [.val zP p] (.val i64T (zK p)):=by
 refine zd Tryz.func17 rfl rfl rfl (fun ext w hext=>?_);refine qah ?_;refine qbO ?_;refine A0 (oFp zcY) ?_;refine A0 (oLb zcB ty_3) ?_;refine A0 zcy ?_;refine qa7 ?_;refine Sp (d:=12) (p:=p.m<1) (fun g12=>?_) (fun g12=>?_)
 ·
  refine qb1 ?_;refine qaf ?_;refine qcU ?_;refine Ct ?_;refine qa3 ?_;exact zb rfl rfl (za rfl (ybn))
 refine A1 (oFp zcY) ?_;refine A1 (oLb zcB ty_3) ?_;refine A1 zbH ?_;refine qaf ?_;refine Sp (d:=17) (p:=20<p.m) (fun g17=>?_) (fun g17=>?_)
 ·
  refine qb1 ?_;refine qau ?_;refine Ct ?_;refine qa3 ?_;exact zb rfl rfl (za rfl (ybn))
 refine A1 (oFp zcI) ?_;refine A1 (oLb zcp ty_3) ?_;refine A1 zcy ?_;refine qaf ?_;refine Sp (d:=22) (p:=p.k<1) (fun g22=>?_) (fun g22=>?_)
 ·
  refine qcU ?_;refine Ct ?_;refine qa3 ?_;exact zb rfl rfl (za rfl (ybn))
 refine A1 (oFp zcI) ?_;refine A1 (oLb zcp ty_3) ?_;refine A1 zbH ?_;refine qau ?_;refine Cf (p:=20<p.k) (fun ht26=>?_) (fun ht26=>?_)
 ·
  refine qa3 ?_;exact zb rfl rfl (za rfl (ybn))
 refine CSQQR ?_;refine qcl ?_;refine xz ?_;refine A0 zbH ?_;refine qa7 ?_;refine Sp (d:=31) (p:=100<p.p.length) (fun g31=>?_) (fun g31=>?_)
 ·
  refine qaa ?_;refine qcU ?_;refine Ct ?_;refine qa3 ?_;exact zb rfl rfl (za rfl ((by unfold zK;rw[ur ya,ut ya])))
 refine A1 (oFp zag) ?_;refine A1 (oLb zao zci) ?_;refine A1 (zN rfl rfl zb5) ?_;refine A1 (oFp zcI) ?_;refine A1 (oLb zcp ty_3) ?_;refine A1 zgV ?_;refine qau ?_;refine Cf (p:=(p.p.length:Int)≤p.k) (fun ht38=>?_) (fun ht38=>?_)
 ·
  refine qa3 ?_;exact zb rfl rfl (za rfl ((by unfold zK;rw[ur ya,ut ya])))
 obtain⟨a,ha⟩:∃a,p.p[0]?=some a:=yB;have hag:p.p.getD 0 zju=a:=by simp[ha]
 refine CSQR ?_;refine qcl ?_;refine A0 (zV (i:=0) rfl rfl rfl ya zdV yj) ?_;refine A0 (oFr za7 zaV) ?_;refine A0 (oFr zcX za2) ?_;refine A0 (zf rfl rfl zcd) ?_;refine A0 (oCl (zjg a.h.bits) rfl fn_52 ybM) ?_;refine qcX ?_;refine qaQ ?_;refine qb0 ?_;refine G0 mV ?_;refine G0 oN ?_;refine G0 mV ?_;refine zaG (d:=51) (p:=zbG a.h.bits=false) rfl (by cases zbG a.h.bits<;>rfl) (fun g51=>?_) (fun g51=>?_)
 ·
  refine qad ?_;refine G2 ?_;refine qbP ?_;refine qad ?_;refine qbn ?_;refine qby ?_;refine Ct ?_;refine qa3 ?_;exact zb rfl rfl (za rfl ((by unfold zK;rw[ur ya,ur ya,hag,ut (.inl g51)])))
 refine G1 (oFp zag) ?_;refine G1 (oLb zao zci) ?_;refine G1 (zV (i:=0) rfl rfl rfl ya zdV yj) ?_;refine G1 (oFr zbz zbC) ?_;refine G1 (zf rfl rfl zcc) ?_;refine G1 ybz ?_;refine G1 zbH ?_;refine qbP ?_;refine zaG (d:=60) (p:=0<a.l.length) rfl yz (fun g60=>?_) (fun g60=>?_)
 ·
  refine qad ?_;refine qbn ?_;refine qby ?_;refine Ct ?_;refine qa3 ?_;exact zb rfl rfl (za rfl ((by unfold zK;rw[ur ya,ur ya,hag,ut (.inr (.inl g60))])))
 refine G1 (oFp zag) ?_;refine G1 (oLb zao zci) ?_;refine G1 (zV (i:=0) rfl rfl rfl ya zdV yj) ?_;refine G1 (oFr za7 zaV) ?_;refine G1 (zf rfl rfl zaX) ?_;refine G1 (oFp zel) ?_;refine G1 (oFp zce) ?_;refine G1 (oLb (zev.comp zaN) zaX) ?_;refine G1 (zgy rfl rfl rfl (zlz)) ?_;refine qby ?_;refine zn (p:=¬a.h=(zan a.h.bits).b.h) rfl yA (fun ht70=>?_) (fun ht70=>?_)
 ·
  refine qa3 ?_;exact zb rfl rfl (za rfl ((by unfold zK;rw[ur ya,ur ya,hag,ut (.inr (.inr ht70))])))
 have hcp:zK p=zf6 p (idsP p) (p.p.length-1) 1:=by unfold zK;rw[ur ya,ur ya,hag,ur (fun h=>h.elim g51 (fun h=>h.elim g60 ht70))]
 have hids:=zB (zsD p ya);obtain⟨ids,hid⟩:∃ids,ids=idsP p:=⟨_,rfl⟩;rw[←hid] at hids hcp;have hidl:ids.length=p.p.length:=by rw[hid];unfold idsP;simp
 refine qcH ?_;refine zA [some 1,some 1,some 1,some 1,none,some 1] mixed yc ?_;refine X0 (oLs rfl rfl rfl zaD) ?_;refine X0 (oLs rfl rfl rfl zaD) ?_;refine X0 (oCl (hids) rfl fn_22 yd) ?_;refine X0 (zy rfl ze_117 bd_117 (.cons zg7 zex zaD rfl (.cons zv3 zlG zcc rfl .nil)) rfl) ?_;refine XK.e (fun fr' hfr kk H=>by exact zi0 rfl rfl rfl rfl ((hfr 74 yc).trans rfl) (zt H)) ?_;refine X0 aP ?_;refine XK.nil' ?_;refine CQQR ?_;refine A0 mP ?_;refine qco ?_;refine A0 (oFp zd3) ?_;refine zg rfl rfl rfl rfl rfl zbl ty_3 rfl ?_;refine CNB ?_;refine zF (n:=2) (y:=(⟨p,ids,((1:Nat):Int)⟩:CTrial)) rfl rfl ?_;refine Lp (ι:=Nat) 3 (fun i=>(Fr.none.set 1 (.ptr 0 0)).set 5 (.ptr 2 0)) (fun i=>(Hp.none.set 0 (.box 27 zP p)).set 2 (.box 117 zfJ ⟨p,ids,(i:Int)⟩)) (fun i=>1≤i∧i≤p.p.length∧zK p=zf6 p ids (p.p.length-i) i) (fun i=>p.p.length-i) (1) (⟨ug _,by omega,hcp⟩) ?_;intro i hinv;refine CQ ?_;refine qb0 ?_;refine G0 mP ?_;refine G0 (g_nc rfl rfl) ?_;refine G0 (oFp zd3) ?_;refine G0 (oLb zbl ty_3) ?_;refine G0 (oFp zag) ?_;refine G0 (oLb zao zci) ?_;refine G0 (zN rfl rfl zb5) ?_;refine G0 zcy ?_;refine GK.nil ?_;refine Cf (p:=i<p.p.length) (fun ht86=>?_) (fun ht86=>?_)
 ·
  have htr:TrOk ⟨p,ids,(i:Int)⟩:=⟨by show(1:Int)≤i;omega,by show(i:Int)<p.p.length;omega,hidl,by show p.p.length≤100;omega,by show 1≤p.k;omega,by show p.k≤20;omega⟩;refine CSQBQR ?_;refine A0 (zqN (xs:=[_,_,_]) rfl zwr ze_120 ⟨rfl,⟨_,rfl,rfl⟩,rfl,⟨_,rfl,rfl⟩,rfl,⟨_,rfl,rfl⟩,trivial⟩ rfl) ?_;refine zi (d:=94) (y:=three) rfl rfl ?_;refine qaH ?_;refine Lp (ι:=Nat) 3 (fun (j:Nat)=>((((Fr.none).set 1 (.ptr 0 0)).set 5 (.ptr 2 0)).set 94 (.val (arrT 3 yr fnoT) three)).set 95 (.val i64T (j:Int))) (fun (j:Nat)=>((Hp.none).set 0 (.box 27 zP p)).set 2 (.box 117 zfJ ⟨p,ids,(i:Int)⟩)) (fun (j:Nat)=>j≤3∧zd2 three ⟨p,ids,i⟩=zd2 (three.drop j) ⟨p,ids,i⟩) (fun (j:Nat)=>3-j) (0) (⟨by omega,rfl⟩) ?_;intro j hj;refine qar ?_;refine Cf (p:=j<3) (fun ht96=>?_) (fun ht96=>?_)
  ·
   obtain⟨e,he⟩:∃e,three[j]?=some e:=⟨_,ub (show j<three.length from ht96)⟩;have hask:e=some 53∨e=some 54∨e=some 55:=by have h:=ud he;unfold three at h;simpa using h
   rcases hask with hk|hk|hk
   ·
    refine CSQBQR ?_;refine A0 (zhU rfl rfl rfl rfl zwr ty_118 yj) ?_;refine zi (d:=97) rfl hk ?_;refine zdA (d:=97) (f:=53) rfl ?_;refine A0 aC ?_;refine CNQR ?_;refine A0 mC ?_;refine A0 mP ?_;refine A0 (ze0 (As:=[_]) (Cs:=[]) (cprev_ok ⟨p,ids,i⟩ htr) rfl rfl fn_53 ybO yF trivial rfl) ?_;refine qay ?_;refine zn (p:=¬askC e ⟨p,ids,i⟩=0) rfl (by simp[askC,hk,IntL.toI]) (fun ht102=>?_) (fun ht102=>?_)
    ·
     refine qbX ?_;exact zb rfl rfl (za rfl yax)
    refine qbq ?_;exact Nx (j+1) (⟨by omega,hj.2.trans (zjh he (ua ht102))⟩) ya
   ·
    refine CSQBQR ?_;refine A0 (zhU rfl rfl rfl rfl zwr ty_118 yj) ?_;refine zi (d:=97) rfl hk ?_;refine zdA (d:=97) (f:=54) rfl ?_;refine A0 aC ?_;refine CNQR ?_;refine A0 mC ?_;refine A0 mP ?_;refine A0 (ze0 (As:=[_]) (Cs:=[]) (clink_ok ⟨p,ids,i⟩ htr) rfl rfl fn_54 ybO yF trivial rfl) ?_;refine qay ?_;refine zn (p:=¬askC e ⟨p,ids,i⟩=0) rfl (by simp[askC,hk,IntL.toI]) (fun ht102=>?_) (fun ht102=>?_)
    ·
     refine qbX ?_;exact zb rfl rfl (za rfl yax)
    refine qbq ?_;exact Nx (j+1) (⟨by omega,hj.2.trans (zjh he (ua ht102))⟩) ya
   refine CSQBQR ?_;refine A0 (zhU rfl rfl rfl rfl zwr ty_118 yj) ?_;refine zi (d:=97) rfl hk ?_;refine zdA (d:=97) (f:=55) rfl ?_;refine A0 aC ?_;refine CNQR ?_;refine A0 mC ?_;refine A0 mP ?_;refine A0 (ze0 (As:=[_]) (Cs:=[]) (cwork_ok ⟨p,ids,i⟩ htr) rfl rfl fn_55 ybO yF trivial rfl) ?_;refine qay ?_;refine zn (p:=¬askC e ⟨p,ids,i⟩=0) rfl (by simp[askC,hk,IntL.toI]) (fun ht102=>?_) (fun ht102=>?_)
   ·
    refine qbX ?_;exact zb rfl rfl (za rfl yax)
   refine qbq ?_;exact Nx (j+1) (⟨by omega,hj.2.trans (zjh he (ua ht102))⟩) ya
  refine CE ?_;refine CI ?_;refine CR ?_;refine A0 mP ?_;refine qco ?_;refine A0 (oFp zd3) ?_;refine A0 (oLb zbl ty_3) ?_;refine A0 zdl ?_;refine qco ?_;refine A0 (oFp zd3) ?_;refine zg rfl rfl rfl rfl rfl zbl ty_3 rfl ?_;refine CN ?_;refine zF (n:=2) (y:=(⟨p,ids,((i+1:Nat):Int)⟩:CTrial)) rfl rfl ?_;exact Nx (i+1) (⟨by omega,by omega,by rw[hinv.2.2];exact trials_go ht86 (hj.2.trans (by rw[List.drop_of_length_le (show three.length≤j by show 3≤j;omega)];rfl))⟩) ya
 refine qcM ?_;exact zb rfl rfl (za rfl (by rw[hinv.2.2,show p.p.length-i=0 by omega];rfl))
theorem fewPr_ok (p:Proof):Tells P 81 [.val zP p] (.val zl (zoM p)):=by
 refine zd Tryz.func81 rfl rfl rfl (fun ext w hext=>?_);refine qah ?_;refine qbO ?_;refine qcq ?_;refine Lp (ι:=Nat) 1 (fun (k:Nat)=>((Fr.none).set 1 (.ptr 0 0)).set 3 (.val i64T (k:Int))) (fun (k:Nat)=>(Hp.none).set 0 (.box 27 zP p)) (fun (k:Nat)=>k≤p.p.length∧(p.p.take k).all (fun x=>decide (x.l.length≤40))=true) (fun (k:Nat)=>p.p.length-k) (0) (⟨uf _,rfl⟩) ?_;intro k hinv;refine qbQ ?_;refine qcl ?_;refine ze (d:=6) rfl zm (fun hsl6=>?_);refine xz ?_;refine qbr ?_;refine Cf (p:=k<p.p.length) (fun ht8=>?_) (fun ht8=>?_)
 ·
  obtain⟨x,hx⟩:∃x,p.p[k]?=some x:=⟨_,ub ht8⟩;refine CSQBQR ?_;refine qcl ?_;refine qa7 ?_;refine A0 (zbu rfl rfl rfl zdV yj) ?_;refine A0 (oFr zbz zbC) ?_;refine A0 (zf rfl rfl zcc) ?_;refine qcg ?_;refine qcL ?_;refine Cf (p:=40<x.l.length) (fun ht18=>?_) (fun ht18=>?_)
  ·
   refine qa3 ?_;exact zb rfl rfl (za rfl ((by symm;unfold zoM;rw[Bool.and_eq_false_iff];left;rw[List.all_eq_false];exact⟨x,ud hx,by simp;omega⟩)))
  refine qa2 ?_;exact Nx (k+1) (⟨by omega,by rw[un,hx,List.all_append,hinv.2];simp;omega⟩) ya
 refine CE ?_;refine CQR ?_;refine qcl ?_;refine xz ?_;refine A0 zgV ?_;refine qae ?_;exact zb rfl rfl (za rfl ((by have h:=hinv.2;rw[uc ya] at h;unfold zoM;rw[h,Bool.true_and,uo];simp only[IntL.toI,id_eq];omega)))
theorem easy_newOf:newOf 545259519=[zcZ]:=by unfold newOf;rw[ut zqS,zqR];rfl
def zdG:Proof:=⟨1,1,[⟨zh3,[]⟩,⟨zbm.h,[id0]⟩]⟩
theorem zpB (y:Int):∀i:Nat,i≤32→zbj [31,y] 1 1 i=(0,if i=0 then [] else [0])
  | 0,_=>rfl
  | i+1,h=>by
    have ih:=zpB y i ya;have hu:upOf [31,y] 0 ((([31,y]:List Int).length:Int)-1) (31-(i:Int))=[0]:=by
      show upR [31,y] (31-(i:Int)) 0 (0+1)=[0];rw[upR_yes (v:=[31,y]) (n:=31-(i:Int)) (x:=31) (a:=0) (i:=0) rfl (ug _) ya,zuM];rfl
    have e1:(zbj [31,y] 1 1 i).1=0:=by rw[ih]
    have e2:(zbj [31,y] 1 1 i).2=if i=0 then [] else [0]:=by rw[ih]
    show(if _ then _ else _,_)=_;have h0:(if i+1=0 then ([]:List Int) else [0])=[0]:=ur ya;rw[e1,e2,hu,h0,ur yr];by_cases c:i=0<;>simp[c,zdW]
theorem easy_lvs:zbp [zcZ,zbm]=[31,zat zbm.h]:=by
  show [zat zh3,zat zbm.h]=_;rw[easy_level]
theorem easy_le1:decide (zat zbm.h≤31)=true:=yo
theorem easy_mayP:mayP [31,zat zbm.h] 1 1=true:=by
  have h1:=of_decide_eq_true zuf;have h2:=of_decide_eq_true easy_le1;unfold mayP mayV;generalize zat zbm.h=y at h1 h2;simp;omega
theorem zud:zbo (zbp [zcZ,zbm]) 1 1=([0],true):=by
  unfold zbo;rw[easy_lvs,ut easy_mayP,zpB _ 32 (ug _),ur yr];simp[zbw]
theorem zv5:prE [zcZ,zbm] 1 1=0:=by
  unfold prE;rw[zug,ur yr,ur yr]
theorem easy_pr:prOf [zcZ,zbm] 1 1=zdG:=by
  unfold prOf;rw[ut zv5];unfold zdx;rw[zud];rfl
theorem zue:zcM [id0]=zbm.h.links:=(zu2 _).trans easy_lk
theorem zpx:zK zdG=0:=by
  have ei:idsP zdG=[id0,za5 zbm.h]:=by show [za5 zh3,za5 zbm.h]=_;rw[zqT]
  unfold zK;rw[ur yr,ur yr,ur (by
    rintro (h|h|h)
    · exact absurd (show zbG 545259519=true from zqS) (by rw[show zbG 545259519=false from h];decide)
    · exact absurd h yr
    exact h (show zh3=(zan 545259519).b.h by rw[zqR];rfl)),ei]
  show(if _ then _ else _)=_;have hf:zd2 three ⟨zdG,[id0,za5 zbm.h],((1:Nat):Int)⟩=0:=by
    rw[zly];have e1:zkH ⟨zdG,[id0,za5 zbm.h],((1:Nat):Int)⟩=0:=zqd (y:=⟨zbm.h,[id0]⟩) (z:=⟨zh3,[]⟩) (d:=id0) rfl rfl rfl (by
      rintro (h|h|⟨_,h|h⟩)
      · exact absurd h yr
      · exact h rfl
      · exact h rfl
      exact h rfl)
    have e2:zkL ⟨zdG,[id0,za5 zbm.h],((1:Nat):Int)⟩=0:=zvq (y:=⟨zbm.h,[id0]⟩) (c:=id0) (d:=id0) rfl rfl rfl (by
      rintro (h|h|h|h|h)
      · exact absurd h yr
      · exact absurd h yr
      · exact h rfl
      · rw[show zhK [id0] zbm.h.prev id0=true by unfold zhK;rw[ui (show zbm.h.prev=id0 from rfl)];rfl] at h;cases h
      exact h zue)
    have e3:zmr ⟨zdG,[id0,za5 zbm.h],((1:Nat):Int)⟩=0:=by
      unfold zmr workF;rw[ziM (y:=⟨zbm.h,[id0]⟩) rfl,ur (fun h=>h znM)]
    rw[ur (fun h=>h e1),ur (fun h=>h e2),e3]
  rw[ut hf];rfl
def yAt (p:Proof) (i:Nat):Part:=p.p.getD i zju
def stepOk (p:Proof) (i:Nat):Prop :=
  zr1 (yAt p i) (yAt p (i-1)) ((p.p.length:Int)-p.k≤(i:Int)) (za5 (yAt p (i-1)).h)=0∧zse (yAt p i) (za5 (yAt p 0).h) (za5 (yAt p (i-1)).h)=0∧workF (yAt p i)=0
def beginOk (a:Part):Prop:=zbG a.h.bits=true∧a.l.length=0∧a.h=(zan a.h.bits).b.h
structure HoldsP (p:Proof):Prop where
  m1:1≤p.m
  m2:p.m≤20
  k1:1≤p.k
  k2:p.k≤20
  l1:p.k<p.p.length
  l2:p.p.length≤100
  fst:beginOk (yAt p 0)
  steps:∀i,1≤i→i<p.p.length→stepOk p i
theorem prevF_zero {y z:Part} {last:Prop} [Decidable last] {d:Ab.Id}:zr1 y z last d=0↔z.h.height<y.h.height∧y.h.bits=z.h.bits∧(last→y.h.height=IntKind.i64.wrap (z.h.height+1)∧y.h.prev=d):=by
  unfold zr1
  constructor
  · intro h
    have hn:¬(y.h.height≤z.h.height∨¬y.h.bits=z.h.bits∨last∧(¬y.h.height=IntKind.i64.wrap (z.h.height+1)∨¬y.h.prev=d)):=fun c=>by rw[ut c] at h;cases h
    refine⟨Int.not_le.1 fun c=>hn (.inl c),ua fun c=>hn (.inr (.inl c)),fun hl=>⟨ua fun c=>hn (.inr (.inr ⟨hl,.inl c⟩)),ua fun c=>hn (.inr (.inr ⟨hl,.inr c⟩))⟩⟩
  rintro ⟨h1,h2,h3⟩
  rw[ur]
  rintro (c|c|⟨hl,c|c⟩)
  · omega
  · exact c h2
  · exact c (h3 hl).1
  exact c (h3 hl).2
theorem linkF_zero {y:Part} {c d:Ab.Id}:zse y c d=0↔1≤y.l.length∧y.l.length≤32∧y.l.getD 0 zId=c∧zhK y.l y.h.prev d=true∧zcM y.l=y.h.links:=by
  unfold zse
  constructor
  · intro h
    have hn:¬(y.l.length=0∨32<y.l.length∨¬y.l.getD 0 zId=c∨zhK y.l y.h.prev d=false∨¬zcM y.l=y.h.links):=fun c=>by rw[ut c] at h;cases h
    refine⟨Nat.one_le_iff_ne_zero.2 fun e=>hn (.inl e),Nat.not_lt.1 fun e=>hn (.inr (.inl e)),ua fun e=>hn (.inr (.inr (.inl e))),?_,ua fun e=>hn (.inr (.inr (.inr (.inr e))))⟩;cases e:zhK y.l y.h.prev d
    · exact absurd (.inr (.inr (.inr (.inl e)))) hn
    rfl
  rintro ⟨h1,h2,h3,h4,h5⟩
  rw[ur]
  rintro (e|e|e|e|e)
  · omega
  · omega
  · exact e h3
  · rw[h4] at e;cases e
  exact e h5
theorem zi4 {p:Proof} {ids:List Ab.Id}:∀(n i:Nat),zf6 p ids n i=0↔∀j,i≤j→j<i+n→zd2 three ⟨p,ids,j⟩=0
  | 0,i=>by simp[zf6];intro j h1 h2;omega
  | n+1,i=>by
    show(if zd2 three ⟨p,ids,i⟩=0 then zf6 p ids n (i+1) else zd2 three ⟨p,ids,i⟩)=0↔_;by_cases c:zd2 three ⟨p,ids,i⟩=0
    · rw[ut c,zi4 n (i+1)]
      constructor
      · intro h j h1 h2
        by_cases e:j=i
        · rw[e];exact c
        exact h j ya ya
      intro h j h1 h2;exact h j ya ya
    rw[ur c];exact⟨fun h=>absurd h c,fun h=>h i (ug _) ya⟩
theorem zsE (p:Proof) {i:Nat} (h:i<p.p.length):(idsP p)[i]?=some (za5 (yAt p i).h):=by
  unfold idsP yAt;rw[List.getElem?_map,ub h];simp[h]
theorem at_ (p:Proof) {i:Nat} (h:i<p.p.length):p.p[i]?=some (yAt p i):=by unfold yAt;rw[ub h];simp[h]
theorem zpq (p:Proof) {i:Nat} (h1:1≤i) (h:i<p.p.length):zd2 three ⟨p,idsP p,(i:Int)⟩=0↔stepOk p i:=by
  rw[zly];have e1:zkH ⟨p,idsP p,(i:Int)⟩=zr1 (yAt p i) (yAt p (i-1)) ((p.p.length:Int)-p.k≤(i:Int)) (za5 (yAt p (i-1)).h):=by
    unfold zkH;rw[ziM (y:=yAt p i) (at_ p h),zOf_at (y:=yAt p (i-1)) (at_ p (i:=i-1) ya),zpy (zsE p (i:=i-1) ya)]
  have e2:zkL ⟨p,idsP p,(i:Int)⟩=zse (yAt p i) (za5 (yAt p 0).h) (za5 (yAt p (i-1)).h):=by
    unfold zkL;rw[ziM (y:=yAt p i) (at_ p h),cOf_at (zsE p (i:=0) ya),zpy (zsE p (i:=i-1) ya)]
  have e3:zmr ⟨p,idsP p,(i:Int)⟩=workF (yAt p i):=by
    unfold zmr;rw[ziM (y:=yAt p i) (at_ p h)]
  rw[e1,e2,e3];unfold stepOk;generalize zr1 (yAt p i) (yAt p (i-1)) ((p.p.length:Int)-p.k≤(i:Int)) (za5 (yAt p (i-1)).h)=a;generalize zse (yAt p i) (za5 (yAt p 0).h) (za5 (yAt p (i-1)).h)=b;by_cases ha:a=0
  · by_cases hb:b=0
    · simp[ha,hb]
    simp[ha,hb]
  simp[ha]
theorem zlC {p:Proof}:zK p=0↔HoldsP p:=by
  have ey:p.p.getD 0 zju=yAt p 0:=rfl;unfold zK;rw[ey]
  constructor
  · intro h
    by_cases c1:p.m<1∨20<p.m∨p.k<1∨20<p.k
    · rw[ut c1] at h;cases h
    rw[ur c1] at h;by_cases c2:100<p.p.length∨(p.p.length:Int)≤p.k
    · rw[ut c2] at h;cases h
    rw[ur c2] at h;by_cases c3:zbG (yAt p 0).h.bits=false∨0<(yAt p 0).l.length∨¬(yAt p 0).h=(zan (yAt p 0).h.bits).b.h
    · rw[ut c3] at h;cases h
    rw[ur c3,zi4] at h;refine⟨by omega,by omega,by omega,by omega,by omega,by omega,⟨?_,by omega,ua fun e=>c3 (.inr (.inr e))⟩,fun i h1 h2=>(zpq p h1 h2).1 (h i h1 ya)⟩;cases e:zbG (yAt p 0).h.bits
    · exact absurd (.inl e) c3
    rfl
  intro h
  have:=h.m1;have:=h.m2;have:=h.k1;have:=h.k2;have:=h.l1;have:=h.l2
  rw[ur ya,ur ya,ur (by
    rintro (e|e|e)
    · rw[h.fst.1] at e;cases e
    · have:=h.fst.2.1;omega
    exact e h.fst.2.2),zi4]
  exact fun i h1 h2=>(zpq p h1 ya).2 (h.steps i h1 ya)
theorem HoldsP.step {p:Proof} (h:HoldsP p) {i:Nat} (h1:1≤i) (h2:i<p.p.length) :
    (yAt p (i-1)).h.height<(yAt p i).h.height∧(yAt p i).h.bits=(yAt p (i-1)).h.bits∧((p.p.length:Int)-p.k≤(i:Int)→(yAt p i).h.height=IntKind.i64.wrap ((yAt p (i-1)).h.height+1)∧(yAt p i).h.prev=za5 (yAt p (i-1)).h):=prevF_zero.1 (h.steps i h1 h2).1
theorem zsS (bits:UInt32):(zan bits).b.h.height=0:=by
  unfold zan
  split<;>rfl
theorem HoldsP.zero {p:Proof} (h:HoldsP p):(yAt p 0).h.height=0:=by rw[h.fst.2.2];exact zsS _
theorem HoldsP.bits {p:Proof} (h:HoldsP p):∀i,i<p.p.length→(yAt p i).h.bits=(yAt p 0).h.bits
  | 0,_=>rfl
  | i+1,hi=>by
    have:=(h.step (i:=i+1) ya hi).2.1
    rw[Nat.add_sub_cancel] at this;rw[this];exact h.bits i ya
theorem fewPr_len {p:Proof} (h:zoM p=true):p.p.length≤110:=by
  unfold zoM at h;rw[uk,uj] at h;exact h.2
theorem zub {p:Proof} (h:zoM p=true) {x:Part} (hx:x∈p.p):x.l.length≤40:=by
  unfold zoM at h;rw[uk] at h;exact of_decide_eq_true (List.all_eq_true.1 h.1 x hx)
theorem zrH (p:Proof):zdK zP p [.val i64T p.m,.val i64T p.k,.val (sl zba) p.p]:=zjz (zaR zaS (zaR zaS zaS))
theorem two_ok:Tells P 46 [] (.val (sl zav) [zcZ,zbm]):=by
 refine zd Tryz.func46 rfl rfl rfl (fun ext w hext=>?_);refine qcn ?_;refine A0 (oCl (newC_ok 545259519) rfl fn_104 yd) ?_;refine qa4 ?_;refine zi (d:=7) (y:=[zcZ]) rfl easy_newOf ?_;refine qaD ?_;refine A0 aV ?_;refine qaL ?_;refine A0 (oCl (zee (growC_ok [zcZ] [] 0 zrJ ⟨by decide,fun t ht=>by cases ht⟩)) rfl fn_105 ⟨yn,yb,yn,trivial⟩) ?_;refine qa4 ?_;refine zi (d:=12) (y:=[zcZ,zbm]) rfl easy_grown ?_;refine qaD ?_;refine A0 aV ?_;refine qaL ?_;refine qae ?_;exact zb rfl rfl (za rfl (rfl))
theorem mayH_ok {h:Head} (hm:zcl h=true):hOk h=true:=by
  unfold zcl zat at hm;by_cases c:zbG h.bits=true∧hOk h=true
  · exact c.2
  rw[ur c] at hm;exact absurd hm yr
theorem zum {l:List Block} {t:Tip} {k:Nat} {c:Block} (h:Chain l t) (hc:l[k]?=some c):c.h.height=k∧hOk c.h=true∧(k=0→c.l=[])∧(1≤k→c.h.links=zcM c.l):=by
  obtain⟨hk,_⟩:=ul.1 hc;by_cases k0:k=0
  · subst k0
    obtain⟨t',h1,_⟩:=zpF h (i:=1) (ug _) ya;have e:l.take 1=[c]:=by rw[show(1:Nat)=0+1 from rfl,un,hc];rfl
    rw[e] at h1;obtain⟨_,hb,_⟩:=zs6 h1;rw[hb];exact⟨rfl,rfl,fun _=>rfl,fun c=>by omega⟩
  obtain⟨g,hg⟩:∃g,l[0]?=some g:=yB;obtain⟨a,ha⟩:∃a,l[k-1]?=some a:=yB;obtain⟨s1,_,_,_,_,_,s7,s8⟩:=zs5 h ya hc ha hg;exact⟨s1,mayH_ok s8,fun c=>absurd c k0,fun _=>s7⟩
theorem zwf (n:UInt64) {k:Nat} (hk:k≤64):(zch (IntL.toI u64T (zaY n k))).toNat=n.toNat/2^k%256:=by
  unfold zch;show(UInt8.ofNat ((((zaY n k).toNat:Nat):Int)%256).toNat).toNat=_;rw[zfy n hk,UInt8.toNat_ofNat_of_lt' ybp];omega
theorem zjS (n:UInt64) (s:Nat):zz n (s+1)=zch (IntL.toI u64T (zaY n (8*s)))::zz n s:=by
  unfold zz;rw[List.range_succ_eq_map,List.map_cons,List.map_map];have e1:s+1-1-0=s:=ya;rw[e1];congr 1;apply List.map_congr_left;intro j _;show zch (IntL.toI u64T (zaY n (8*(s+1-1-(j+1)))))=_;rw[show s+1-1-(j+1)=s-1-j by omega]
theorem zlp {n m:UInt64}:∀s:Nat,s≤8→zz n s=zz m s→n.toNat%2^(8*s)=m.toNat%2^(8*s)
  | 0,_,_=>by simp[Nat.mod_one]
  | s+1,hs,h=>by
    rw[zjS,zjS] at h;injection h with h1 h2;have ih:=zlp s ya h2;have h1:=congrArg UInt8.toNat h1;rw[zwf n ya,zwf m ya] at h1;rw[Nat.mul_add,Nat.pow_add,Nat.mod_mul,Nat.mod_mul (x:=m.toNat),ih,show 2^(8*1)=256 from rfl,h1]
theorem zfV {n m:UInt64} (h:zz n 8=zz m 8):n=m:=by
  have h1:=zlp 8 (ug _) h;have hn:n.toNat<18446744073709551616:=n.toNat_lt;have hm:m.toNat<18446744073709551616:=m.toNat_lt;rw[show(2:Nat)^(8*8)=18446744073709551616 from rfl,Nat.mod_eq_of_lt hn,Nat.mod_eq_of_lt hm] at h1;exact UInt64.toNat_inj.1 h1
theorem zjo (a b c d:UInt64):zfK [a,b,c,d]=zz d 8++(zz c 8++(zz b 8++zz a 8)):=by rfl
theorem bytesW_inj {a b:Wide} (ha:a.length=4) (hb:b.length=4) (h:zfK a=zfK b):a=b:=by
  match a,ha with
  | [a0,a1,a2,a3],_=>match b,hb with
    | [b0,b1,b2,b3],_ =>
      rw[zjo,zjo] at h;obtain⟨h3,h⟩:=List.append_inj h (by rw[zS,zS]);obtain⟨h2,h⟩:=List.append_inj h (by rw[zS,zS]);obtain⟨h1,h0⟩:=List.append_inj h (by rw[zS,zS]);rw[zfV h0,zfV h1,zfV h2,zfV h3]
def HW (h:Head):Prop:=h.prev.length=32∧h.links.length=32∧h.txs.length=32∧h.past.length=32∧h.work.length=4
theorem zgk {n:Int} (h0:0≤n) (h1:n<4294967296):(z2 n).toNat=n.toNat:=by
  unfold z2;rw[UInt64.toNat_ofNat_of_lt' yac];omega
theorem hOk_iff {h:Head}:hOk h=true↔0≤h.height∧h.height≤1048576:=by unfold hOk;rw[uj]
structure BuildOk (l:List Block) (m k:Int):Prop where
  c:(zab l).2=0
  m1:1≤m
  m2:m≤20
  k1:1≤k
  k2:k≤20
  kl:k<l.length
section
variable {l:List Block} {m k:Int}
theorem places_at (h:BuildOk l m k) {i:Nat} {x:Int} (hx:(zdx l m k)[i]?=some x) :
    (0≤x∧x<l.length)∧((i<(zbo (zbp l) m k).1.length∧(zbo (zbp l) m k).1[i]?=some x)∨((zbo (zbp l) m k).1.length≤i∧(l.length:Int)-k≤x)):=by
  refine⟨zo9 ⟨h.k1,h.kl⟩ (ud hx),?_⟩;unfold zdx at hx;by_cases c:i<(zbo (zbp l) m k).1.length
  · rw[List.getElem?_append_left c] at hx
    exact .inl ⟨c,hx⟩
  rw[List.getElem?_append_right ya] at hx;obtain⟨j,_,rfl⟩:=List.mem_map.1 (ud hx);exact .inr ⟨by omega,by omega⟩
theorem zm6 (h:BuildOk l m k) {i:Nat} {x:Int} (hx:(zdx l m k)[i]?=some x) :
    ∃b:Block,l[x.toNat]?=some b∧b.h.height=x∧((zdx l m k).map (zjN l))[i]?=some ⟨b.h,b.l⟩:=by
  have hr:=(places_at h hx).1;obtain⟨b,hb⟩:∃b,l[x.toNat]?=some b:=yB;refine⟨b,hb,?_,?_⟩
  · have:=(zum (zq0 h.c) hb).1
    omega
  rw[List.getElem?_map,hx];have e:l.getD x.toNat default=b:=by rw[uq,hb];rfl
  show some (zjN l x)=_;unfold zjN;rw[e]
end
set_option maxRecDepth 20000
def swpI {α:Type} [Inhabited α] (l:List α) (k:Nat):List α:=(List.range l.length).map fun j=>if j<k∨l.length-k≤j then l.getD (l.length-1-j) default else l.getD j default
theorem zgO {α:Type} [Inhabited α] {l:List α} {k:Nat}:(swpI l k).length=l.length:=by unfold swpI;simp
theorem zkA {α:Type} [Inhabited α] {l:List α} {k j:Nat} (h:j<l.length):(swpI l k)[j]?=some (if j<k∨l.length-k≤j then l.getD (l.length-1-j) default else l.getD j default):=by
  unfold swpI;rw[List.getElem?_map,List.getElem?_range h];rfl
theorem swpI_zero {α:Type} [Inhabited α] {l:List α}:swpI l 0=l:=by
  apply List.ext_getElem?;intro j;by_cases h:j<l.length
  · rw[zkA h,ur ya,uq,ub h];rfl
  rw[List.getElem?_eq_none (by rw[zgO];omega),List.getElem?_eq_none ya]
theorem swpI_step {α:Type} [Inhabited α] {l:List α} {k:Nat} {x y:α} (hk:2*(k+1)≤l.length) (hx:(swpI l k)[k]?=some x) (hy:(swpI l k)[l.length-1-k]?=some y):((swpI l k).set k y).set (l.length-1-k) x=swpI l (k+1):=by
  rw[zkA ya,ur ya] at hx;rw[zkA ya,ur ya] at hy;injection hx with hx;injection hy with hy;apply List.ext_getElem?;intro j;by_cases h:j<l.length
  · rw[zkA h,List.getElem?_set]
    by_cases c:l.length-1-k=j
    · rw[ut c,ut (by rw[List.length_set,zgO];omega),ut ya,←hx]
      congr 2;omega
    rw[ur c,List.getElem?_set];by_cases d:k=j
    · rw[ut d,ut (by rw[zgO];omega),ut ya,←hy]
      congr 2;omega
    rw[ur d,zkA h];by_cases e:j<k∨l.length-k≤j
    · rw[ut e,ut ya]
    rw[ur e,ur ya]
  rw[List.getElem?_eq_none (by rw[List.length_set,List.length_set,zgO];omega),List.getElem?_eq_none (by rw[zgO];omega)]
theorem swpI_end {α:Type} [Inhabited α] {l:List α} {k:Nat} (h1:2*k≤l.length) (h2:¬(k:Int)<(l.length:Int)-1-k):swpI l k=l.reverse:=by
  apply List.ext_getElem?;intro j;by_cases h:j<l.length
  · rw[zkA h,List.getElem?_reverse h,ub ya]
    congr 1
    split
    · rw[uq,ub ya];rfl
    have e:j=l.length-1-j:=ya;rw[uq,ub ya];show l[j]=_;congr 1
  rw[List.getElem?_eq_none (by rw[zgO];omega),List.getElem?_eq_none (by rw[List.length_reverse];omega)]
theorem revInt (l:List Int) (hl:l.length≤1000000000000):ze7 P 158 (.row 3 i64T l) [.own 0] (.lit (.tuple #[])) (.row 3 i64T l.reverse):=by
 refine zgz trivial Tryz.func158 rfl rfl ⟨Nat.one_pos,trivial⟩ (fun ext pg w hext hgr=>?_);refine zla (n:=0) rfl (fun hrl=>?_);refine qbZ ?_;refine A0 (zbe rfl rfl rfl zgu) ?_;refine A0 zbT ?_;refine A0 aV ?_;refine qcq ?_;refine zj (n:=0) (y:=swpI l 0) rfl swpI_zero.symm ?_;refine zi (d:=3) (y:=(l.length:Int)-1-((0:Nat):Int)) rfl ya ?_;refine Lp (ι:=Nat) 1 (fun (k:Nat)=>(((Fr.none).set 0 (.own 0)).set 2 (.val i64T (k:Int))).set 3 (.val i64T ((l.length:Int)-1-k))) (fun (k:Nat)=>(Hp.none).set 0 (.row 3 i64T (swpI l k))) (fun (k:Nat)=>2*k≤l.length) (fun (k:Nat)=>l.length-k) (0) (uf _) ?_;intro k hinv;refine CQQR ?_;refine qav ?_;refine qbr ?_;refine Cf (p:=(k:Int)<(l.length:Int)-1-k) (fun ht9=>?_) (fun ht9=>?_)
 ·
  have hsl:=zgO (l:=l) (k:=k);obtain⟨x,hx⟩:∃x,(swpI l k)[k]?=some x:=yB;obtain⟨y,hy⟩:∃y,(swpI l k)[l.length-1-k]?=some y:=yB;have hsl2:((swpI l k).set k y).length=l.length:=by rw[List.length_set,hsl]
  have hy2:((swpI l k).set k y)[l.length-1-k]?=some y:=by rw[List.getElem?_set_ne ya];exact hy
  refine qcH ?_;refine CB ?_;refine zA [some 1,some 1,some 1000001,some 1000001,some 1,some 1,some 1,some 1,some 1,some 1,some 1,some 1,some 1,none,some 1,none] mixed yc ?_;refine X0 mO ?_;refine X0 mV ?_;refine XK.ga (fun _=>g_mo (.inl rfl) rfl) rfl rfl rfl ?_;refine XK.ga (fun _=>g_mv (.inl rfl) rfl) rfl rfl rfl ?_;refine X0 mO ?_;refine X0 mV ?_;refine X0 (zb8 (i:=l.length-1-k) rfl rfl rfl rfl yp zcj yg) ?_;refine X0 (zcO rfl rfl rfl rfl yj (Lens.self _) ty_3) ?_;refine X0 mO ?_;refine X0 mV ?_;refine X0 (zb8 (i:=k) rfl rfl rfl rfl yp zcj yg) ?_;refine X0 (zcO rfl rfl rfl rfl yj (Lens.self _) ty_3) ?_;refine X0 (zb8 (i:=k) rfl rfl rfl rfl yp zcj yg) ?_;refine XK.e (x:=.idk) (fun fr' hfr kk H=>by exact zdc rfl rfl rfl ((hfr 26 yc).trans rfl) rfl rfl yj (Lens.self _) ty_3 ((hfr 21 yc).trans rfl) (zt H)) ?_;refine X0 (zb8 (i:=l.length-1-k) rfl rfl rfl rfl yp zcj yg) ?_;refine XK.e (x:=.idk) (fun fr' hfr kk H=>by exact zdc rfl rfl rfl ((hfr 27 yc).trans rfl) rfl rfl yj (Lens.self _) ty_3 ((hfr 25 yc).trans rfl) (zt H)) ?_;refine XK.nil' ?_;refine CI ?_;refine CR ?_;refine qb2 ?_;refine qcO ?_;refine qck ?_;refine zj (n:=0) (y:=swpI l (k+1)) rfl (swpI_step ya hx hy) ?_;refine zi (d:=3) (y:=(l.length:Int)-1-((k+1:Nat):Int)) rfl ya ?_;exact Nx (k+1) ya ya
 refine CE ?_;exact ztg rfl rfl rfl rfl rfl (give_row rfl (swpI_end hinv ht9))
theorem equalFPart (l m:List Part):Tells P 58 [.val (bsl zba) l,.val (bsl zba) m,.fn2 P zba zba zl (fun x y=>decide (x=y))] (.val zl (decide (l=m))):=by
 refine zd Tryz.func58 rfl rfl rfl (fun ext w hext=>?_);refine ze (d:=0) rfl zm (fun hsl0=>?_);refine ze (d:=1) rfl zm (fun hsl1=>?_);refine qcQ ?_;refine xz ?_;refine qa7 ?_;refine xz ?_;refine qbk ?_;refine Cf (p:=¬l.length=m.length) (fun ht14=>?_) (fun ht14=>?_)
 ·
  refine qa3 ?_;exact zb rfl rfl (za rfl (uh (fun e=>ht14 (by rw[e]))).symm)
 refine qc2 ?_;refine xz ?_;refine qaH ?_;refine Lp (ι:=Nat) 0 (fun (k:Nat)=>((((((Fr.none).set 0 (.val (bsl zba) l)).set 1 (.val (bsl zba) m)).set 2 (.fn2 P zba zba zl (fun x y=>decide (x=y)))).set 15 (.val (bsl zba) l)).set 16 (.val i64T (l.length:Int))).set 17 (.val i64T (k:Int))) (fun (k:Nat)=>Hp.none) (fun (k:Nat)=>k≤l.length∧l.take k=m.take k) (fun (k:Nat)=>l.length-k) (0) (⟨uf _,by simp⟩) ?_;intro k hinv;refine qar ?_;refine Cf (p:=k<l.length) (fun ht18=>?_) (fun ht18=>?_)
 ·
  obtain⟨x,hx⟩:∃x,l[k]?=some x:=⟨_,ub ht18⟩;obtain⟨y,hy⟩:∃y,m[k]?=some y:=yB;refine qaR ?_;refine qcb ?_;refine zq zrl rfl rfl rfl rfl ?_;refine A0 aV ?_;refine xc ?_;refine CNQR ?_;refine qav ?_;refine qcb ?_;refine qaI ?_;refine CNQR ?_;refine A0 mH ?_;refine A0 (oLs rfl rfl rfl zeW) ?_;refine A0 (oLs rfl rfl rfl zeW) ?_;refine A0 (zmf rfl rfl yn yn) ?_;refine qb3 ?_;refine zn (p:=¬x=y) rfl yA (fun ht30=>?_) (fun ht30=>?_)
  ·
   refine qa3 ?_;exact zb rfl rfl (za rfl (uh (zgW hx hy ht30)).symm)
  refine qbq ?_;exact Nx (k+1) (⟨by omega,zc2 hx hy hinv.2 (by simpa using ht30)⟩) ya
 refine qcM ?_;exact zb rfl rfl (za rfl (ui yU).symm)
theorem zlj (x y:Part):Tells P 56 [.val zba x,.val zba y] (.val zl (decide (x=y))):=by
 refine zd Tryz.func56 rfl rfl rfl (fun ext w hext=>?_);refine qaA ?_;refine qaj ?_;refine A0 (oFp za7) ?_;refine A0 (oLb zaV zaX) ?_;refine A0 (oFp za7) ?_;refine A0 (oLb zaV zaX) ?_;refine A0 (ziU rfl rfl rfl (zlz)) ?_;refine qa7 ?_;refine zo (d:=10) (p:=x.h=y.h) rfl yA (fun g10=>?_) (fun g10=>?_)
 ·
  refine A1 (oFp zbz) ?_;refine A1 (oLb zbC zcc) ?_;refine A1 (oFp zbz) ?_;refine A1 (oLb zbC zcc) ?_;refine A1 (oCl (zuc x.l y.l) rfl fn_57 ye) ?_;refine qa6 ?_;exact zb rfl rfl (za rfl ((by rw[uo];exact⟨fun h=>by cases x;cases y;simp_all,fun h=>by rw[h]⟩)))
 refine qaa ?_;refine qda ?_;exact zb rfl rfl (za rfl ((by symm;apply uh;intro h;exact g10 (by rw[h]))))
theorem zp2 (a b:Proof):Tells P 18 [.val zP a,.val zP b] (.val zl (decide (a=b))):=by
 refine zd Tryz.func18 rfl rfl rfl (fun ext w hext=>?_);refine qaA ?_;refine qaj ?_;refine A0 aC ?_;refine CNQR ?_;refine A0 (oFp zcY) ?_;refine A0 (oLb zcB ty_3) ?_;refine A0 (oFp zcY) ?_;refine A0 (oLb zcB ty_3) ?_;refine A0 zaH ?_;refine qa7 ?_;refine zo (d:=11) (p:=a.m=b.m) rfl yw (fun g11=>?_) (fun g11=>?_)
 ·
  refine A1 (oFp zcI) ?_;refine A1 (oLb zcp ty_3) ?_;refine A1 (oFp zcI) ?_;refine A1 (oLb zcp ty_3) ?_;refine A1 zaH ?_;refine qaf ?_;refine zo (d:=18) (p:=a.k=b.k) rfl yw (fun g18=>?_) (fun g18=>?_)
  ·
   refine A1 (oFp zag) ?_;refine A1 (oLb zao zci) ?_;refine A1 (oFp zag) ?_;refine A1 (oLb zao zci) ?_;refine A1 mC ?_;refine A1 (oCl (equalFPart a.p b.p) rfl fn_58 ⟨yn,yn,(by first|exact zdI (Cs:=[]) rfl fn_56 yF trivial rfl (fun x=>zlj x y)|exact zdH (Cs:=[]) rfl fn_56 yF trivial rfl (fun x y=>zlj x y)|exact zdJ rfl),trivial⟩) ?_;refine qa6 ?_;exact zb rfl rfl (za rfl (yal))
  refine qaa ?_;refine qaa ?_;refine qa6 ?_;exact zb rfl rfl (za rfl ((by symm;apply uh;intro h;exact g18 (by rw[h]))))
 refine qaa ?_;refine qc1 ?_;refine qaa ?_;refine qa6 ?_;exact zb rfl rfl (za rfl ((by symm;apply uh;intro h;exact g11 (by rw[h]))))
def valU (l:List UInt8):UInt64:=l.foldl (fun n c=>zlR n 8|||z2 (IntL.toI u8T c)) 0
def zga (b:List UInt8) (p size:Int):Bool:=decide (0≤size∧size≤8∧0≤p∧p≤b.length∧size≤(b.length:Int)-p)
def getU (b:List UInt8) (p size:Int):UInt64:=if zga b p size=true then valU ((b.drop p.toNat).take size.toNat) else 0
def cutE (b:List UInt8) (p:Int):Bool:=zga b p 2&&decide (((getU b p 2).toNat:Int)≤(b.length:Int)-p-2)
def cutX (b:List UInt8) (p:Int):List UInt8:=if cutE b p=true then (b.drop (p.toNat+2)).take (getU b p 2).toNat else []
def zkg (b:List UInt8) (p:Int):Int:=if cutE b p=true then p+2+(getU b p 2).toNat else 0
def zh9 (x:List UInt8):List UInt8:=zz (z2 (x.length:Int)) 2++x
def zd5 (x:List UInt8):Bool:=decide (x.length≤65535)
def zi8 (l:List (List UInt8)):List UInt8:=zch (l.length:Int)::(l.map zh9).flatten
def zdO (l:List (List UInt8)):Bool:=decide (l.length≤255)&&l.all zd5
def cutN:List UInt8→Option (List UInt8×List UInt8)
  | a::c::r=>if 256*a.toNat+c.toNat≤r.length then some (r.take (256*a.toNat+c.toNat),r.drop (256*a.toNat+c.toNat)) else none
  | _=>none
def pieces:Nat→List UInt8→List (List UInt8)×List UInt8
  | 0,r=>([],r)
  | n+1,r=>match cutN r with
    | none=>([],r)
    | some (x,z)=>(x::(pieces n z).1,(pieces n z).2)
def zW (b:List UInt8):List (List UInt8)×Bool :=
  match b with
  | []=>([],false)
  | n::r=>if (pieces n.toNat r).1.length=n.toNat∧(pieces n.toNat r).2=[] then ((pieces n.toNat r).1,true) else ([],false)
theorem or_low {a c:Nat} (hc:c<256):a*256|||c=a*256+c:=by
  have:=Nat.two_pow_add_eq_or_of_lt (i:=8) (b:=c) hc a
  rw[show(2:Nat)^8=256 from rfl,Nat.mul_comm] at this;exact this.symm
theorem val_step (n:UInt64) (c:UInt8):(zlR n 8|||z2 (IntL.toI u8T c)).toNat=(256*n.toNat+c.toNat)%18446744073709551616:=by
  have hc:c.toNat<256:=c.toNat_lt;have hn:n.toNat<18446744073709551616:=n.toNat_lt;have e1:(z2 (IntL.toI u8T c)).toNat=c.toNat:=zgk (n:=(c.toNat:Int)) ya ya;have e2:(zlR n 8).toNat=n.toNat*256%18446744073709551616:=by
    unfold zlR;rw[UInt64.toNat_ofNat'];rfl
  rw[UInt64.toNat_or,e1,e2];have e3:n.toNat*256%18446744073709551616=(n.toNat%72057594037927936)*256:=ya;rw[e3,or_low hc];omega
def valN (l:List UInt8):Nat:=l.foldl (fun n c=>256*n+c.toNat) 0
theorem zhw (l:List UInt8) (c:UInt8):valN (l++[c])=256*valN l+c.toNat:=by unfold valN;rw[List.foldl_append];rfl
theorem zrr (l:List UInt8) (c:UInt8):valU (l++[c])=zlR (valU l) 8|||z2 (IntL.toI u8T c):=by unfold valU;rw[List.foldl_append];rfl
theorem zpV {α:Type} {P:List α→Prop} (h0:P []) (h1:∀l x,P l→P (l++[x])) (l:List α):P l:=by
  have:∀n:Nat,∀l:List α,l.length=n→P l:=by
    intro n
    induction n with
    | zero=>intro l hl;rw[List.length_eq_zero_iff.1 hl];exact h0
    | succ n ih =>
      intro l hl;have hne:l≠[]:=by intro e;rw[e] at hl;cases hl
      rw[←List.dropLast_concat_getLast hne];exact h1 _ _ (ih _ (by rw[List.length_dropLast];omega))
  exact this _ l rfl
theorem zpT (l:List UInt8):valN l<256^l.length:=by
  refine zpV (P:=fun l=>valN l<256^l.length) yr (fun l c ih=>?_) l;have hc:c.toNat<256:=c.toNat_lt;rw[zhw,ue,List.length_singleton,Nat.pow_succ];omega
theorem zld:∀l:List UInt8,l.length≤8→(valU l).toNat=valN l:=by
  refine zpV (P:=fun l=>l.length≤8→(valU l).toNat=valN l) (fun _=>rfl) (fun l c ih hl=>?_);rw[ue,List.length_singleton] at hl;rw[zrr,zhw,val_step,ih ya];have h1:=zpT (l++[c]);rw[zhw] at h1;have h2:256^(l++[c]).length≤256^8:=Nat.pow_le_pow_right yr yK;have h3:(256:Nat)^8=18446744073709551616:=rfl;exact Nat.mod_eq_of_lt ya
theorem zjT (n:UInt64) (s:Nat) (hs:s<8):zz n (s+1)=zz (zaY n 8) s++[zch (IntL.toI u64T n)]:=by
  unfold zz;rw[List.range_succ,List.map_append];congr 1
  · apply List.map_congr_left
    intro j hj;rw[List.mem_range] at hj;congr 2;apply UInt64.toNat_inj.1;rw[zfy _ ya,zfy _ ya,zfy _ ya,Nat.div_div_eq_div_mul,←Nat.pow_add];congr 2;omega
  show [zch (IntL.toI u64T (zaY n (8*(s+1-1-s))))]=_;rw[show s+1-1-s=0 by omega,←shr_zero]
theorem zh8:∀l:List UInt8,l.length≤8→zz (valU l) l.length=l:=by
  refine zpV (P:=fun l=>l.length≤8→zz (valU l) l.length=l) (fun _=>rfl) (fun l c ih hl=>?_);rw[ue,List.length_singleton] at hl ⊢;have hc:c.toNat<256:=c.toNat_lt;have hv:=zld (l++[c]) yK;have hw:=zld l ya;rw[zhw] at hv;rw[zjT _ _ ya];have e1:zaY (valU (l++[c])) 8=valU l:=by
    apply UInt64.toNat_inj.1;rw[zfy _ yr,hv,hw];omega
  have e2:zch (IntL.toI u64T (valU (l++[c])))=c:=by
    apply UInt8.toNat_inj.1;unfold zch;show(UInt8.ofNat ((((valU (l++[c])).toNat:Nat):Int)%256).toNat).toNat=_;rw[UInt8.toNat_ofNat_of_lt' ybp,hv];omega
  rw[e1,e2,ih ya]
theorem zmv (n:UInt64):∀s:Nat,s≤8→valN (zz n s)=n.toNat%256^s
  | 0,_=>by show 0=_;simp[Nat.mod_one]
  | s+1,hs=>by
    have ih:=zmv (zaY n 8) s ya;rw[zjT _ _ ya,zhw,ih,zfy _ yr];have e:(zch (IntL.toI u64T n)).toNat=n.toNat%256:=by
      unfold zch;show(UInt8.ofNat (((n.toNat:Nat):Int)%256).toNat).toNat=_;rw[UInt8.toNat_ofNat_of_lt' ybp];omega
    have e8:(2:Nat)^8=256:=rfl;have ep:256^(s+1)=256*256^s:=by rw[Nat.pow_succ,Nat.mul_comm]
    rw[e,e8,ep,Nat.mod_mul];omega
theorem two_bytes {n:Nat} (h:n≤65535):∃a c:UInt8,zz (z2 (n:Int)) 2=[a,c]∧256*a.toNat+c.toNat=n:=by
  have hl:=zS (z2 (n:Int)) 2;have hv:=zmv (z2 (n:Int)) 2 yr;rw[zgk ya ya] at hv
  match hb:zz (z2 (n:Int)) 2 with
  | [a,c] =>
    rw[hb] at hv;refine⟨a,c,rfl,?_⟩;have e:valN [a,c]=256*(256*0+a.toNat)+c.toNat:=rfl;rw[e] at hv
    have:(256:Nat)^2=65536:=rfl
    omega
  | []=>rw[hb] at hl;cases hl
  | [_]=>rw[hb] at hl;cases hl
  | _::_::_::_=>rw[hb] at hl;simp at hl
theorem bytes_two (a c:UInt8):zz (z2 ((256*a.toNat+c.toNat:Nat):Int)) 2=[a,c]:=by
  have ha:a.toNat<256:=a.toNat_lt;have hc:c.toNat<256:=c.toNat_lt;have e:z2 ((256*a.toNat+c.toNat:Nat):Int)=valU [a,c]:=by
    apply UInt64.toNat_inj.1;rw[zgk ya ya,zld [a,c] yA];show _=256*(256*0+a.toNat)+c.toNat
    omega
  rw[e];exact zh8 [a,c] yA
theorem cut_blob {x r:List UInt8} (h:zd5 x=true):cutN (zh9 x++r)=some (x,r):=by
  have hx:=of_decide_eq_true h;obtain⟨a,c,e1,e2⟩:=two_bytes hx;unfold zh9;rw[e1];have e3:[a,c]++x++r=a::c::(x++r):=rfl;rw[e3,cutN,e2,ut yA,List.take_left,List.drop_left]
theorem cut_back {b x z:List UInt8} (h:cutN b=some (x,z)):b=zh9 x++z∧zd5 x=true:=by
  match b,h with
  | a::c::r,h =>
    have ha:a.toNat<256:=a.toNat_lt;have hc:c.toNat<256:=c.toNat_lt;rw[cutN] at h;by_cases q:256*a.toNat+c.toNat≤r.length
    · rw[ut q] at h
      simp only[Option.some.injEq,Prod.mk.injEq] at h;obtain⟨rfl,rfl⟩:=h;have hl:(r.take (256*a.toNat+c.toNat)).length=256*a.toNat+c.toNat:=by rw[um];omega
      refine⟨?_,ui (by rw[hl];omega)⟩;unfold zh9;rw[hl,bytes_two];show a::c::r=a::c::(r.take _++r.drop _);rw[List.take_append_drop]
    rw[ur q] at h;cases h
  | [],h=>cases h
  | [_],h=>cases h
theorem zm3 (r:List UInt8):∀l:List (List UInt8),l.all zd5=true→pieces l.length ((l.map zh9).flatten++r)=(l,r)
  | [],_=>rfl
  | x::l,h=>by
    rw[List.all_cons,uk] at h;rw[List.map_cons,List.flatten_cons,List.append_assoc,List.length_cons,pieces,cut_blob h.1];simp only[];rw[zm3 r l h.2]
theorem zm4:∀(n:Nat) (r:List UInt8),(pieces n r).1.length≤n∧r=((pieces n r).1.map zh9).flatten++(pieces n r).2∧(pieces n r).1.all zd5=true
  | 0,r=>⟨ug _,rfl,rfl⟩
  | n+1,r=>by
    rw[pieces]
    match hc:cutN r with
    | none=>exact⟨uf _,rfl,rfl⟩
    | some (x,z) =>
      obtain⟨h1,h2⟩:=cut_back hc;obtain⟨i1,i2,i3⟩:=zm4 n z;refine⟨Nat.succ_le_succ i1,?_,?_⟩
      · show r=((x::(pieces n z).1).map zh9).flatten++(pieces n z).2
        rw[List.map_cons,List.flatten_cons,List.append_assoc,←i2];exact h1
      show(x::(pieces n z).1).all zd5=true;rw[List.all_cons,h2,i3];rfl
theorem u8_len {n:Nat} (h:n≤255):(zch (n:Int)).toNat=n:=by
  unfold zch;rw[UInt8.toNat_ofNat_of_lt' ybp];omega
theorem zoT {l:List (List UInt8)} (h:zdO l=true):zW (zi8 l)=(l,true):=by
  unfold zdO at h;rw[uk,uj] at h;unfold zi8 zW;have hp:=zm3 [] l h.2;rw[List.append_nil] at hp;simp only[];rw[u8_len h.1,hp,ut ⟨rfl,rfl⟩]
theorem zo0 {b:List UInt8} (h:(zW b).2=true):zi8 (zW b).1=b∧zdO (zW b).1=true:=by
  match b,h with
  | n::r,h =>
    have hn:n.toNat<256:=n.toNat_lt;unfold zW at h ⊢;simp only[] at h ⊢;by_cases q:(pieces n.toNat r).1.length=n.toNat∧(pieces n.toNat r).2=[]
    · rw[ut q]
      obtain⟨i1,i2,i3⟩:=zm4 n.toNat r;rw[q.2,List.append_nil] at i2;refine⟨?_,?_⟩
      · show zch ((pieces n.toNat r).1.length:Int)::((pieces n.toNat r).1.map zh9).flatten=n::r
        rw[←i2,q.1];congr 1;apply UInt8.toNat_inj.1;rw[u8_len ya]
      unfold zdO;rw[i3,ui (show(pieces n.toNat r).1.length≤255 by omega)];rfl
    rw[ur q] at h;cases h
  | [],h=>cases h
theorem zq2 (x:List UInt8):(zh9 x).length=2+x.length:=by unfold zh9;rw[ue,zS]
theorem zl6:∀l:List (List UInt8),(zi8 l).length=1+(l.map fun x=>2+x.length).sum
  | []=>rfl
  | x::l=>by
    have ih:=zl6 l;unfold zi8 at ih ⊢;rw[List.length_cons,List.map_cons,List.flatten_cons,ue,zq2,List.map_cons,List.sum_cons];rw[List.length_cons] at ih;omega
def zde (b:List UInt8):Head:=⟨((valU (b.take 4)).toNat:Int),(b.drop 4).take 32,(b.drop 36).take 32,(b.drop 68).take 32,(b.drop 100).take 32,zlU ((b.drop 132).take 32),UInt32.ofNat (valU ((b.drop 164).take 4)).toNat,valU ((b.drop 168).take 8)⟩
def zcV (b:List UInt8):Bool:=decide (b.length=176)&&decide ((valU (b.take 4)).toNat≤1048576)
def zlS (b:List UInt8):Head:=if zcV b=true then zde b else zkv
def ziO (p:Proof):Bool:=decide (1≤p.m∧p.m≤20∧1≤p.k∧p.k≤20∧p.p.length≤100)&&p.p.all fun x=>decide (x.l.length≤32)
def wOk (p:Proof):Bool:=ziO p&&p.p.all fun x=>hOk x.h
def zck (x:Part):List UInt8:=zi8 (zaT x.h::x.l)
def putL (p:Proof):List UInt8:=zch p.m::zch p.k::zi8 (p.p.map zck)
def zeH (r:List UInt8):Bool:=(zW r).2&&match (zW r).1 with
  | []=>false
  | h::l=>zcV h&&l.all fun x=>decide (x.length=32)
def zc9 (r:List UInt8):Part:=match (zW r).1 with
  | []=>⟨zkv,[]⟩
  | h::l=>⟨zde h,l⟩
def zjJ (b:List UInt8):Proof:=⟨((b.getD 0 0).toNat:Int),((b.getD 1 0).toNat:Int),(zW (b.drop 2)).1.map zc9⟩
def zbs (b:List UInt8):Bool:=decide (2<b.length)&&(zW (b.drop 2)).2&&(zW (b.drop 2)).1.all zeH&&ziO (zjJ b)
theorem u8_nat {n:Int} (h0:0≤n) (h1:n≤255):(zch n).toNat=n.toNat:=by
  obtain⟨m,rfl⟩:∃m:Nat,n=m:=⟨n.toNat,by omega⟩;rw[u8_len ya];rfl
theorem of32_four (x0 x1 x2 x3 x4 x5 x6 x7 x8 x9 x10 x11 x12 x13 x14 x15 x16 x17 x18 x19 x20 x21 x22 x23 x24 x25 x26 x27 x28 x29 x30 x31:UInt8):zlU [x0,x1,x2,x3,x4,x5,x6,x7,x8,x9,x10,x11,x12,x13,x14,x15,x16,x17,x18,x19,x20,x21,x22,x23,x24,x25,x26,x27,x28,x29,x30,x31]=[valU [x24,x25,x26,x27,x28,x29,x30,x31],valU [x16,x17,x18,x19,x20,x21,x22,x23],valU [x8,x9,x10,x11,x12,x13,x14,x15],valU [x0,x1,x2,x3,x4,x5,x6,x7]]:=yo
theorem list32 {b:List UInt8} (h:b.length=32):∃x0 x1 x2 x3 x4 x5 x6 x7 x8 x9 x10 x11 x12 x13 x14 x15 x16 x17 x18 x19 x20 x21 x22 x23 x24 x25 x26 x27 x28 x29 x30 x31,b=[x0,x1,x2,x3,x4,x5,x6,x7,x8,x9,x10,x11,x12,x13,x14,x15,x16,x17,x18,x19,x20,x21,x22,x23,x24,x25,x26,x27,x28,x29,x30,x31]:=by
  match b,h with
  | [x0,x1,x2,x3,x4,x5,x6,x7,x8,x9,x10,x11,x12,x13,x14,x15,x16,x17,x18,x19,x20,x21,x22,x23,x24,x25,x26,x27,x28,x29,x30,x31],_=>exact⟨x0,x1,x2,x3,x4,x5,x6,x7,x8,x9,x10,x11,x12,x13,x14,x15,x16,x17,x18,x19,x20,x21,x22,x23,x24,x25,x26,x27,x28,x29,x30,x31,rfl⟩
theorem bytes_of32 {b:List UInt8} (h:b.length=32):zfK (zlU b)=b:=by
  obtain⟨x0,x1,x2,x3,x4,x5,x6,x7,x8,x9,x10,x11,x12,x13,x14,x15,x16,x17,x18,x19,x20,x21,x22,x23,x24,x25,x26,x27,x28,x29,x30,x31,rfl⟩:=list32 h;rw[of32_four,zjo];have e1:=zh8 [x0,x1,x2,x3,x4,x5,x6,x7] (ug _);have e2:=zh8 [x8,x9,x10,x11,x12,x13,x14,x15] (ug _);have e3:=zh8 [x16,x17,x18,x19,x20,x21,x22,x23] (ug _);have e4:=zh8 [x24,x25,x26,x27,x28,x29,x30,x31] (ug _);have e1:zz (valU [x0,x1,x2,x3,x4,x5,x6,x7]) 8=[x0,x1,x2,x3,x4,x5,x6,x7]:=e1;have e2:zz (valU [x8,x9,x10,x11,x12,x13,x14,x15]) 8=[x8,x9,x10,x11,x12,x13,x14,x15]:=e2;have e3:zz (valU [x16,x17,x18,x19,x20,x21,x22,x23]) 8=[x16,x17,x18,x19,x20,x21,x22,x23]:=e3;have e4:zz (valU [x24,x25,x26,x27,x28,x29,x30,x31]) 8=[x24,x25,x26,x27,x28,x29,x30,x31]:=e4;rw[e1,e2,e3,e4];rfl
theorem of32_bytes {a:Wide} (ha:a.length=4):zlU (zfK a)=a:=by
  have hl:(zfK a).length=32:=zep a;exact bytesW_inj of32_len ha (bytes_of32 hl)
theorem zgY {h:Head} (hh:HW h) (ho:hOk h=true):(zaT h).length=176:=by
  obtain⟨h1,h2,h3,h4,h5⟩:=hh;unfold zaT;rw[ut ho];simp[zcH,h1,h2,h3,h4,zep,zS]
theorem head_parts {h:Head} (hh:HW h):(zcH h).take 4=zz (z2 (IntL.toI i64T h.height)) 4∧((zcH h).drop 4).take 32=h.prev∧((zcH h).drop 36).take 32=h.links∧((zcH h).drop 68).take 32=h.txs∧((zcH h).drop 100).take 32=h.past∧
    ((zcH h).drop 132).take 32=zfK h.work∧((zcH h).drop 164).take 4=zz (z2 (IntL.toI u32T h.bits)) 4∧((zcH h).drop 168).take 8=zz h.nonce 8:=by
  obtain⟨h1,h2,h3,h4,h5⟩:=hh;have l0:=zS (z2 (IntL.toI i64T h.height)) 4;have l6:=zS (z2 (IntL.toI u32T h.bits)) 4;have l7:=zS h.nonce 8;have l5:=zep h.work;unfold zcH;simp only[List.flatten_cons,List.flatten_nil,List.append_nil];generalize zz (z2 (IntL.toI i64T h.height)) 4=A at *;generalize zz (z2 (IntL.toI u32T h.bits)) 4=F at *;generalize zz h.nonce 8=G at *;generalize zfK h.work=E at *;have d1:(A++(h.prev++(h.links++(h.txs++(h.past++(E++(F++G))))))).drop 4=h.prev++(h.links++(h.txs++(h.past++(E++(F++G))))):=List.drop_left' l0;have d2:(A++(h.prev++(h.links++(h.txs++(h.past++(E++(F++G))))))).drop 36=h.links++(h.txs++(h.past++(E++(F++G)))):=by rw[show 36=4+32 from rfl,←List.drop_drop,d1];exact List.drop_left' h1
  have d3:(A++(h.prev++(h.links++(h.txs++(h.past++(E++(F++G))))))).drop 68=h.txs++(h.past++(E++(F++G))):=by rw[show 68=36+32 from rfl,←List.drop_drop,d2];exact List.drop_left' h2
  have d4:(A++(h.prev++(h.links++(h.txs++(h.past++(E++(F++G))))))).drop 100=h.past++(E++(F++G)):=by rw[show 100=68+32 from rfl,←List.drop_drop,d3];exact List.drop_left' h3
  have d5:(A++(h.prev++(h.links++(h.txs++(h.past++(E++(F++G))))))).drop 132=E++(F++G):=by rw[show 132=100+32 from rfl,←List.drop_drop,d4];exact List.drop_left' h4
  have d6:(A++(h.prev++(h.links++(h.txs++(h.past++(E++(F++G))))))).drop 164=F++G:=by rw[show 164=132+32 from rfl,←List.drop_drop,d5];exact List.drop_left' l5
  have d7:(A++(h.prev++(h.links++(h.txs++(h.past++(E++(F++G))))))).drop 168=G:=by rw[show 168=164+4 from rfl,←List.drop_drop,d6];exact List.drop_left' l6
  rw[d1,d2,d3,d4,d5,d6,d7];exact⟨List.take_left' l0,List.take_left' h1,List.take_left' h2,List.take_left' h3,List.take_left' h4,List.take_left' l5,List.take_left' l6,uc (Nat.le_of_eq l7)⟩
theorem zty (n:UInt64) {s:Nat} (hs:s≤8):(valU (zz n s)).toNat=n.toNat%256^s:=by rw[zld _ (by rw[zS];exact hs),zmv n s hs]
theorem zrq (n:UInt64):valU (zz n 8)=n:=by
  apply UInt64.toNat_inj.1;have hn:n.toNat<18446744073709551616:=n.toNat_lt;rw[zty n (ug _),show(256:Nat)^8=18446744073709551616 from rfl,Nat.mod_eq_of_lt hn]
theorem read_put {h:Head} (hh:HW h) (ho:hOk h=true):zcV (zcH h)=true∧zde (zcH h)=h:=by
  obtain⟨p1,p2,p3,p4,p5,p6,p7,p8⟩:=head_parts hh;have ho2:=hOk_iff.1 ho;have hlen:(zcH h).length=176:=by
    have:=zgY hh ho
    unfold zaT at this
    rwa [ut ho] at this
  have hv:(valU ((zcH h).take 4)).toNat=h.height.toNat:=by
    rw[p1,zty _ yr,show(256:Nat)^4=4294967296 from rfl];have e:(z2 (IntL.toI i64T h.height)).toNat=h.height.toNat:=zgk (n:=h.height) ho2.1 ya;rw[e];omega
  refine⟨?_,?_⟩
  · unfold zcV
    rw[ui hlen,ui (by rw[hv];omega)];rfl
  unfold zde;rw[hv,p2,p3,p4,p5,p6,p7,p8,of32_bytes hh.2.2.2.2,zrq,zty _ yr];have eb:(z2 (IntL.toI u32T h.bits)).toNat=h.bits.toNat:=by
    have:h.bits.toNat<4294967296:=h.bits.toNat_lt
    exact zgk (n:=(h.bits.toNat:Int)) ya ya
  have eb2:UInt32.ofNat (h.bits.toNat%256^4)=h.bits:=by
    apply UInt32.toNat_inj.1
    have:h.bits.toNat<4294967296:=h.bits.toNat_lt
    rw[show(256:Nat)^4=4294967296 from rfl,Nat.mod_eq_of_lt this,UInt32.toNat_ofNat_of_lt' this]
  have eh:((h.height.toNat:Nat):Int)=h.height:=ya;rw[eb,eb2,eh]
theorem rd_ok {b:List UInt8} (hv:(valU (b.take 4)).toNat≤1048576):0≤(zde b).height∧(zde b).height≤1048576:=by
  have e:(zde b).height=((valU (b.take 4)).toNat:Int):=by simp only[zde]
  rw[e];omega
theorem row_ok {x:Part} (hh:HW x.h) (ho:hOk x.h=true) (hi:∀y∈x.l,y.length=32) (hl:x.l.length≤32):zdO (zaT x.h::x.l)=true:=by
  unfold zdO;rw[uk,uj,List.all_cons,uk,List.all_eq_true];refine⟨by simp;omega,ui (by rw[zgY hh ho];omega),fun y hy=>ui (by rw[hi y hy];omega)⟩
theorem sum_32:∀l:List (List UInt8),(∀y∈l,y.length=32)→(l.map fun x=>2+x.length).sum=34*l.length
  | [],_=>rfl
  | x::l,h=>by
    rw[List.map_cons,List.sum_cons,sum_32 l (fun y hy=>h y (List.mem_cons_of_mem _ hy)),h x (List.mem_cons_self ..),List.length_cons];omega
theorem zm7 {x:Part} (hh:HW x.h) (ho:hOk x.h=true) (hi:∀y∈x.l,y.length=32):(zck x).length=179+34*x.l.length:=by
  unfold zck;rw[zl6,List.map_cons,List.sum_cons,zgY hh ho,sum_32 _ hi];omega
def PW (p:Proof):Prop:=∀x∈p.p,HW x.h∧∀y∈x.l,y.length=32
theorem zbq {p:Proof} (h:ziO p=true):(1≤p.m∧p.m≤20∧1≤p.k∧p.k≤20∧p.p.length≤100)∧∀x∈p.p,x.l.length≤32:=by
  unfold ziO at h;rw[uk,uj,List.all_eq_true] at h;exact⟨h.1,fun x hx=>of_decide_eq_true (h.2 x hx)⟩
theorem zif {p:Proof} (h:wOk p=true):ziO p=true∧∀x∈p.p,hOk x.h=true:=by
  unfold wOk at h;rw[uk,List.all_eq_true] at h;exact h
theorem zqf {p:Proof} (hw:PW p) (h:wOk p=true):zdO (p.p.map zck)=true:=by
  obtain⟨h1,h2⟩:=zif h;obtain⟨h3,h4⟩:=zbq h1;unfold zdO;rw[uk,uj,List.all_eq_true];refine⟨by simp;omega,fun r hr=>?_⟩;obtain⟨x,hx,rfl⟩:=List.mem_map.1 hr
  have:=h4 x hx
  exact ui (by rw[zm7 (hw x hx).1 (h2 x hx) (hw x hx).2];omega)
theorem zr4 {x:Part} (hh:HW x.h) (ho:hOk x.h=true) (hi:∀y∈x.l,y.length=32) (hl:x.l.length≤32):zeH (zck x)=true∧zc9 (zck x)=x:=by
  have hs:=zoT (row_ok hh ho hi hl);have eb:zaT x.h=zcH x.h:=by unfold zaT;rw[ut ho]
  obtain⟨r1,r2⟩:=read_put hh ho;unfold zeH zc9 zck;rw[hs];simp only[];rw[eb,r1,r2];refine⟨?_,rfl⟩;rw[Bool.true_and,Bool.true_and,List.all_eq_true];exact fun y hy=>ui (hi y hy)
theorem put_get {p:Proof} (h0:0≤p.m∧p.m≤255∧0≤p.k∧p.k≤255):(((putL p).getD 0 0).toNat:Int)=p.m∧(((putL p).getD 1 0).toNat:Int)=p.k:=by
  have e0:(putL p).getD 0 0=zch p.m:=rfl;have e1:(putL p).getD 1 0=zch p.k:=rfl;rw[e0,e1,u8_nat h0.1 h0.2.1,u8_nat h0.2.2.1 h0.2.2.2];omega
theorem proof_back {p:Proof} (hw:PW p) (h:wOk p=true):zbs (putL p)=true∧zjJ (putL p)=p:=by
  obtain⟨h1,h2⟩:=zif h;obtain⟨h3,h4⟩:=zbq h1;have hs:=zoT (zqf hw h);have hd:(putL p).drop 2=zi8 (p.p.map zck):=rfl;have hm:(p.p.map zck).map zc9=p.p:=by
    rw[List.map_map]
    conv=>rhs;rw[←List.map_id p.p]
    exact List.map_congr_left fun x hx=>(zr4 (hw x hx).1 (h2 x hx) (hw x hx).2 (h4 x hx)).2
  obtain⟨g1,g2⟩:=put_get (p:=p) ya;have hr:zjJ (putL p)=p:=by
    unfold zjJ;rw[hd,hs,g1,g2];show(⟨p.m,p.k,(p.p.map zck).map zc9⟩:Proof)=p;rw[hm]
  refine⟨?_,hr⟩;unfold zbs;rw[hr,h1,hd,hs,ui (show 2<(putL p).length by unfold putL zi8;simp)];simp only[Bool.true_and,Bool.and_true];rw[List.all_eq_true];intro r hr;obtain⟨x,hx,rfl⟩:=List.mem_map.1 hr;exact(zr4 (hw x hx).1 (h2 x hx) (hw x hx).2 (h4 x hx)).1
theorem put_len {p:Proof} (hw:PW p) (h:wOk p=true):(putL p).length=3+(p.p.map fun x=>181+34*x.l.length).sum:=by
  obtain⟨h1,h2⟩:=zif h;unfold putL;rw[List.length_cons,List.length_cons,zl6,List.map_map]
  have:p.p.map ((fun x:List UInt8=>2+x.length) ∘ zck)=p.p.map fun x=>181+34*x.l.length:=List.map_congr_left fun x hx=>by
    show 2+(zck x).length=_;rw[zm7 (hw x hx).1 (h2 x hx) (hw x hx).2];omega
  rw[this];omega
theorem zd0 {b:List UInt8} {p size:Int} (h:size<0∨8<size∨p<0∨(b.length:Int)<p∨(b.length:Int)-p<size):zga b p size=false:=by
  unfold zga;apply uh;omega
theorem getOk_yes {b:List UInt8} {p size:Int} (h1:¬size<0) (h2:¬8<size) (h3:¬p<0) (h4:¬(b.length:Int)<p) (h5:¬(b.length:Int)-p<size):zga b p size=true:=by
  unfold zga;apply ui;omega
theorem zns {b:List UInt8} {p size:Int} (h:zga b p size=false):getU b p size=0:=by unfold getU;rw[h];rfl
theorem zme {b:List UInt8} {p size:Int} (h:zga b p size=true):getU b p size=valU ((b.drop p.toNat).take size.toNat):=by unfold getU;rw[ut h]
theorem get2_le {b:List UInt8} {p:Int} (h:zga b p 2=true):(getU b p 2).toNat≤65535:=by
  rw[zme h,show(2:Int).toNat=2 from rfl];have hl:((b.drop p.toNat).take 2).length≤2:=by rw[um];omega
  have h2:=zld ((b.drop p.toNat).take 2) ya;have h3:=zpT ((b.drop p.toNat).take 2);have h4:256^((b.drop p.toNat).take 2).length≤256^2:=Nat.pow_le_pow_right yr hl;have h5:(256:Nat)^2=65536:=rfl;omega
theorem zv7 {b:List UInt8} {p:Int} (h:cutE b p=false):cutX b p=[]∧zkg b p=0:=by
  unfold cutX zkg;rw[h];exact⟨rfl,rfl⟩
theorem znO {b:List UInt8} {p:Int} (h:cutE b p=true):cutX b p=(b.drop (p.toNat+2)).take (getU b p 2).toNat∧zkg b p=p+2+(getU b p 2).toNat:=by
  unfold cutX zkg;rw[h];exact⟨rfl,rfl⟩
def blobR (x:List UInt8):List UInt8:=if zd5 x=true then zh9 x else []
def ztJ (l:List (List UInt8)):List UInt8:=if zdO l=true then zi8 l else []
theorem rows_no {l:List (List UInt8)} (h:255<l.length):zdO l=false:=by unfold zdO;rw[uh ya];rfl
theorem zuX {l:List (List UInt8)} {k:Nat} {x:List UInt8} (hx:l[k]?=some x) (h:¬zd5 x=true):zdO l=false:=by
  unfold zdO;rw[Bool.and_eq_false_iff];right;rw[List.all_eq_false];exact⟨x,ud hx,h⟩
theorem zuY {l:List (List UInt8)} {k:Nat} (h:¬255<l.length) (hb:∀x∈l.take k,zd5 x=true) (hk:l.length≤k):zdO l=true:=by
  rw[uc hk] at hb;unfold zdO;rw[ui ya,Bool.true_and,List.all_eq_true];exact hb
def zot (l:List (List UInt8)) (k:Nat):List UInt8:=zch (IntL.toI i64T (l.length:Int))::((l.take k).map zh9).flatten
theorem rowsN_step {l:List (List UInt8)} {k:Nat} {x:List UInt8} (h:l[k]?=some x):zot l (k+1)=zot l k++zh9 x:=by
  unfold zot;rw[un,h];simp
theorem rowsN_all {l:List (List UInt8)} {k:Nat} (h:l.length≤k):zot l k=zi8 l:=by
  unfold zot zi8;rw[uc h];rfl
theorem rowsN_len {l:List (List UInt8)} {k:Nat} (h:∀x∈l.take k,zd5 x=true):(zot l k).length≤1+k*65537:=by
  unfold zot;rw[List.length_cons]
  have:∀(m:List (List UInt8)),(∀x∈m,zd5 x=true)→(m.map zh9).flatten.length≤m.length*65537:=by
    intro m
    induction m with
    | nil=>intro _;simp
    | cons x m ih =>
      intro hm;have h1:=ih (fun y hy=>hm y (List.mem_cons_of_mem _ hy));have h2:=of_decide_eq_true (hm x (List.mem_cons_self ..));rw[List.map_cons,List.flatten_cons,ue,zq2,List.length_cons];omega
  have h1:=this (l.take k) h;have h2:(l.take k).length≤k:=by rw[um];omega
  have h3:(l.take k).length*65537≤k*65537:=Nat.mul_le_mul_right _ h2;omega
theorem cloneU8 (l:List UInt8) (hl:l.length*1≤140737488355328∧l.length≤9223372036854775807):Tells P 323 [.val (bsl u8T) l] (.fresh 5 u8T l):=by
 refine zd Tryz.func323 rfl rfl rfl (fun ext w hext=>?_);refine ze (d:=0) rfl zm (fun hsl0=>?_);refine qa9 ?_;refine qbx ?_;refine zfk rfl rfl rfl rfl rfl zcN (fun c4 hc4=>?_);refine CN ?_;refine zn (p:=c4=true) rfl yA (fun ht4=>?_) (fun ht4=>?_)
 ·
  obtain rfl:=hc4 ht4;refine qa9 ?_;refine CN ?_;exact zb rfl rfl (zx rfl)
 refine CSQR ?_;refine zb9 (T:=u8T) (xs:=[]) rfl rfl rfl rfl zcG zcT trivial rfl rfl ?_;refine qa7 ?_;refine zC rfl rfl rfl rfl rfl rfl rfl zcT yaF ?_;refine qbJ ?_;exact zb rfl rfl (zh rfl rfl yA)
theorem ztc (b:List UInt8) (p size:Int):Tells P 233 [.val (bsl u8T) b,.val i64T p,.val i64T size] (.tup2 (.val u64T (getU b p size)) (.val zl (zga b p size))):=by
 refine zd Tryz.func233 rfl rfl rfl (fun ext w hext=>?_);refine ze (d:=0) rfl zm (fun hsl0=>?_);refine ze (d:=1) rfl zu (fun hin1=>?_);refine ze (d:=2) rfl zu (fun hin2=>?_);refine CQR ?_;refine A0 aV ?_;refine qap ?_;refine A0 zcy ?_;refine Sp (d:=12) (p:=size<0) (fun g12=>?_) (fun g12=>?_)
 ·
  refine qa7 ?_;refine qbm ?_;refine qaf ?_;refine A2 ?_;refine qao ?_;refine qcU ?_;refine Ct ?_;refine CQR ?_;refine qck ?_;exact zac rfl rfl (za rfl ((zns (zd0 (.inl g12))).symm)) (za rfl ((zd0 (.inl g12)).symm))
 refine qa7 ?_;refine qcV ?_;refine A1 zbH ?_;refine Sp (d:=15) (p:=8<size) (fun g15=>?_) (fun g15=>?_)
 ·
  refine qaf ?_;refine A2 ?_;refine qao ?_;refine qcU ?_;refine Ct ?_;refine CQR ?_;refine qck ?_;exact zac rfl rfl (za rfl ((zns (zd0 (.inr (.inl g15)))).symm)) (za rfl ((zd0 (.inr (.inl g15))).symm))
 refine qaf ?_;refine qcV ?_;refine A1 zcy ?_;refine Sp (d:=19) (p:=p<0) (fun g19=>?_) (fun g19=>?_)
 ·
  refine qaf ?_;refine qaa ?_;refine qa8 ?_;refine qcU ?_;refine Ct ?_;refine CQR ?_;refine qck ?_;exact zac rfl rfl (za rfl ((zns (zd0 (.inr (.inr (.inl g19))))).symm)) (za rfl ((zd0 (.inr (.inr (.inl g19)))).symm))
 refine qaf ?_;refine qcV ?_;refine qcV ?_;refine A1 (zN rfl rfl zcN) ?_;refine A1 zbH ?_;refine Sp (d:=25) (p:=(b.length:Int)<p) (fun g25=>?_) (fun g25=>?_)
 ·
  refine qaf ?_;refine qaa ?_;refine qcU ?_;refine Ct ?_;refine CQR ?_;refine qck ?_;exact zac rfl rfl (za rfl ((zns (zd0 (.inr (.inr (.inr (.inl g25)))))).symm)) (za rfl ((zd0 (.inr (.inr (.inr (.inl g25))))).symm))
 refine qaf ?_;refine qcV ?_;refine qcV ?_;refine A1 (zN rfl rfl zcN) ?_;refine qcV ?_;refine A1 zbT ?_;refine A1 zbH ?_;refine qau ?_;refine Cf (p:=(b.length:Int)-p<size) (fun ht34=>?_) (fun ht34=>?_)
 ·
  refine CQR ?_;refine qck ?_;exact zac rfl rfl (za rfl ((zns (zd0 (.inr (.inr (.inr (.inr ht34)))))).symm)) (za rfl ((zd0 (.inr (.inr (.inr (.inr ht34))))).symm))
 have hok:=getOk_yes g12 g15 g19 g25 ht34;obtain⟨M,hM⟩:∃M,M=(b.drop p.toNat).take size.toNat:=⟨_,rfl⟩;have hml:M.length=size.toNat:=by rw[hM,um,List.length_drop];omega
 refine CSQR ?_;refine qap ?_;refine qav ?_;refine qb2 ?_;refine A0 (g_sl_lh rfl rfl rfl rfl zcG yg) ?_;refine zi (d:=40) (y:=M) rfl (by rw[hM,List.drop_take];congr 1;omega) ?_;refine xi ?_;refine qaH ?_;refine Lp (ι:=Nat) 0 (fun (k:Nat)=>((((Fr.none).set 8 (.val u64T (valU (M.take k)))).set 40 (.val (bsl u8T) M)).set 41 (.val i64T (M.length:Int))).set 42 (.val i64T (k:Int))) (fun (k:Nat)=>Hp.none) (fun (k:Nat)=>k≤M.length) (fun (k:Nat)=>M.length-k) (0) (uf _) ?_;intro k hinv;refine qar ?_;refine Cf (p:=k<M.length) (fun ht43=>?_) (fun ht43=>?_)
 ·
  obtain⟨x,hx⟩:∃x,M[k]?=some x:=⟨_,ub ht43⟩;refine CSQBQR ?_;refine A0 (zV (i:=k) rfl rfl rfl ya zcG yj) ?_;refine A0 (zf rfl rfl ty_5) ?_;refine A0 aX ?_;refine CNR ?_;refine qa7 ?_;refine A0 (zkY rfl rfl rfl ym rfl) ?_;refine A0 mX ?_;refine A0 (zfC rfl (zlL) (us_5) rfl) ?_;refine A0 (zsJ rfl rfl rfl) ?_;refine A0 aV ?_;refine qbt ?_;refine zi (d:=8) (y:=valU (M.take (k+1))) rfl (by rw[un,hx];show _=valU (M.take k++[x]);rw[zrr];rfl) ?_;exact Nx (k+1) ya ya
 refine CE ?_;refine qaE ?_;refine qck ?_;exact zac rfl rfl (za rfl (by rw[zme hok,uc ya,hM])) (za rfl (hok.symm))
theorem binBlob_ok (x:List UInt8):Tells P 269 [.val (bsl u8T) x] (.tup2 (.fresh 5 u8T (blobR x)) (.val zl (zd5 x))):=by
 refine zd Tryz.func269 rfl rfl rfl (fun ext w hext=>?_);refine ze (d:=0) rfl zm (fun hsl0=>?_);refine qa9 ?_;refine qap ?_;refine xi ?_;refine qcL ?_;refine Cf (p:=65535<x.length) (fun ht6=>?_) (fun ht6=>?_)
 ·
  refine qc9 ?_;exact zac rfl rfl (by rw[show blobR x=[] by unfold blobR zd5;rw[ur (by rw[uj];omega)]];exact zx rfl) (za rfl (by unfold zd5;symm;apply uh;omega))
 have hbo:zd5 x=true:=ui ya;have hn:=zS (z2 (IntL.toI i64T (x.length:Int))) 2;refine qc4 ?_;refine xi ?_;refine A0 (zfC rfl (zlL) (us_3) rfl) ?_;refine A0 (oCl (zB (zkm _ 2 yr)) rfl zvR ye) ?_;refine zk8 (S:=bsl u8T) (d:=10) rfl ?_;refine qa7 ?_;refine A0 (zL (T:=(bsl u8T)) (xs:=[_,_]) rfl zdL zdj yao rfl rfl) ?_;refine zaQ (zgB [zz (z2 (IntL.toI i64T (x.length:Int))) 2,x] (by simp[hn];omega)) rfl zpp yd rfl rfl rfl ?_;refine qcR ?_;exact zac rfl rfl (zh rfl rfl (by unfold blobR;rw[ut hbo];unfold zh9;simp[IntL.toI])) (za rfl (hbo.symm))
theorem binCut_ok (b:List UInt8) (p:Int) (hb:b.length≤1000000000):Tells P 274 [.val (bsl u8T) b,.val i64T p] (.tup3 (.fresh 5 u8T (cutX b p)) (.val i64T (zkg b p)) (.val zl (cutE b p))):=by
 have hu:=get2_le (b:=b) (p:=p);refine zd Tryz.func274 rfl rfl rfl (fun ext w hext=>?_);refine ze (d:=0) rfl zm (fun hsl0=>?_);refine ze (d:=1) rfl zu (fun hin1=>?_);refine qa9 ?_;refine A0 aV ?_;refine qbv ?_;refine A0 (oCl (ztc b p 2) rfl fn_233 yaf) ?_;refine qaN ?_;refine A0 aV ?_;refine qap ?_;refine A0 oN ?_;refine zo (d:=18) (p:=zga b p 2=false) rfl (by cases zga b p 2<;>rfl) (fun g18=>?_) (fun g18=>?_)
 ·
  have hcn:cutE b p=false:=by unfold cutE;rw[g18];rfl
  refine qa7 ?_;refine qaa ?_;refine qaa ?_;refine qbm ?_;refine qau ?_;refine Ct ?_;refine qa9 ?_;refine qck ?_;exact ze3 rfl rfl (by rw[(zv7 hcn).1];exact zx rfl) (za rfl (by rw[(zv7 hcn).2])) (za rfl hcn.symm)
 have hg:zga b p 2=true:=by simpa using g18
 have hu2:=hu hg;have hgs:0≤p∧p≤b.length∧2≤(b.length:Int)-p:=by have h:=hg;unfold zga at h;rw[uj] at h;omega
 have hti:IntL.toI u64T (getU b p 2)=((getU b p 2).toNat:Int):=rfl;refine qa7 ?_;refine qcV ?_;refine A1 (znx rfl (ui_3) (us_50) rfl yaR) ?_;refine qcV ?_;refine A1 (zN rfl rfl zcN) ?_;refine qcV ?_;refine A1 zbT ?_;refine A1 zbT ?_;refine A1 zbH ?_;refine qau ?_;refine Cf (p:=(b.length:Int)-p-2<((getU b p 2).toNat:Int)) (fun ht28=>?_) (fun ht28=>?_)
 ·
  have hcn:cutE b p=false:=by unfold cutE;rw[hg,Bool.true_and,decide_eq_false_iff_not];omega
  refine qa9 ?_;refine qck ?_;exact ze3 rfl rfl (by rw[(zv7 hcn).1];exact zx rfl) (za rfl (by rw[(zv7 hcn).2])) (za rfl hcn.symm)
 have hce:cutE b p=true:=by unfold cutE;rw[hg,Bool.true_and,uj];omega
 refine CSQR ?_;refine qb2 ?_;refine qb2 ?_;refine qa7 ?_;refine A0 (znx rfl (ui_3) (us_50) rfl yaR) ?_;refine A0 zdl ?_;refine A0 aV ?_;refine qbv ?_;refine qav ?_;refine A0 (zvE rfl rfl rfl rfl rfl zcG yg) ?_;refine zi (d:=40) (y:=cutX b p) rfl (by rw[(znO hce).1,List.drop_take];congr 1<;>first|omega|(congr 1;omega)) ?_;have hcl:(cutX b p).length≤b.length:=by rw[(znO hce).1,um,List.length_drop];omega
 refine zaQ (cloneU8 (cutX b p) y6) rfl fn_323 yd rfl rfl rfl ?_;refine qa7 ?_;refine A0 aO ?_;refine qck ?_;exact ze3 rfl rfl (zh rfl rfl yA) (za rfl (by rw[(znO hce).2,hti])) (za rfl hce.symm)
theorem binRows_ok (l:List (List UInt8)):Tells P 219 [.val (bsl (bsl u8T)) l] (.tup2 (.fresh 5 u8T (ztJ l)) (.val zl (zdO l))):=by
 refine zd Tryz.func219 rfl rfl rfl (fun ext w hext=>?_);refine ze (d:=0) rfl zm (fun hsl0=>?_);refine qa9 ?_;refine qap ?_;refine A0 (zN rfl rfl zgX) ?_;refine qcL ?_;refine Cf (p:=255<l.length) (fun ht11=>?_) (fun ht11=>?_)
 ·
  refine qc9 ?_;exact zac rfl rfl (by rw[show ztJ l=[] by unfold ztJ;rw[ur (by rw[rows_no ht11];decide)]];exact zx rfl) (za rfl ((rows_no ht11).symm))
 refine qc4 ?_;refine A0 (zN rfl rfl zgX) ?_;refine A0 (zny rfl (ui_5) (us_3) rfl) ?_;refine zb9 (T:=u8T) (xs:=[_]) rfl rfl rfl rfl zcG zcT yE rfl rfl ?_;refine A0 aO ?_;refine qbx ?_;refine A0 (zN rfl rfl zgX) ?_;refine qaH ?_;refine zj (n:=0) (y:=zot l 0) rfl (by rfl) ?_;refine Lp (ι:=Nat) 1 (fun k=>((((Fr.none.set 0 (.val (bsl (bsl u8T)) l)).set 4 (.own 0)).set 16 (.val (bsl (bsl u8T)) l)).set 17 (.val i64T (l.length:Int))).set 18 (.val i64T (k:Int))) (fun k=>Hp.none.set 0 (.row 5 u8T (zot l k))) (fun k=>k≤l.length∧∀x∈l.take k,zd5 x=true) (fun k=>l.length-k) (0) (⟨uf _,fun x hx=>by simp at hx⟩) ?_;intro k hinv;refine qar ?_;refine Cf (p:=k<l.length) (fun ht19=>?_) (fun ht19=>?_)
 ·
  obtain⟨x,hx⟩:∃x,l[k]?=some x:=⟨_,ub ht19⟩;have hnl:=rowsN_len hinv.2;refine CSQBQR ?_;refine A0 (zV (i:=k) rfl rfl rfl ya zdL yj) ?_;refine A0 (zf rfl rfl zcx) ?_;refine qcx ?_;refine A0 (oCl (zee (binBlob_ok x)) rfl fn_269 ybM) ?_;refine qaN ?_;refine A0 aV ?_;refine qap ?_;refine qb3 ?_;refine zn (p:=¬zd5 x=true) rfl (by cases zd5 x<;>rfl) (fun ht28=>?_) (fun ht28=>?_)
  ·
   refine qc9 ?_;exact zac rfl rfl (by rw[show ztJ l=[] by unfold ztJ;rw[ur (by rw[zuX hx ht28];decide)]];exact zx rfl) (za rfl ((zuX hx ht28).symm))
  have hbo:zd5 x=true:=ua ht28;have hbr:blobR x=zh9 x:=by unfold blobR;rw[ut hbo]
  have hbx:=of_decide_eq_true hbo;have hbl:=zq2 x;refine CS ?_;refine qcP ?_;refine qa7 ?_;refine zC rfl rfl rfl rfl rfl rfl rfl zcT (by rw[hbr];simp;omega) ?_;refine A0 aO ?_;refine qbt ?_;refine xh ?_;refine zj (n:=0) (y:=zot l (k+1)) rfl (by rw[hbr,rowsN_step hx]) ?_;exact Nx (k+1) (⟨by omega,fun y hy=>by rw[un,hx] at hy;rcases List.mem_append.1 hy with h|h;exact hinv.2 y h;simp at h;rw[h];exact hbo⟩) ya
 refine CE ?_;refine qbZ ?_;refine qcR ?_;exact zac rfl rfl (zh rfl rfl (by unfold ztJ;rw[zuY ht11 hinv.2 ya,ut rfl];exact rowsN_all ya)) (za rfl ((zuY ht11 hinv.2 ya).symm))
theorem zl7 {J:Job} {hp:Hp} {X:AV} {e:Nat} {α:Type} {T:GoT α} {l:List α} (h:X = .lit (.slice none 0 0)) (el:l=[]):zfl J hp X (.fresh e T l):=by subst el;exact zx h
theorem zn_rows:zaw P 189 nilT ():=zfm zjt yo
theorem drop_two {b:List UInt8} {p:Nat} (h:p+2≤b.length):∃a c r,b.drop p=a::c::r∧r=b.drop (p+2):=by
  obtain⟨a,ha⟩:∃a,b[p]?=some a:=yB;obtain⟨c,hc⟩:∃c,b[p+1]?=some c:=yB;refine⟨a,c,b.drop (p+2),?_,rfl⟩;have h1:b.drop p=a::b.drop (p+1):=by
    obtain⟨h1,e⟩:=ul.1 ha;rw[List.drop_eq_getElem_cons h1,e]
  have h2:b.drop (p+1)=c::b.drop (p+2):=by
    obtain⟨h1,e⟩:=ul.1 hc;rw[List.drop_eq_getElem_cons h1,e]
  rw[h1,h2]
theorem zv9 {b:List UInt8} {p:Nat} (hp:p≤b.length):cutN (b.drop p)=if cutE b p=true then some (cutX b p,b.drop (zkg b p).toNat) else none:=by
  by_cases h2:p+2≤b.length
  · obtain⟨a,c,r,e,er⟩:=drop_two h2
    have hg:zga b p 2=true:=by unfold zga;rw[uj];omega
    have hu:(getU b p 2).toNat=256*a.toNat+c.toNat:=by
      rw[zme hg];have e1:(b.drop (p:Int).toNat).take (2:Int).toNat=[a,c]:=by
        rw[show((p:Int)).toNat=p by omega,show(2:Int).toNat=2 from rfl,e];rfl
      rw[e1,zld [a,c] yA];show 256*(256*0+a.toNat)+c.toNat=_;omega
    have hrl:r.length=b.length-(p+2):=by rw[er,List.length_drop]
    rw[e,cutN];by_cases h3:256*a.toNat+c.toNat≤r.length
    · have hce : cutE b p = true := by
        unfold cutE;rw[hg,Bool.true_and,uj,hu];omega
      obtain⟨c1,c2⟩:=znO hce;rw[ut h3,ut hce,c1,c2,hu,show((p:Int)).toNat=p by omega,←er];congr 2;rw[er,List.drop_drop];congr 1
    have hce : ¬ cutE b p = true := by
      unfold cutE;rw[hg,Bool.true_and,uj,hu];omega
    rw[ur h3,ur hce]
  have hg:zga b p 2=false:=zd0 ya;have hce:¬cutE b p=true:=by unfold cutE;rw[hg];simp
  rw[ur hce]
  match hd:b.drop p with
  | []=>rfl
  | [_]=>rfl
  | _::_::r =>
    have:=congrArg List.length hd
    rw[List.length_drop] at this;simp at this;omega
structure SplitAt (b:List UInt8) (N:Nat) (p:Nat) (out:List (List UInt8)):Prop where
  p1:1≤p
  p2:p≤b.length
  n:out.length≤N
  l:(pieces N (b.drop 1)).1=out++(pieces (N-out.length) (b.drop p)).1
  z:(pieces N (b.drop 1)).2=(pieces (N-out.length) (b.drop p)).2
theorem ztC {b:List UInt8} {N:Nat} (h:1≤b.length):SplitAt b N 1 []:=⟨ug _,h,uf _,rfl,rfl⟩
theorem zv8 {b:List UInt8} {p:Nat} (hp:p≤b.length) (hc:cutE b p=true):∃q:Nat,zkg b p=(q:Int)∧p<q∧q≤b.length∧(cutX b p).length≤65535:=by
  have hg:zga b p 2=true:=by
    unfold cutE at hc;rw[uk] at hc;exact hc.1
  have hu:=get2_le hg;have hgs:=hg;unfold zga at hgs;rw[uj] at hgs;have h2:=hc;unfold cutE at h2;rw[uk,uj] at h2;obtain⟨c1,c2⟩:=znO hc;refine⟨p+2+(getU b p 2).toNat,by rw[c2];omega,by omega,by omega,?_⟩;rw[c1,um];omega
theorem split_go {b:List UInt8} {N p:Nat} {out:List (List UInt8)} (h:SplitAt b N p out) (hc:cutE b p=true) (hn:¬out.length=N):SplitAt b N (zkg b p).toNat (out++[cutX b p]):=by
  obtain⟨q,hq,h1,h2,_⟩:=zv8 h.p2 hc;have hN:N-out.length=(N-(out++[cutX b p]).length)+1:=by
    have:=h.n
    rw[ue,List.length_singleton];omega
  have hp:pieces (N-out.length) (b.drop p)=(cutX b p::(pieces (N-(out++[cutX b p]).length) (b.drop (zkg b p).toNat)).1,(pieces (N-(out++[cutX b p]).length) (b.drop (zkg b p).toNat)).2):=by
    rw[hN,pieces,zv9 h.p2,ut hc]
  have hp1:=h.p1;have hnn:=h.n;refine⟨by rw[hq];omega,by rw[hq];omega,by rw[ue,List.length_singleton];omega,?_,?_⟩
  · rw[h.l,hp,List.append_assoc];rfl
  rw[h.z,hp]
theorem zbX {b:List UInt8} {N p:Nat} {out:List (List UInt8)} (h:SplitAt b N p out) (hc:cutE b p=false∨out.length=N):pieces N (b.drop 1)=(out,b.drop p):=by
  have hp:pieces (N-out.length) (b.drop p)=([],b.drop p):=by
    by_cases e:out.length=N
    · rw[show N-out.length=0 by omega];rfl
    have hn:=h.n;rw[show N-out.length=(N-out.length-1)+1 by omega,pieces,zv9 h.p2,ur (by rw[hc.resolve_right e];decide)]
  have h1:=h.l;have h2:=h.z;rw[hp] at h1 h2;rw[List.append_nil] at h1;exact Prod.ext h1 h2
theorem zbY {b:List UInt8} {n0:UInt8} {p:Nat} {out:List (List UInt8)} (h0:b[0]?=some n0) (h:pieces n0.toNat (b.drop 1)=(out,b.drop p)):zW b=if out.length=n0.toNat∧b.drop p=[] then (out,true) else ([],false):=by
  match b,h0 with
  | n::r,h0 =>
    have e:n=n0:=by simpa using h0
    subst e;have h:pieces n.toNat r=(out,(n::r).drop p):=h;unfold zW;simp only[];rw[h]
theorem zur (b:List UInt8) (hb:b.length≤1000000000):Tells P 172 [.val (bsl u8T) b] (.tup2 (.fresh 22 (sl u8T) (zW b).1) (.val zl (zW b).2)):=by
 refine zd Tryz.func172 rfl rfl rfl (fun ext w hext=>?_);refine ze (d:=0) rfl zm (fun hsl0=>?_);refine qah ?_;refine A0 aL ?_;refine qbO ?_;refine xl ?_;refine xi ?_;refine A0 zaH ?_;refine CN ?_;refine zn (p:=b.length=0) rfl yw (fun ht10=>?_) (fun ht10=>?_)
 ·
  refine qc9 ?_;exact zac rfl rfl (by rw[List.length_eq_zero_iff.1 ht10];exact zx rfl) (za rfl (by rw[List.length_eq_zero_iff.1 ht10];rfl))
 obtain⟨n0,hn0⟩:∃n0,b[0]?=some n0:=yB;have hn8:n0.toNat<256:=n0.toNat_lt;have hti8:IntL.toI u8T n0=(n0.toNat:Int):=rfl;refine CSQR ?_;refine zq zn_rows rfl rfl rfl rfl ?_;refine CN ?_;refine aw_nilbox 1 22 (sl u8T) rfl ?_;refine CQR ?_;refine zq ze_3 rfl rfl rfl rfl ?_;refine qcB ?_;refine CNQQR ?_;refine xl ?_;refine zR rfl rfl rfl rfl Tryz.func232 fn_232 rfl rfl (fun ia2 iok2=>?_);refine qah ?_;refine qbY ?_;refine CNB ?_;refine ziA rfl rfl rfl Tryz.func273 fn_273 rfl rfl yO (fun fid3 ca3 lN3 DN3 cok3 rc3 hrc3=>?_);refine CQR ?_;refine qcq ?_;refine zaz 2 7 8 rfl rfl rfl rfl rfl rfl ?_;refine Lp (ι:=Nat×List (List UInt8)) 8 (fun(p,out)=>((Fr.none.set 0 (.lit (.func (.yield lN3) #[] #[]))).set 1 (.ptr 4 0)).set 3 (.val i64T (p:Int))) (fun(p,out)=>((((((Hp.none.set 0 (.box 22 (bsl u8T) b)).set 1 (.parts 189 [.own 7])).set 3 (.box 3 i64T (p:Int))).set 4 (.box 22 (bsl u8T) b)).set 7 (.row 22 (sl u8T) out)).set 5 (.objAt DN3 (.deferred (some [])))).set 6 (.objAt lN3 (rc3 .ready none))) (fun(p,out)=>SplitAt b n0.toNat p out) (fun(p,out)=>b.length-p) ((1,[])) (ztC ya) ?_;intro⟨p,out⟩ hinv;dsimp only at hinv;refine CB ?_;refine CQR ?_;refine xl ?_;refine qa7 ?_;refine A0 (oCl (tells_pub3 (binCut_ok b p hb)) rfl fn_274 ye) ?_;refine qaN ?_;refine A0 e32 ?_;refine A0 aV ?_;refine A0 aV ?_;refine qap ?_;refine A0 oN ?_;refine zo (d:=15) (p:=cutE b p=false) rfl (by cases cutE b p<;>rfl) (fun g15=>?_) (fun g15=>?_)
 ·
  refine qa7 ?_;refine qaa ?_;refine qbm ?_;refine qau ?_;refine Ct ?_;refine zha (nL:=6) rfl hrc3 rfl yr ?_;refine CI ?_;refine qaK ?_;refine G0 zcQ ?_;refine zaG (d:=33) (p:=¬out.length=n0.toNat) rfl (by rw[←decide_not,uo,hti8];simp only[IntL.toI,id_eq];omega) (fun g33=>?_) (fun g33=>?_)
  ·
   refine G0 mV ?_;refine qbn ?_;refine G2 ?_;refine qby ?_;refine Ct ?_;refine qc9 ?_;refine zay (zcn (nD:=5) rfl rfl rfl ?_);exact zjq rfl rfl (zl7 rfl (by rw[zbY hn0 (zbX hinv (.inl g15)),ur (fun h=>g33 h.1)])) (za rfl (by rw[zbY hn0 (zbX hinv (.inl g15)),ur (fun h=>g33 h.1)]))
  refine G0 mV ?_;refine G1 (oLs rfl rfl rfl ty_3) ?_;refine G1 (oLs rfl rfl rfl zcx) ?_;refine G1 (zN rfl rfl zcN) ?_;refine G1 zcQ ?_;refine qby ?_;refine zn (p:=¬p=b.length) rfl ya0 (fun ht39=>?_) (fun ht39=>?_)
  ·
   refine qc9 ?_;refine zay (zcn (nD:=5) rfl rfl rfl ?_);exact zjq rfl rfl (zl7 rfl ya1) (za rfl ya1)
  refine qcZ ?_;refine qcR ?_;refine zay (zcn (nD:=5) rfl rfl rfl ?_);exact zjq rfl rfl (zh rfl rfl ybb) (za rfl ybb)
 have hce:cutE b p=true:=by simpa using g15
 obtain⟨q,hq,hpq,hqb,hxl⟩:=zv8 hinv.p2 hce;have hol:=hinv.n;refine qa7 ?_;refine A1 mL ?_;refine qcV ?_;refine qcV ?_;refine aw_unguard rfl rfl rfl rfl rfl rfl ?_;refine ziz (nL:=6) rfl rfl rfl rfl rfl hrc3 rfl rfl rfl (fun ya4 yok4=>?_);refine CQR ?_;refine qc3 ?_;refine qae ?_;refine ziC (nL:=6) hrc3 rfl ?_;refine CB ?_;refine qaK ?_;refine G0 zaH ?_;refine GK.nil ?_;refine Cf (p:=out.length=n0.toNat) (fun ht21=>?_) (fun ht21=>?_)
 ·
  refine zq4 (nL:=6) rfl hrc3 rfl ?_;refine A1 oN ?_;refine qau ?_;refine Ct ?_;refine zha (nL:=6) rfl hrc3 rfl yr ?_;refine CE ?_;refine qaK ?_;refine G0 zcQ ?_;refine zaG (d:=33) (p:=¬out.length=n0.toNat) rfl (by rw[←decide_not,uo,hti8];simp only[IntL.toI,id_eq];omega) (fun g33=>?_) (fun g33=>?_)
  ·
   refine G0 mV ?_;refine qbn ?_;refine G2 ?_;refine qby ?_;refine Ct ?_;refine qc9 ?_;refine zay (zcn (nD:=5) rfl rfl rfl ?_);exact zjq rfl rfl (zl7 rfl (by rw[zbY hn0 (zbX hinv (.inr ht21)),ur (fun h=>g33 h.1)])) (za rfl (by rw[zbY hn0 (zbX hinv (.inr ht21)),ur (fun h=>g33 h.1)]))
  refine G0 mV ?_;refine G1 (oLs rfl rfl rfl ty_3) ?_;refine G1 (oLs rfl rfl rfl zcx) ?_;refine G1 (zN rfl rfl zcN) ?_;refine G1 zcQ ?_;refine qby ?_;refine zn (p:=¬p=b.length) rfl ya0 (fun ht39=>?_) (fun ht39=>?_)
  ·
   refine qc9 ?_;refine zay (zcn (nD:=5) rfl rfl rfl ?_);exact zjq rfl rfl (zl7 rfl yaY) (za rfl yaY)
  refine qcZ ?_;refine qcR ?_;refine zay (zcn (nD:=5) rfl rfl rfl ?_);exact zjq rfl rfl (zh rfl rfl ya8) (za rfl ya8)
 refine qcZ ?_;refine qa7 ?_;refine A0 (zL (T:=(sl u8T)) (xs:=[_]) rfl zdL zdj yE rfl rfl) ?_;refine zC rfl rfl rfl rfl rfl rfl rfl zdj yK ?_;refine zap rfl rfl rfl rfl rfl rfl rfl rfl rfl rfl zrw ?_;refine CNR ?_;refine qa7 ?_;refine qcB ?_;refine CN ?_;refine CI ?_;refine zdS (nL:=6) hrc3 rfl ?_;refine A1 oN ?_;refine qau ?_;refine Cg ?_;refine CS ?_;refine CR ?_;refine qa7 ?_;refine qae ?_;refine CI ?_;refine zaz 8 7 9 rfl rfl rfl rfl rfl rfl ?_;refine zF (n:=3) (y:=(((zkg b p).toNat:Nat):Int)) rfl (by rw[hq];omega) ?_;refine zi (d:=3) (y:=(((zkg b p).toNat:Nat):Int)) rfl (by rw[hq];omega) ?_;exact Nx (((zkg b p).toNat,out++[cutX b p])) (split_go hinv hce ht21) (by show b.length-(zkg b p).toNat<b.length-p;omega)
theorem zvC {l:List UInt8} {n:Nat} (h:l.length=n) (hn:n≤8):getU l 0 (n:Int)=valU l:=by
  have hg:zga l 0 (n:Int)=true:=by unfold zga;rw[uj];omega
  rw[zme hg,show(0:Int).toNat=0 from rfl,List.drop_zero,show((n:Int)).toNat=n by omega,uc ya]
theorem u32_of {l:List UInt8} (h:l.length≤4):zjv (IntL.toI u64T (valU l))=UInt32.ofNat (valU l).toNat:=by
  unfold zjv;have e:IntL.toI u64T (valU l)=((valU l).toNat:Int):=rfl;have h1:=zld l ya;have h2:=zpT l;have h3:256^l.length≤256^4:=Nat.pow_le_pow_right yr h;have h4:(256:Nat)^4=4294967296:=rfl;rw[e];congr 1;omega
theorem dd (b:List UInt8) (i j k:Nat) (h:i+j=k):(b.drop i).drop j=b.drop k:=by rw[List.drop_drop,h]
theorem num4_at {X:List UInt8} (h:4≤X.length):getU (X.take (Int.toNat 4)) 0 4=valU (X.take 4):=zvC (l:=X.take 4) (n:=4) (by rw[um];omega) yr
theorem num8_at {X:List UInt8} (h:8≤X.length):getU (X.take (Int.toNat 8)) 0 8=valU (X.take 8):=zvC (l:=X.take 8) (n:=8) (by rw[um];omega) yr
theorem zgN {l:List UInt8} (h:l.length≤4):IntKind.i64.wrap (IntL.toI u64T (valU l))=((valU l).toNat:Int):=by
  have e:IntL.toI u64T (valU l)=((valU l).toNat:Int):=rfl;have h1:=zld l ya;have h2:=zpT l;have h3:256^l.length≤256^4:=Nat.pow_le_pow_right yr h;have h4:(256:Nat)^4=4294967296:=rfl;rw[e];exact zas ya
theorem head_mk {x y:Head} (h1:x.height=y.height) (h2:x.prev=y.prev) (h3:x.links=y.links) (h4:x.txs=y.txs) (h5:x.past=y.past) (h6:x.work=y.work) (h7:x.bits=y.bits) (h8:x.nonce=y.nonce):x=y:=by
  cases x;cases y;simp only at h1 h2 h3 h4 h5 h6 h7 h8;subst h1 h2 h3 h4 h5 h6 h7 h8;rfl
def D1 (b:List UInt8):=b.drop (Int.toNat 4)
def D2 (b:List UInt8):=(D1 b).drop (Int.toNat 32)
def D3 (b:List UInt8):=(D2 b).drop (Int.toNat 32)
def D4 (b:List UInt8):=(D3 b).drop (Int.toNat 32)
def D5 (b:List UInt8):=(D4 b).drop (Int.toNat 32)
def D6 (b:List UInt8):=(D5 b).drop (Int.toNat 32)
def D7 (b:List UInt8):=(D6 b).drop (Int.toNat 4)
theorem d2 (b:List UInt8):D2 b=b.drop 36:=dd b 4 32 36 rfl
theorem d3 (b:List UInt8):D3 b=b.drop 68:=by unfold D3;rw[d2];exact dd b 36 32 68 rfl
theorem d4 (b:List UInt8):D4 b=b.drop 100:=by unfold D4;rw[d3];exact dd b 68 32 100 rfl
theorem d5 (b:List UInt8):D5 b=b.drop 132:=by unfold D5;rw[d4];exact dd b 100 32 132 rfl
theorem d6 (b:List UInt8):D6 b=b.drop 164:=by unfold D6;rw[d5];exact dd b 132 32 164 rfl
theorem d7 (b:List UInt8):D7 b=b.drop 168:=by unfold D7;rw[d6];exact dd b 164 4 168 rfl
theorem rd_is {b:List UInt8} (hl:b.length=176) {x:Head} (h1:x.height=IntKind.i64.wrap (IntL.toI u64T (getU (b.take (Int.toNat 4)) 0 4))) (h2:x.prev=(D1 b).take (Int.toNat 32)) (h3:x.links=(D2 b).take (Int.toNat 32)) (h4:x.txs=(D3 b).take (Int.toNat 32)) (h5:x.past=(D4 b).take (Int.toNat 32))
    (h6:x.work=zlU ((D5 b).take (Int.toNat 32))) (h7:x.bits=zjv (IntL.toI u64T (getU ((D6 b).take (Int.toNat 4)) 0 4))) (h8:x.nonce=getU ((D7 b).take (Int.toNat 8)) 0 8):x=zde b:=by
  rw[num4_at ya,zgN (by rw[um];omega)] at h1;rw[d2] at h3;rw[d3] at h4;rw[d4] at h5;rw[d5] at h6;rw[d6,num4_at (by rw[List.length_drop];omega),u32_of (by rw[um];omega)] at h7;rw[d7,num8_at (by rw[List.length_drop];omega)] at h8;exact head_mk (h1.trans (by simp only[zde])) (h2.trans ybt) (h3.trans ybt) (h4.trans ybt) (h5.trans ybt) (h6.trans ybt) (h7.trans (by simp only[zde])) (h8.trans (by simp only[zde]))
theorem zu4 {b:List UInt8} (h:¬zcV b=true):zlS b=zkv:=by unfold zlS;rw[ur h]
theorem zrY {b:List UInt8} (h:zcV b=true):zlS b=zde b:=by unfold zlS;rw[ut h]
theorem ztL (b:List UInt8):Tells P 111 [.val (bsl u8T) b] (.tup2 (.val zbU (zlS b)) (.val zl (zcV b))):=by
 refine zd Tryz.func111 rfl rfl rfl (fun ext w hext=>?_);refine ze (d:=0) rfl zm (fun hsl0=>?_);refine CQR ?_;refine qcY ?_;refine qap ?_;refine xi ?_;refine qbk ?_;refine zn (p:=¬b.length=176) rfl ya0 (fun ht8=>?_) (fun ht8=>?_)
 ·
  have hno:¬zcV b=true:=by unfold zcV;rw[uk,uj];exact fun h=>ht8 h.1
  refine CQR ?_;refine A0 (zy rfl zon bd_55 .nil rfl) ?_;refine qbu ?_;refine qae ?_;exact zp rfl rfl (zs rfl rfl zaX ((zu4 hno).symm)) (zQ (za rfl ((Bool.eq_false_iff.2 hno).symm)))
 have hl:b.length=176:=ua ht8;refine qc4 ?_;refine A0 (zy rfl ze_267 bd_267 (.cons zmh ziE zcx rfl .nil) rfl) ?_;refine xb ?_;refine A0 aP ?_;refine CNQR ?_;refine qcY ?_;refine CNQR ?_;refine A0 mP ?_;refine zR rfl rfl rfl rfl Tryz.func173 fn_173 rfl rfl (fun ia1 iok1=>?_);refine CQR ?_;refine qaj ?_;refine A0 mP ?_;refine qa7 ?_;refine zR rfl rfl rfl rfl Tryz.func234 zlx rfl rfl (fun ia2 iok2=>?_);refine qaV ?_;refine A0 (znx rfl (ui_3) (us_50) rfl yaR) ?_;refine A0 (oFp zcf) ?_;refine zg rfl rfl rfl rfl rfl zaa ty_3 rfl ?_;refine CNQR ?_;refine A0 mP ?_;refine zR rfl rfl rfl rfl Tryz.func174 zsQ rfl rfl (fun ia3 iok3=>?_);refine qcz ?_;refine A0 mP ?_;refine zR rfl rfl rfl rfl Tryz.func234 zlx rfl rfl (fun ia4 iok4=>?_);refine CQR ?_;refine qa0 ?_;refine xA ?_;refine qbS ?_;refine A0 mP ?_;refine zR rfl rfl rfl rfl Tryz.func174 zsQ rfl rfl (fun ia5 iok5=>?_);refine qcz ?_;refine A0 mP ?_;refine zR rfl rfl rfl rfl Tryz.func234 zlx rfl rfl (fun ia6 iok6=>?_);refine CQR ?_;refine qa0 ?_;refine xA ?_;refine qbS ?_;refine A0 mP ?_;refine zR rfl rfl rfl rfl Tryz.func174 zsQ rfl rfl (fun ia7 iok7=>?_);refine qcz ?_;refine A0 mP ?_;refine zR rfl rfl rfl rfl Tryz.func234 zlx rfl rfl (fun ia8 iok8=>?_);refine CQR ?_;refine qa0 ?_;refine xA ?_;refine qbS ?_;refine A0 mP ?_;refine zR rfl rfl rfl rfl Tryz.func174 zsQ rfl rfl (fun ia9 iok9=>?_);refine qcz ?_;refine A0 mP ?_;refine zR rfl rfl rfl rfl Tryz.func234 zlx rfl rfl (fun ia10 iok10=>?_);refine CQR ?_;refine qa0 ?_;refine xA ?_;refine qbS ?_;refine A0 (oFp zfF) ?_;refine zg rfl rfl rfl rfl rfl zc4 z6 rfl ?_;refine A0 (oFp zfE) ?_;refine zg rfl rfl rfl rfl rfl zcs z6 rfl ?_;refine A0 (oFp zgf) ?_;refine zg rfl rfl rfl rfl rfl zew z6 rfl ?_;refine A0 (oFp zhZ) ?_;refine zg rfl rfl rfl rfl rfl zfR z6 rfl ?_;refine CNQR ?_;refine A0 mP ?_;refine zR rfl rfl rfl rfl Tryz.func174 zsQ rfl rfl (fun ia11 iok11=>?_);refine qcz ?_;refine A0 mP ?_;refine zR rfl rfl rfl rfl Tryz.func234 zlx rfl rfl (fun ia12 iok12=>?_);refine CQR ?_;refine qa0 ?_;refine xA ?_;refine qbS ?_;refine A0 (oCl (zvf _) rfl fn_175 yd) ?_;refine A0 (oFp zji) ?_;refine zg rfl rfl rfl rfl rfl zhc zaO rfl ?_;refine CNQR ?_;refine A0 mP ?_;refine zR rfl rfl rfl rfl Tryz.func173 fn_173 rfl rfl (fun ia13 iok13=>?_);refine CQR ?_;refine qaj ?_;refine A0 mP ?_;refine qa7 ?_;refine zR rfl rfl rfl rfl Tryz.func234 zlx rfl rfl (fun ia14 iok14=>?_);refine qaV ?_;refine A0 (zsL rfl (zrt) (us_50) rfl) ?_;refine A0 (oFp zcX) ?_;refine zg rfl rfl rfl rfl rfl za2 zcd rfl ?_;refine CNQR ?_;refine A0 mP ?_;refine zR rfl rfl rfl rfl Tryz.func173 fn_173 rfl rfl (fun ia15 iok15=>?_);refine CQR ?_;refine qaj ?_;refine A0 mP ?_;refine qa7 ?_;refine zR rfl rfl rfl rfl Tryz.func234 zlx rfl rfl (fun ia16 iok16=>?_);refine qaV ?_;refine A0 (oFp zge) ?_;refine zg rfl rfl rfl rfl rfl zc5 zct rfl ?_;refine CNQ ?_;refine CQ ?_;refine zF (n:=2) (y:=zde b) rfl (rd_is hl yah yah yah yah yah yah yah yah) ?_;refine CR ?_;refine qc6 ?_;refine qcL ?_;refine Cf (p:=1048576<(zde b).height) (fun ht42=>?_) (fun ht42=>?_)
 ·
  have hno:¬zcV b=true:=fun h=>by have:=(rd_ok (b:=b) (by unfold zcV at h;rw[uk,uj,uj] at h;exact h.2)).2;omega
  refine CQR ?_;refine A0 (zy rfl zon bd_55 .nil rfl) ?_;refine qbu ?_;refine qae ?_;exact zp rfl rfl (zs rfl rfl zaX ((zu4 hno).symm)) (zQ (za rfl ((Bool.eq_false_iff.2 hno).symm)))
 have hrh:(zde b).height=((valU (b.take 4)).toNat:Int):=by simp only[zde]
 have hyes:zcV b=true:=by unfold zcV;rw[uk,uj,uj];exact⟨hl,by omega⟩
 refine CSQR ?_;refine qc7 ?_;refine qbu ?_;refine qae ?_;exact zp rfl rfl (zs rfl rfl zaX ((zrY hyes).symm)) (zQ (za rfl (hyes.symm)))
abbrev noV:Value:=.iface 187 (.agg #[])
theorem fine_idle (b:Nat) (w:World):CallsDIn Fence.wide 0 P 108 #[.pointer (some ⟨b,0,none⟩)] .returning w fun e u w'=>e = .returned (.tuple #[])∧u = .returning∧w'=w:=by
  have hn:Tryz.f108.ntmps=7:=rfl;refine callsDIn_of_wpSIn Tryz.func108 rfl trivial fun c₀ cs hu=>?_
  rw[hn];apply wpSIn_seq;apply wpSIn_region;simp[wpOpsSIn,go_sem,recoverD,hu,Exit.thenS];apply wpSIn_seq;apply wpSIn_region;simp[wpOpsSIn,go_sem,recoverD,hu,Exit.thenS];refine wpSIn_cond (t:=false) (by simp[Act.eval,Array.replicate]) ?_;simp only[Bool.false_eq_true,if_false];refine wpSIn_of_wpIn rfl (wpIn_skip ?_);cases c₀
  simp_all [bodyPostS,results]
theorem zt8 (b : Nat) (w : World) (x : Bool) (hw : w.heap[b]? = some (.cells #[.bool x] 4 (0, 0))) : CallsDIn Fence.wide 0 P 108 #[.pointer (some ⟨b, 0, none⟩)] (.panicking [{ v := noV, recovered := false }]) w
    fun e u w'=>e = .returned (.tuple #[])∧u = .panicking [{ v:=noV,recovered:=true }]∧w'=w.putObj b (.cells #[.bool false] 4 (0,0)):=by
  have hn:Tryz.f108.ntmps=7:=rfl;refine callsDIn_of_wpSIn Tryz.func108 rfl trivial fun c₀ cs hu=>?_
  rw[hn];apply wpSIn_seq;apply wpSIn_region;simp[wpOpsSIn,go_sem,recoverD,hu,Exit.thenS];apply wpSIn_seq;apply wpSIn_region;simp[wpOpsSIn,go_sem,recoverD,hu,Exit.thenS];refine wpSIn_cond (t:=true) (by simp[Act.eval,Array.replicate]) ?_;simp only[if_true];apply wpSIn_seq;apply wpSIn_region;simp[wpOpsSIn,go_sem,recoverD,hu,Exit.thenS];have hta:∀w,(Instr.typeAssert noV 20 187 false).run P w = .ok (.agg #[]) w:=fun w=>by kernel_rfl
  have hc:w.cell? { block:=b,off:=0 }=some (.bool x):=by simp[World.cell?,hw]
  have hz:w.frozen? { block:=b,off:=0 }=false:=by simp[World.frozen?,hw]
  have hs:w.setCell { block:=b,off:=0 } (.bool false)=w.putObj b (.cells #[.bool false] 4 (0,0)):=by
    unfold World.setCell World.putObj;congr 1;apply Array.ext_getElem?;intro i;rw[Array.getElem?_modify,Array.getElem?_setIfInBounds];by_cases e:b=i
    · subst e
      have hlt:b<w.heap.size:=(Array.getElem?_eq_some_iff.1 hw).1;rw[ut rfl,ut rfl,ut hlt,hw];rfl
    rw[ur e,ur e]
  rw[hta];simp only[Result.andThen_ok];apply wpSIn_region;simp[wpOpsSIn,go_sem,hc,hz,hs,bodyPostS,results]
theorem zf1:Catches P 108 4 noV:=⟨fn_108,fine_idle,zt8⟩
theorem zbW (b:Bool):zog P 109 [.val zl b] (b=true) noV (.lit (.tuple #[])):=by
 refine zhW Tryz.func109 rfl rfl rfl (fun ext w hext=>?_);refine qaE ?_;refine qb3 ?_;refine zn (p:=¬b=true) rfl (by cases b<;>rfl) (fun ht3=>?_) (fun ht3=>?_)
 ·
  refine CR ?_;refine A0 (zvK rfl zu_187 su_187) ?_;refine A0 (g_mkif rfl rfl yo) ?_;refine aw_panic rfl rfl rfl ?_;exact zof (ht3)
 refine CS ?_;exact aw_fall (zwo rfl rfl rfl (ua ht3))
theorem zp4 (l:List (List UInt8)):zog P 167 [.val (bsl (bsl u8T)) l] (zdO l=true) noV (.fresh 5 u8T (zi8 l)):=by
 refine zhW Tryz.func167 rfl rfl rfl (fun ext w hext=>?_);refine ze (d:=0) rfl zm (fun hsl0=>?_);refine qcn ?_;refine qa7 ?_;refine zoa (binRows_ok l) rfl fn_219 yd znF rfl rfl rfl ?_;refine A0 yH ?_;refine qab ?_;refine A0 aO ?_;refine qcx ?_;refine zbb (zbW (zdO l)) rfl zdg rfl ybM (fun hm=>?_) (fun hm=>?_)
 ·
  exact zof (hm)
 refine A0 (oCl ((zbW (zdO l)).1 hm) rfl zdg ybM) ?_;refine CNQR ?_;refine A0 mO ?_;refine qbJ ?_;exact zq5 rfl rfl hm (zh rfl rfl (by unfold ztJ;rw[ut hm]))
theorem zjA (b:List UInt8) (hb:b.length≤1000000000):zog P 110 [.val (bsl u8T) b] ((zW b).2=true) noV (.fresh 22 (sl u8T) (zW b).1):=by
 refine zhW Tryz.func110 rfl rfl rfl (fun ext w hext=>?_);refine ze (d:=0) rfl zm (fun hsl0=>?_);refine qcn ?_;refine qa7 ?_;refine zoa (zur b hb) rfl fn_172 yd znF rfl rfl rfl ?_;refine A0 yH ?_;refine qab ?_;refine A0 aO ?_;refine qcx ?_;refine zbb (zbW (zW b).2) rfl zdg rfl ybM (fun hm=>?_) (fun hm=>?_)
 ·
  exact zof (hm)
 refine A0 (oCl ((zbW (zW b).2).1 hm) rfl zdg ybM) ?_;refine CNQR ?_;refine A0 mO ?_;refine qbJ ?_;exact zq5 rfl rfl hm (zh rfl rfl rfl)
theorem zjO (p:Proof):zog P 112 [.rptr paperT p] (ziO p=true) noV (.lit (.tuple #[])):=by
 refine zhW Tryz.func112 rfl rfl rfl (fun ext w hext=>?_);refine CQR ?_;refine A0 mR ?_;refine A0 (zdR rfl rfl) ?_;refine A0 (oFr zdz zfQ) ?_;refine A0 (oFr zcY zcB) ?_;refine A0 (zf rfl rfl ty_3) ?_;refine A0 zfb ?_;refine Sp (d:=9) (p:=1≤p.m) (fun g9=>?_) (fun g9=>?_)
 ·
  refine qa7 ?_;refine qdc ?_;refine A1 (oFr zcY zcB) ?_;refine A1 (zf rfl rfl ty_3) ?_;refine A1 zgV ?_;refine Sp (d:=16) (p:=p.m≤20) (fun g16=>?_) (fun g16=>?_)
  ·
   refine qaf ?_;refine qdc ?_;refine A1 (oFr zcI zcp) ?_;refine A1 (zf rfl rfl ty_3) ?_;refine A1 zfb ?_;refine Sp (d:=24) (p:=1≤p.k) (fun g24=>?_) (fun g24=>?_)
   ·
    refine qaf ?_;refine qdc ?_;refine A1 (oFr zcI zcp) ?_;refine A1 (zf rfl rfl ty_3) ?_;refine A1 zgV ?_;refine Sp (d:=32) (p:=p.k≤20) (fun g32=>?_) (fun g32=>?_)
    ·
     refine qaf ?_;refine qdc ?_;refine A1 (oFr zag zao) ?_;refine A1 (zf rfl rfl zci) ?_;refine A1 yaj ?_;refine A1 zgV ?_;refine A0 oK ?_;refine zbb (zbW (decide ((p.p.length:Int)≤100))) rfl zdg rfl yd (fun hm=>?_) (fun hm=>?_)
     ·
      exact zof (fun h=>hm (ui (by have:=(zbq h).1;omega)))
     refine A0 (oCl ((zbW (decide ((p.p.length:Int)≤100))).1 hm) rfl zdg yd) ?_;refine CNQR ?_;refine A0 mR ?_;refine A0 (zdR rfl rfl) ?_;refine A0 (oFr zdz zfQ) ?_;refine A0 (oFr zag zao) ?_;refine A0 (zf rfl rfl zci) ?_;refine A0 yaj ?_;refine qaH ?_;refine Lp (ι:=Nat) 0 (fun i=>((Fr.none.set 48 (.val (sl zba) p.p)).set 49 (.val i64T (p.p.length:Int))).set 50 (.val i64T (i:Int))) (fun i=>Hp.none) (fun i=>i≤p.p.length∧∀x∈p.p.take i,x.l.length≤32) (fun i=>p.p.length-i) (0) (⟨uf _,fun x hx=>by simp at hx⟩) ?_;intro i hinv;refine qar ?_;refine Cf (p:=i<p.p.length) (fun ht51=>?_) (fun ht51=>?_)
     ·
      have hlb:(p.p.length:Int)≤100:=of_decide_eq_true hm;obtain⟨x,hx⟩:∃x,p.p[i]?=some x:=⟨_,ub ht51⟩;refine CSQBQR ?_;refine A0 (zV (i:=i) rfl rfl rfl ya zdV yj) ?_;refine A0 (zf rfl rfl zeW) ?_;refine qaI ?_;refine CNR ?_;refine A0 (oFp zbz) ?_;refine A0 (oLb zbC zcc) ?_;refine qcf ?_;refine A0 zgV ?_;refine zbb (zbW (decide ((x.l.length:Int)≤32))) rfl zdg rfl yd (fun hm2=>?_) (fun hm2=>?_)
      ·
       exact zof (fun h=>hm2 (ui (by have:=(zbq h).2 x (ud hx);omega)))
      refine A0 (oCl ((zbW (decide ((x.l.length:Int)≤32))).1 hm2) rfl zdg yd) ?_;refine qbt ?_;exact Nx (i+1) (⟨by omega,fun y hy=>by rw[un,hx] at hy;rcases List.mem_append.1 hy with h|h;exact hinv.2 y h;simp at h;rw[h];have:=of_decide_eq_true hm2;omega⟩) ya
     refine CE ?_;exact aw_fall (zwo rfl rfl rfl (by unfold ziO;rw[uk,uj,List.all_eq_true];exact⟨⟨g9,g16,g24,g32,by have:=of_decide_eq_true hm;omega⟩,fun y hy=>ui (hinv.2 y (by rw[uc ya];exact hy))⟩))
    refine qaf ?_;refine qaa ?_;refine qaa ?_;refine A2 ?_;refine A0 oK ?_;refine zbb (zbW false) rfl zdg rfl yd (fun hm=>?_) (fun h=>absurd h yr);exact zof (fun h=>by have:=(zbq h).1;omega)
   refine qaf ?_;refine qaa ?_;refine qb1 ?_;refine qaa ?_;refine A2 ?_;refine A0 oK ?_;refine zbb (zbW false) rfl zdg rfl yd (fun hm=>?_) (fun h=>absurd h yr);exact zof (fun h=>by have:=(zbq h).1;omega)
  refine qaf ?_;refine qaa ?_;refine qb1 ?_;refine qb1 ?_;refine qaa ?_;refine A2 ?_;refine A0 oK ?_;refine zbb (zbW false) rfl zdg rfl yd (fun hm=>?_) (fun h=>absurd h yr);exact zof (fun h=>by have:=(zbq h).1;omega)
 refine qa7 ?_;refine qaa ?_;refine qb1 ?_;refine qb1 ?_;refine qb1 ?_;refine qaa ?_;refine A2 ?_;refine A0 oK ?_;refine zbb (zbW false) rfl zdg rfl yd (fun hm=>?_) (fun h=>absurd h yr);exact zof (fun h=>by have:=(zbq h).1;omega)
theorem hd_rel {U N:Nat→Prop} {w:World} {h:Head} {cs:List Value} (hr:zbU.rel U N w h cs):HW h:=by
  obtain⟨_,_,_,_,_,_,_,h1,_,_,_,h2,_,_,_,h3,_,_,_,h4,_,_,_,h5,_⟩:=hr;exact⟨h1.1,h2.1,h3.1,h4.1,h5.1⟩
theorem is_rel {U N:Nat→Prop} {w:World} {b:Bool} {l:List Ab.Id} {cs:List Value} (hr:(slT b idT).rel U N w l cs):∀y∈l,y.length=32:=fun x hx=>by
  obtain⟨ad,cap,_,_,_,h3⟩:=hr;obtain⟨_,ds,_,_,hr,_⟩:=h3 (List.ne_nil_of_mem hx);obtain⟨c,hc⟩:=zkG hr x hx;exact hc.1
theorem fact_pw {p:Proof} {ρ:Nat→Value} {B:Nat→Prop} {U N:Nat→Prop} {w:World} {v:Value} (h:(AV.val zP p).rel ρ B U N w v):PW p:=by
  obtain⟨cs,⟨c1,c2,_,_,c3,c4,_,_,a,cap,_,_,_,h3⟩,_⟩:=h;intro x hx;obtain⟨i,hi⟩:=List.getElem?_of_mem hx;obtain⟨ad,ds,_,_,hr,_⟩:=h3 (List.ne_nil_of_mem hx);obtain⟨d1,d2,_,hh,hl⟩:=hr.get hi;exact⟨hd_rel hh,is_rel hl⟩
theorem putL_is (p:Proof):putL p=zch (IntL.toI i64T p.m)::zch (IntL.toI i64T p.k)::zi8 (p.p.map zck):=rfl
theorem wok_of {p:Proof} (hs:ziO p=true) (h:∀x∈p.p,hOk x.h=true):wOk p=true:=by unfold wOk;rw[hs,Bool.true_and,List.all_eq_true];exact h
theorem sum_le {α:Type} (f:α→Nat) (c:Nat):∀l:List α,(∀x∈l,f x≤c)→(l.map f).sum≤l.length*c
  | [],_=>by simp
  | x::l,h=>by
    rw[List.map_cons,List.sum_cons,List.length_cons,Nat.add_mul,Nat.one_mul];have h1:=sum_le f c l (fun y hy=>h y (List.mem_cons_of_mem _ hy));have h2:=h x (List.mem_cons_self ..);omega
theorem put_bd {p:Proof} (hw:PW p) (h:wOk p=true):(putL p).length≤126903:=by
  obtain⟨h1,h2⟩:=zbq (zif h).1;rw[put_len hw h];have h3:=sum_le (fun x:Part=>181+34*x.l.length) 1269 p.p (fun x hx=>by have:=h2 x hx;omega);have h4:p.p.length*1269≤100*1269:=Nat.mul_le_mul_right _ h1.2.2.2.2;omega
theorem rows_bd {p:Proof} (hw:PW p) (h:wOk p=true):(zi8 (p.p.map zck)).length≤126901:=by
  have:=put_bd hw h
  rw[putL_is,List.length_cons,List.length_cons] at this;omega
def zja (p:Proof):List UInt8:=if wOk p=true then putL p else []
theorem zrZ (p:Proof) (hw:PW p):zog P 99 [.rptr paperT p] (wOk p=true) noV (.fresh 5 u8T (putL p)):=by
 refine zhW Tryz.func99 rfl rfl rfl (fun ext w hext=>?_);refine qcn ?_;refine A0 mR ?_;refine zbb (zjO p) rfl zvT rfl ⟨(zT rfl),trivial⟩ (fun hs=>?_) (fun hs=>?_)
 ·
  exact zof (fun h=>hs (zif h).1)
 refine A0 (oCl ((zjO p).1 hs) rfl zvT ⟨(zT rfl),trivial⟩) ?_;refine CNQR ?_;refine A0 aL ?_;refine CNQQR ?_;refine A0 mR ?_;refine A0 (zdR rfl rfl) ?_;refine A0 (oFr zdz zfQ) ?_;refine A0 (oFr zag zao) ?_;refine A0 (zf rfl rfl zci) ?_;refine A0 yaj ?_;refine qaH ?_;have hlb:=(zbq hs).1;refine zbk (T:=bsl u8T) (d:=3) 22 rfl ?_;refine Lp (ι:=Nat) 1 (fun i=>((((Fr.none.set 0 (.rptr paperT p)).set 3 (.own 0)).set 17 (.val (sl zba) p.p)).set 18 (.val i64T (p.p.length:Int))).set 19 (.val i64T (i:Int))) (fun i=>Hp.none.set 0 (.row 22 (bsl u8T) ((p.p.take i).map zck))) (fun i=>i≤p.p.length∧∀x∈p.p.take i,hOk x.h=true) (fun i=>p.p.length-i) (0) (⟨uf _,fun x hx=>by simp at hx⟩) ?_;intro i hinv;refine qar ?_;refine Cf (p:=i<p.p.length) (fun ht20=>?_) (fun ht20=>?_)
 ·
  obtain⟨x,hx⟩:∃x,p.p[i]?=some x:=⟨_,ub ht20⟩;refine CSQBQR ?_;refine A0 (zV (i:=i) rfl rfl rfl ya zdV yj) ?_;refine A0 (zf rfl rfl zeW) ?_;refine qaI ?_;refine CNQR ?_;refine A0 (oFp za7) ?_;refine A0 (oLb zaV zaX) ?_;refine A0 (oCl (zee (hput_ok x.h)) rfl fn_69 yd) ?_;refine qaN ?_;refine A0 aV ?_;refine qaL ?_;refine zbb (zbW (hOk x.h)) rfl zdg rfl yd (fun hm=>?_) (fun hm=>?_)
  ·
   exact zof (fun h=>hm ((zif h).2 x (ud hx)))
  refine A0 (oCl ((zbW (hOk x.h)).1 hm) rfl zdg yd) ?_;refine CNQR ?_;refine qa7 ?_;refine zk8 (S:=bsl u8T) (d:=31) rfl ?_;refine zb9 (T:=(bsl u8T)) (xs:=[_]) rfl rfl rfl rfl zdL zdj yE rfl rfl ?_;refine A0 aO ?_;refine CNQQR ?_;refine A0 (oFp zbz) ?_;refine A0 (oLb zbC zcc) ?_;refine qcf ?_;refine qaH ?_;have hxl:=(zbq hs).2 x (ud hx);refine Lp (ι:=Nat) 3 (fun j=>((((((((Fr.none.set 0 (.rptr paperT p)).set 3 (.own 0)).set 8 (.own 2)).set 17 (.val (sl zba) p.p)).set 18 (.val i64T (p.p.length:Int))).set 19 (.val i64T (i:Int))).set 34 (.val (sl idT) x.l)).set 35 (.val i64T (x.l.length:Int))).set 36 (.val i64T (j:Int))) (fun j=>(Hp.none.set 0 (.row 22 (bsl u8T) ((p.p.take i).map zck))).set 2 (.row 22 (bsl u8T) (zaT x.h::x.l.take j))) (fun j=>j≤x.l.length) (fun j=>x.l.length-j) (0) (uf _) ?_;intro j hj;refine qar ?_;refine Cf (p:=j<x.l.length) (fun ht37=>?_) (fun ht37=>?_)
  ·
   obtain⟨y,hy⟩:∃y,x.l[j]?=some y:=⟨_,ub ht37⟩;refine CSQBQR ?_;refine A0 (zV (i:=j) rfl rfl rfl ya zdD yj) ?_;refine A0 (zf rfl rfl z6) ?_;refine qaX ?_;refine qa5 ?_;refine CN ?_;refine zeR (d:=10) rfl rfl (Lens.self _) ?_;refine qcP ?_;refine A0 (zj5 rfl rfl ziK rfl rfl) ?_;refine A0 (zL (T:=(bsl u8T)) (xs:=[_]) rfl zdL zdj yE rfl rfl) ?_;refine zC rfl rfl rfl rfl rfl rfl rfl zdj (by simp[um];omega) ?_;refine A0 aO ?_;refine qbt ?_;refine zaz 4 2 5 rfl rfl rfl rfl rfl rfl ?_;refine zj (n:=2) (y:=zaT x.h::x.l.take (j+1)) rfl (by rw[un,hy];rfl) ?_;exact Nx (j+1) ya ya
  refine CE ?_;have hr1:=row_ok (hw x (ud hx)).1 hm (hw x (ud hx)).2 ((zbq hs).2 x (ud hx));refine zj (n:=2) (y:=zaT x.h::x.l) rfl yT ?_;refine qcP ?_;refine A0 mO ?_;refine A0 (oCl (zB ((zp4 (zaT x.h::x.l)).1 hr1)) rfl fn_167 ⟨(zM rfl rfl),trivial⟩) ?_;refine zk8 (S:=bsl u8T) (d:=47) rfl ?_;refine A0 (zL (T:=(bsl u8T)) (xs:=[_]) rfl zdL zdj yE rfl rfl) ?_;refine zC rfl rfl rfl rfl rfl rfl rfl zdj (by simp[um];omega) ?_;refine A0 aO ?_;refine qbt ?_;refine zaz 3 0 4 rfl rfl rfl rfl rfl rfl ?_;refine zj (n:=0) (y:=(p.p.take (i+1)).map zck) rfl (by rw[un,hx,List.map_append];rfl) ?_;exact Nx (i+1) (⟨by omega,fun y hy=>by rw[un,hx] at hy;rcases List.mem_append.1 hy with h|h;exact hinv.2 y h;simp at h;rw[h];exact hm⟩) ya
 refine CE ?_;refine CQ ?_;have hwk:=wok_of hs (fun y hy=>hinv.2 y (by rw[uc ya];exact hy));have hbd:=rows_bd hw hwk;refine zj (n:=0) (y:=p.p.map zck) rfl yT ?_;refine zA [some 1,some 1,some 1,some 1,some 1,some 1,some 1,some 1,some 1,some 1,some 1,some 1,none,some 2,some 2,none,some 1] mixed yc ?_;refine X0 mR ?_;refine X0 (zdR rfl rfl) ?_;refine X0 (oFr zdz zfQ) ?_;refine X0 (oFr zcY zcB) ?_;refine X0 (zf rfl rfl ty_3) ?_;refine X0 (zny rfl (ui_5) (us_3) rfl) ?_;refine X0 mR ?_;refine X0 (zdR rfl rfl) ?_;refine X0 (oFr zdz zfQ) ?_;refine X0 (oFr zcI zcp) ?_;refine X0 (zf rfl rfl ty_3) ?_;refine X0 (zny rfl (ui_5) (us_3) rfl) ?_;refine XK.e (fun fr' hfr kk H=>by exact zb9 (T:=u8T) (xs:=[_,_]) rfl rfl rfl rfl zcG zcT ⟨rfl,((hfr 56 yc).trans rfl),rfl,((hfr 62 yc).trans rfl),trivial⟩ rfl rfl (zt H)) ?_;refine XK.g2 (g_mo (.inl rfl) rfl) (g_mo (.inl rfl) rfl) rfl rfl rfl ?_;refine XK.g2 (zd1 (zB ((zp4 (p.p.map zck)).1 (zqf hw hwk))) rfl fn_167 ⟨(zM rfl rfl),trivial⟩ rfl) (zd1 (zB ((zp4 (p.p.map zck)).1 (zqf hw hwk))) rfl fn_167 ⟨(zM rfl rfl),trivial⟩ rfl) rfl rfl rfl ?_;refine XK.e (fun fr' hfr kk H=>by exact zC rfl rfl rfl rfl ((hfr 63 yc).trans rfl) rfl ((hfr 65 yc).trans rfl) zcT (by simp[um];omega) (zt H)) ?_;refine X0 aO ?_;refine XK.nil' ?_;exact zq5 rfl rfl hwk (zh rfl rfl rfl)
theorem pput_ok (p:Proof):Tells P 43 [.val zP p] (.tup2 (.val (sl u8T) (zja p)) (.val zl (wOk p))):=by
 refine zd Tryz.func43 rfl rfl rfl (fun ext w hext=>?_);refine ze (d:=0) rfl fact_pw (fun hw=>?_);refine qah ?_;refine A0 aL ?_;refine qaj ?_;refine qaU ?_;refine A0 (zy rfl ze_110 bd_110 (.cons zdz zfQ zaD rfl .nil) rfl) ?_;refine xb ?_;refine ziD zp_108 rfl rfl rfl rfl rfl rfl ?_;refine zap rfl rfl rfl rfl rfl rfl rfl rfl rfl rfl zle ?_;refine CNQR ?_;refine zq ze_22 rfl rfl rfl rfl ?_;refine CNQR ?_;refine A0 (zj6 (caps:=[_,_]) rfl rfl) ?_;refine zR rfl rfl rfl rfl Tryz.func49 fn_49 rfl rfl (fun ia2 iok2=>?_);refine CQR ?_;refine zq ze_4 rfl rfl rfl rfl ?_;refine CNQR ?_;refine xd ?_;refine zwk rfl rfl rfl rfl rfl rfl rfl (fun bD=>?_);refine CNQR ?_;refine A0 mC ?_;refine zdT rfl rfl rfl rfl rfl Tryz.func98 fn_98 rfl rfl yab (fun ia3 iok3=>?_);refine CR ?_;refine A0 yaK ?_;refine zbb (zrZ p hw) rfl fn_99 rfl ybO (fun hm=>?_) (fun hm=>?_)
 ·
  refine ap_inl ?_;refine ap_fine (n:=4) zf1 rfl rfl rfl ty_4 ?_;refine qaj ?_;refine xl ?_;refine qa7 ?_;refine qck ?_;exact zac rfl rfl (za rfl (by unfold zja;rw[ur hm])) (za rfl (Bool.eq_false_iff.2 hm).symm)
 refine A0 (oCl (zB ((zrZ p hw).1 hm)) rfl fn_99 ybO) ?_;refine zg rfl rfl rfl rfl rfl (Lens.self _) zcx rfl ?_;refine CN ?_;refine zia rfl ?_;refine CNQR ?_;refine zpI rfl rfl rfl rfl rfl ty_4 rfl ?_;refine CN ?_;refine zpK zf1 rfl rfl rfl ty_4 ?_;refine qaj ?_;refine xl ?_;refine qa7 ?_;refine qck ?_;exact zac rfl rfl (za rfl (by unfold zja;rw[ut hm])) (za rfl hm.symm)
end Go.Proofs.YtikaeepohlkjdaaGreat
