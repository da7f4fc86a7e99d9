/- slices.SortFunc off the library's shelf, as a contract of this layer. No program in sight. -/
import Derived.Test.YtmfgemnmelbflaaParts
import Derived.Shelf.SlSortCmp.NoneTotal
namespace Go.Ab
set_option linter.unusedVariables false
set_option linter.unusedSimpArgs false
open Go.RowKit

theorem grow_of_below {w w' : World} (h : Below w.heap.size w w') : ∃ q os, w' = Sort.grow (w.drewN q) os := by
  refine ⟨w'.drawn - w.drawn, w'.heap.extract w.heap.size w'.heap.size, ?_⟩
  have hh : w'.heap = w.heap ++ w'.heap.extract w.heap.size w'.heap.size := by
    apply Array.ext_getElem?
    intro i
    rw [Array.getElem?_append]
    by_cases c : i < w.heap.size
    · rw [if_pos c]; exact h.block i c
    · rw [if_neg c, Array.getElem?_extract]
      by_cases d : i < w'.heap.size
      · rw [if_pos (by omega)]; congr 1; omega
      · rw [if_neg (by omega), Array.getElem?_eq_none (by omega)]
  have h1 := h.os
  have h2 := h.tape
  have h3 := h.output
  have h4 := h.drawn
  cases w; cases w'
  simp only [Sort.grow, World.drewN] at *
  subst h1; subst h2; subst h3
  congr 1
  omega

section
variable {α : Type} {T : GoT α} {enc : α → List Value} {ok : α → Prop}
def Flat1 (T : GoT α) (enc : α → List Value) (ok : α → Prop) : Prop := ∀ U N w x cs, T.rel U N w x cs ↔ cs = enc x ∧ ok x

theorem flat_all (hF : Flat1 T enc ok) {U N : Nat → Prop} {w : World} : ∀ {l : List α} {cs : List Value}, relAll T U N w l cs ↔ cs = (l.map enc).flatten ∧ ∀ x ∈ l, ok x
  | [], cs => by simp [relAll]
  | x :: l, cs => by
    constructor
    · rintro ⟨c1, c2, rfl, h1, h2⟩
      obtain ⟨rfl, hx⟩ := (hF _ _ _ _ _).1 h1
      obtain ⟨rfl, hl⟩ := (flat_all hF).1 h2
      refine ⟨by simp, fun y hy => ?_⟩
      rcases List.mem_cons.1 hy with e | hy
      · rw [e]; exact hx
      · exact hl y hy
    · rintro ⟨rfl, hl⟩
      exact ⟨enc x, (l.map enc).flatten, by simp, (hF _ _ _ _ _).2 ⟨rfl, hl x (by simp)⟩, (flat_all hF).2 ⟨rfl, fun y hy => hl y (by simp [hy])⟩⟩

theorem flatten_get {β : Type} {f : β → List Value} {k : Nat} (h0 : 0 < k) (hk : ∀ x, (f x).length = k) : ∀ (l : List β) (t : Nat), (l.map f).flatten[t]? = (l[t / k]?).bind fun x => (f x)[t % k]?
  | [], t => by simp
  | x :: l, t => by
    rw [List.map_cons, List.flatten_cons]
    by_cases c : t < k
    · rw [List.getElem?_append_left (by rw [hk]; exact c), Nat.div_eq_of_lt c, Nat.mod_eq_of_lt c]; rfl
    · rw [List.getElem?_append_right (by rw [hk]; omega), hk, flatten_get h0 hk l (t - k)]
      have e1 : t / k = (t - k) / k + 1 := by
        rw [Nat.div_eq_sub_div h0 (by omega)]
      have e2 : t % k = (t - k) % k := by rw [Nat.mod_eq_sub_mod (by omega)]
      rw [e1, e2]; rfl
theorem flatK_list {β : Type} [Inhabited β] {f : β → List Value} {k : Nat} (h0 : 0 < k) (hk : ∀ x, (f x).length = k) (d : Array β) : (Sort.flatK f k d).toList = (d.toList.map f).flatten := by
  apply List.ext_getElem?
  intro t
  rw [flatten_get h0 hk]
  by_cases c : t < d.size * k
  · have hd : t / k < d.size := (Nat.div_lt_iff_lt_mul h0).2 c
    have h1 := Sort.get_flatK f k d t c
    have hs : t < (Sort.flatK f k d).size := by rw [Sort.size_flatK]; exact c
    rw [getElem!_pos (Sort.flatK f k d) t hs, getElem!_pos d (t / k) hd] at h1
    have hm : t % k < (f d[t / k]).length := by rw [hk]; exact Nat.mod_lt _ h0
    rw [getElem!_pos (f d[t / k]) (t % k) hm] at h1
    rw [List.getElem?_eq_getElem (by simpa using hs), List.getElem?_eq_getElem (by simpa using hd)]
    simp only [Option.bind_some, Array.getElem_toList]
    rw [List.getElem?_eq_getElem hm, h1]
  · have hd : ¬ t / k < d.size := fun h => c ((Nat.div_lt_iff_lt_mul h0).1 h)
    rw [List.getElem?_eq_none (by simp; omega), List.getElem?_eq_none (by simp; omega)]; rfl

/-- What a row holds behind the sort. -/
theorem sorted_block {β : Type} [Inhabited β] {f : β → List Value} {k : Nat} (h0 : 0 < k) (hk : ∀ x, (f x).length = k) {w : World} {g n : Nat} {d : Array β} {os : Array Obj} {cur : Array Value} {e : TypeId} (hg : w.heap[g]? = some (.cells cur e (0, 0))) (hs : d.size * k ≤ cur.size) :
    (Proofs.sortWorldK f k w g 0 n d os).heap[g]? = some (.cells ((d.toList.map f).flatten ++ cur.toList.drop (d.size * k)).toArray e (0, 0)) ∧
    BelowX (fun b => b = g) w (Proofs.sortWorldK f k w g 0 n d os) := by
  have hlt := (Array.getElem?_eq_some_iff.1 hg).1
  have hsz : (Sort.ahead w n).heap.size = w.heap.size := rfl
  have hheap : (Proofs.sortWorldK f k w g 0 n d os).heap = w.heap.modify g (Sort.onCells (Sort.putCells id 0 (Sort.flatK f k d))) ++ os := rfl
  refine ⟨?_, rfl, rfl, rfl, ?_, fun b hb hne => ?_, Nat.le_add_right _ _⟩
  · rw [hheap, Array.getElem?_append_left (by simpa using hlt), Array.getElem?_modify, if_pos rfl, hg]
    simp only [Option.map_some, Sort.onCells]
    congr 2
    apply Array.ext'
    rw [List.toList_toArray]
    apply List.ext_getElem?
    intro t
    have hfl := flatK_list h0 hk d
    rw [← hfl]
    have hF : (Sort.flatK f k d).size = d.size * k := Sort.size_flatK _ _ _
    unfold Sort.putCells
    rw [Array.getElem?_toList, Array.getElem?_mapIdx]
    by_cases c : t < d.size * k
    · rw [List.getElem?_append_left (by simpa using c), Array.getElem?_eq_getElem (by omega)]
      have hs2 : t < (Sort.flatK f k d).size := by omega
      simp only [Option.map_some]
      rw [if_pos ⟨Nat.zero_le _, by omega⟩, Array.getElem?_toList, Array.getElem?_eq_getElem hs2, Nat.sub_zero, getElem!_pos (Sort.flatK f k d) t hs2]; rfl
    · rw [List.getElem?_append_right (by simp; omega)]
      simp only [Array.length_toList, hF, List.getElem?_drop]
      rw [show d.size * k + (t - d.size * k) = t by omega, Array.getElem?_toList]
      cases hc : cur[t]? with
      | none => rfl
      | some v => simp only [Option.map_some]; rw [if_neg (by omega)]
  · rw [hheap]; simp
  · rw [hheap, Array.getElem?_append_left (by simpa using hb), Array.getElem?_modify, if_neg (fun h => hne h.symm)]

open Go.Shelf in
/-- slices.SortFunc at a type whose cells go by the datum alone. -/
theorem sort_tells {P : Program} {ρ : Ren} (L : Proofs.SlLaysF0.n6 P ρ) (hF : Flat1 T enc ok) (hlen : ∀ x, ok x → (enc x).length = T.size) (hone : ∀ x, ok x → ∀ v ∈ enc x, v.oneCell' = true) (hag : T.agg = true) {x0 : α} (hx0 : ok x0)
    (ht : tyB P (ρ.t 24) T.size true = true) {cf : α → α → Int} (hirr : ∀ x, ok x → ¬ cf x x < 0) (htr : ∀ x y z, ok x → ok y → ok z → cf x y < 0 → cf y z < 0 → cf x z < 0) (hntr : ∀ x y z, ok x → ok y → ok z → ¬ cf x y < 0 → ¬ cf y z < 0 → ¬ cf x z < 0)
    {g : FuncId} (hg : fnB P g = true) (hcmp : ∀ x y, Tells P g [.val T x, .val T y] (.val i64T (cf x y))) {e : TypeId} {l r : List α} (hn : l.length < 1000000000)
    (hsort : ∀ r', r'.Perm l → r'.Pairwise (fun a b => ¬ cf b a < 0) → r' = r) : TellsM P (ρ.f 6) (.row e T l) [.own 0, .clo g []] (.lit (.tuple #[])) (.row e T r) := by
  intro ext p w vs hext hgr hrow hargs
  obtain ⟨hl2, hargs⟩ := hargs.spec
  match vs, hl2 with
  | [v0, v1], _ =>
  have hv0 : v0 = p := hargs 0 _ _ rfl rfl
  have hv1 : v1 = .func (.func g) #[] #[] := hargs 1 _ _ rfl rfl
  subst hv0; subst hv1
  obtain ⟨xs, hown, hall⟩ := hrow
  obtain ⟨hxs, hok⟩ := (flat_all hF).1 hall
  rcases hown.2 with ⟨hp, hl0⟩ | ⟨gb, cap, cur, hp, _, hheap, hncap, hcap, hcs, htk⟩
  · -- no element
    obtain rfl : l = [] := List.length_eq_zero_iff.1 hl0
    have hr : r = [] := (hsort [] (List.Perm.refl _) List.Pairwise.nil).symm
    subst hr
    subst hp
    have := Proofs.AnyF.slices_SortFunc_none L none 0 (.func (.func g) #[] #[]) w
    refine this.mono ?_
    rintro _ w' ⟨rfl, rfl⟩
    exact ⟨BelowX.refl _ _, ⟨[], ⟨by simp, .inl ⟨rfl, rfl⟩⟩, rfl⟩, rfl⟩
  · subst hp
    let S := { x : α // ok x }
    letI : Inhabited S := ⟨⟨x0, hx0⟩⟩
    let encS : S → List Value := fun s => enc s.1
    have hkS : ∀ s : S, (encS s).length = T.size := fun s => hlen s.1 s.2
    obtain ⟨lS, hlS⟩ : ∃ lS : List S, lS.map (·.1) = l := ⟨l.attachWith ok hok, List.attachWith_map_subtype_val hok⟩
    have hsz : lS.length = l.length := by rw [← hlS]; simp
    have hmapS : ∀ q : List S, q.map encS = (q.map (·.1)).map enc := fun q => by rw [List.map_map]; rfl
    have hlt := (Array.getElem?_eq_some_iff.1 hheap).1
    have hcsz : lS.length * T.size ≤ cur.size := by rw [hcs, hsz]; exact Nat.mul_le_mul_right _ hncap
    have hH : Sort.HoldsK encS T.size w gb 0 lS.toArray := fun j hj => by
      rw [Sort.size_flatK] at hj
      have hj : j < lS.length * T.size := by simpa using hj
      have hfl := flatK_list T.pos hkS lS.toArray
      rw [List.toList_toArray, hmapS, hlS, ← hxs, ← htk] at hfl
      have hs2 : j < (Sort.flatK encS T.size lS.toArray).size := by rw [Sort.size_flatK]; simpa using hj
      refine ⟨?_, ?_⟩
      · rw [Nat.zero_add, cell_of_row w gb j cur e (0, 0) hheap, getElem!_pos (Sort.flatK encS T.size lS.toArray) j hs2]
        have h1 : (Sort.flatK encS T.size lS.toArray).toList[j]? = (cur.toList.take (l.length * T.size))[j]? := by rw [hfl]
        rw [List.getElem?_take, if_pos (by rw [← hsz]; exact hj), Array.getElem?_toList, Array.getElem?_toList, Array.getElem?_eq_getElem hs2] at h1
        rw [← h1]; rfl
      · unfold World.frozen?
        simp [hheap]
    have hC : Proofs.CmpLays P g #[] encS T.size (fun x y => cf x.1 y.1) gb 0 lS.toArray.size w := fun m os dk hdk x y => by
      generalize hW : Proofs.sortWorldK encS T.size w gb 0 m dk os = W
      have hx : T.val (fun _ => False) noN W x.1 (.agg (encS x).toArray) := ⟨encS x, (hF _ _ _ _ _).2 ⟨rfl, x.2⟩, .inl ⟨hag, rfl⟩⟩
      have hy : T.val (fun _ => False) noN W y.1 (.agg (encS y).toArray) := ⟨encS y, (hF _ _ _ _ _).2 ⟨rfl, y.2⟩, .inl ⟨hag, rfl⟩⟩
      have := hcmp x.1 y.1 (fun _ => False) W [.agg (encS x).toArray, .agg (encS y).toArray] (fun b hb => hb.elim) ⟨hx, hy, trivial⟩
      have e0 : #[Value.agg (encS x).toArray, Value.agg (encS y).toArray] ++ #[] = [Value.agg (encS x).toArray, Value.agg (encS y).toArray].toArray := by simp
      rw [e0]
      refine this.mono fun en w' he => ?_
      cases en with
      | returned v =>
        obtain ⟨hb, hv⟩ := he
        obtain ⟨q, os', hw'⟩ := grow_of_below hb
        exact ⟨by rw [(val_int.1 hv).1], q, os', hw'⟩
      | panicked c => exact he.elim
      | outgrown => exact he.elim
    have hO : Sort.SWO (Proofs.ltOf fun x y : S => cf x.1 y.1) := by
      refine ⟨fun x => ?_, fun x y z h1 h2 => ?_, fun x y z h1 h2 => ?_⟩
      · exact decide_eq_false (hirr x.1 x.2)
      · exact decide_eq_true (htr x.1 y.1 z.1 x.2 y.2 z.2 (of_decide_eq_true h1) (of_decide_eq_true h2))
      · exact decide_eq_false (hntr x.1 y.1 z.1 x.2 y.2 z.2 (of_decide_eq_false h1) (of_decide_eq_false h2))
    obtain ⟨fn, h1, h2, h3⟩ := fnB_spec hg
    have eg : ∀ args w, (callFunc g args).run P w = .ok (.enter g args) w := fun args w => by
      have hne : fn.name ≠ "runtime.NumGoroutine" := by simpa using h3
      have hbn : fn.body ≠ none := by intro e; rw [e] at h2; cases h2
      simp [callFunc, h1, hne, hbn, Sem.run_bind]
    have key := Proofs.AnyQ.slices_SortFunc L T.size (fun w => (tyB_spec ht w).2.1) (fun w => (tyB_spec ht w).2.2) encS hkS (fun s => hone s.1 s.2) (fun x y => cf x.1 y.1) hO g #[] gb 0 cap lS.toArray w eg hC hH hlt (by simp; omega)
    rw [show lS.toArray.size = l.length by simpa using hsz] at key
    refine Calls.mono key ?_
    rintro _ w' ⟨rfl, d', n, os, hperm, hsorted, rfl⟩
    have hdsz : d'.size = l.length := by rw [hperm.1]; simpa using hsz
    have hp2 : d'.toList.Perm lS := by
      have := hperm.2.2
      have e1 : d'.extract 0 l.length = d' := by rw [← hdsz]; exact Array.extract_size
      have e2 : lS.toArray.extract 0 l.length = lS.toArray := by rw [← hsz]; simp
      rw [e1, e2] at this
      simpa using this
    have hr : d'.toList.map (·.1) = r := by
      refine hsort _ ?_ ?_
      · rw [← hlS]; exact hp2.map _
      · rw [List.pairwise_map]
        rw [List.pairwise_iff_getElem]
        intro i j hi hj hij
        have hi' : i < d'.size := by simpa using hi
        have hj' : j < d'.size := by simpa using hj
        have := hsorted i j (Nat.zero_le _) hij (by omega)
        rw [getElem!_pos d' i hi', getElem!_pos d' j hj'] at this
        have := of_decide_eq_false this
        simpa using this
    obtain ⟨hb1, hb2⟩ := sorted_block (n := n) (os := os) T.pos hkS hheap (d := d') (by rw [hdsz, ← hsz]; exact hcsz)
    have hgN : gN (.slice (some ⟨gb, 0, none⟩) l.length cap) = fun b => b = gb := by
      funext b; unfold gN blkOf; exact propext ⟨fun h => (Option.some.inj h).symm, fun h => by rw [h]⟩
    have hrl : r.length = l.length := by rw [← hr]; simpa using hdsz
    have hflat : (d'.toList.map encS).flatten = (r.map enc).flatten := by rw [hmapS, hr]
    have hfl2 : ((r.map enc).flatten).length = l.length * T.size := by
      have := Sort.size_flatK encS T.size d'
      rw [← hflat, ← flatK_list T.pos hkS d']; rw [Array.length_toList, this, hdsz]
    have hokr : ∀ x ∈ r, ok x := fun x hx => by
      rw [← hr] at hx
      obtain ⟨s, _, rfl⟩ := List.mem_map.1 hx
      exact s.2
    refine ⟨by rw [hgN]; exact hb2, ⟨(r.map enc).flatten, ⟨by rw [hfl2, hrl], .inr ⟨gb, cap, _, by rw [hrl], Nat.zero_le _, hb1, by rw [hrl]; exact hncap, hcap, ?_, ?_⟩⟩, (flat_all hF).2 ⟨rfl, hokr⟩⟩, rfl⟩
    · rw [hflat]; simp only [List.size_toArray, List.length_append, List.length_drop, hfl2, Array.length_toList, hdsz, hcs]
      have := Nat.mul_le_mul_right T.size hncap
      omega
    · rw [hflat, List.toList_toArray, hrl, ← hfl2, List.take_left' rfl]
end
end Go.Ab
