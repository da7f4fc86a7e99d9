/- What coins are worth, told as a sum; where a coin is. -/
import Derived.Test.YtmfgemnmelbflaaApply
set_option maxRecDepth 20000
namespace Go.Proofs.Ytmfgemnmelbflaa
set_option linter.unusedVariables false
set_option linter.unusedSimpArgs false
open Go.Ab Go.RowKit

theorem idx_none {α : Type} {p : α → Bool} : ∀ {l : List α}, idx p l < 0 → ∀ x ∈ l, p x = false
  | [], _, x, hx => by cases hx
  | y :: l, h, x, hx => by
    unfold idx at h
    cases hy : p y with
    | true => rw [hy] at h; simp at h
    | false =>
      rw [hy] at h
      rcases List.mem_cons.1 hx with e | hx
      · rw [e]; exact hy
      · refine idx_none (l := l) ?_ x hx
        have := idx_ge p l
        simp at h
        split at h <;> omega
theorem idx_some {α : Type} {p : α → Bool} : ∀ {l : List α}, 0 ≤ idx p l → ∃ x, l[(idx p l).toNat]? = some x ∧ p x = true ∧ ∀ (j : Nat) y, l[j]? = some y → p y = true → idx p l ≤ j
  | [], h => by simp [idx] at h
  | y :: l, h => by
    cases hy : p y with
    | true =>
      have e : idx p (y :: l) = 0 := by unfold idx; rw [hy]; simp
      rw [e]
      exact ⟨y, rfl, hy, fun j z _ _ => by omega⟩
    | false =>
      by_cases h0 : 0 ≤ idx p l
      · have e : idx p (y :: l) = idx p l + 1 := by
          conv => lhs; unfold idx
          rw [hy]; simp; omega
        obtain ⟨x, h1, h2, h3⟩ := idx_some h0
        refine ⟨x, ?_, h2, fun j z hj hz => ?_⟩
        · rw [e, show (idx p l + 1).toNat = (idx p l).toNat + 1 by omega]; exact h1
        · cases j with
          | zero => simp at hj; subst hj; rw [hy] at hz; cases hz
          | succ j => have := h3 j z (by simpa using hj) hz; rw [e]; omega
      · exfalso
        have := idx_ge p l
        have e : idx p (y :: l) = -1 := by
          conv => lhs; unfold idx
          rw [hy]; simp; omega
        omega
theorem idx_lt {α : Type} {p : α → Bool} {l : List α} : idx p l < l.length ∨ l = [] := by
  by_cases h : 0 ≤ idx p l
  · obtain ⟨x, hx, _⟩ := idx_some h
    have := (List.getElem?_eq_some_iff.1 hx).1
    left; omega
  · cases l with
    | nil => right; rfl
    | cons a l => left; simp; omega
theorem find_sorted {p : List Coin} {k : Nat} {c : Coin} (h : mayCoins p = true) (hc : p[k]? = some c) : idx (fun x => decide (x.inn = c.inn)) p = k := by
  have hs := (mayCoins_iff.1 h).2.1
  by_cases h0 : 0 ≤ idx (fun x => decide (x.inn = c.inn)) p
  · obtain ⟨x, h1, h2, h3⟩ := idx_some h0
    have h4 := h3 k c hc (by simp)
    have h2 := of_decide_eq_true h2
    by_cases e : idx (fun x => decide (x.inn = c.inn)) p = k
    · exact e
    · obtain ⟨hk, hk2⟩ := List.getElem?_eq_some_iff.1 hc
      obtain ⟨hi, hi2⟩ := List.getElem?_eq_some_iff.1 h1
      have := List.pairwise_iff_getElem.1 hs _ k hi hk (by omega)
      rw [hi2, hk2, h2] at this
      have := ordIn_zero.2 (rfl : c.inn = c.inn)
      omega
  · have := idx_none (Int.not_le.1 h0) c (List.mem_of_getElem? hc)
    simp at this

/-- Where a coin is. -/
def findC (p : List Coin) (x : In) : Int := idx (fun c => decide (c.inn = x)) p
theorem findC_ge (p : List Coin) (x : In) : -1 ≤ findC p x := idx_ge _ _
theorem findC_lt (p : List Coin) (x : In) : findC p x < p.length := by
  rcases idx_lt (p := fun c : Coin => decide (c.inn = x)) (l := p) with h | h
  · exact h
  · subst h; exact Int.negSucc_lt_zero 0
theorem findC_some {p : List Coin} {x : In} (h : 0 ≤ findC p x) : ∃ c, p[(findC p x).toNat]? = some c ∧ c.inn = x ∧ ∀ (j : Nat) y, p[j]? = some y → y.inn = x → findC p x ≤ j := by
  obtain ⟨c, h1, h2, h3⟩ := idx_some h
  exact ⟨c, h1, of_decide_eq_true h2, fun j y hj hy => h3 j y hj (decide_eq_true hy)⟩
theorem finds_first {p : List Coin} {x : In} {k : Nat} {c : Coin} (hc : p[k]? = some c) (hx : c.inn = x) : ¬ (k : Int) < findC p x := by
  intro h
  obtain ⟨_, _, _, h3⟩ := findC_some (p := p) (x := x) (by omega)
  have := h3 k c hc hx
  omega
theorem findC_none {p : List Coin} {x : In} (h : findC p x < 0) : ∀ c ∈ p, c.inn ≠ x := fun c hc e => by
  have := idx_none h c hc
  simp [e] at this

def tot {α : Type} (f : α → Int) : List α → Int
  | [] => 0
  | x :: l => f x + tot f l
theorem tot_append {α : Type} {f : α → Int} : ∀ {l m : List α}, tot f (l ++ m) = tot f l + tot f m
  | [], m => by simp [tot]
  | x :: l, m => by rw [List.cons_append, tot, tot, tot_append]; omega
theorem tot_perm {α : Type} {f : α → Int} {l m : List α} (h : l.Perm m) : tot f l = tot f m := by
  induction h with
  | nil => rfl
  | cons x _ ih => rw [tot, tot, ih]
  | swap x y l => simp only [tot]; omega
  | trans _ _ h1 h2 => exact h1.trans h2
theorem tot_del {α : Type} {f : α → Int} {x : α} : ∀ {l : List α} {i : Nat}, l[i]? = some x → tot f (l.take i ++ l.drop (i + 1)) + f x = tot f l
  | [], i, h => by simp at h
  | y :: l, 0, h => by simp at h; subst h; simp [tot]; omega
  | y :: l, i + 1, h => by
    have := tot_del (f := f) (l := l) (i := i) (by simpa using h)
    simp only [List.take_succ_cons, List.drop_succ_cons, List.cons_append, tot]
    omega
theorem tot_pos {α : Type} {f : α → Int} : ∀ {l : List α}, (∀ x ∈ l, 0 ≤ f x) → 0 ≤ tot f l
  | [], _ => Int.le_refl _
  | x :: l, h => by
    have := tot_pos (f := f) (l := l) fun y hy => h y (List.mem_cons_of_mem _ hy)
    have := h x List.mem_cons_self
    rw [tot]; omega
theorem tot_le {α : Type} {f : α → Int} {M : Int} : ∀ {l : List α}, (∀ x ∈ l, f x ≤ M) → tot f l ≤ M * l.length
  | [], _ => by simp [tot]
  | x :: l, h => by
    have := tot_le (f := f) (M := M) (l := l) fun y hy => h y (List.mem_cons_of_mem _ hy)
    have := h x List.mem_cons_self
    rw [tot, List.length_cons, Int.natCast_add, Int.mul_add]; omega
theorem fold_tot {α : Type} {f : α → Int} {M : Int} (hM : 0 ≤ M) : ∀ {l : List α} {n : Int}, (∀ x ∈ l, 0 ≤ f x ∧ f x ≤ M) → 0 ≤ n → n + M * l.length ≤ 9223372036854775807 → l.foldl (fun n x => IntKind.i64.wrap (n + f x)) n = n + tot f l
  | [], n, _, _, _ => by simp [tot]
  | x :: l, n, h, h0, h1 => by
    have hx := h x List.mem_cons_self
    rw [List.length_cons, Int.natCast_add, Int.mul_add] at h1
    have h2 : 0 ≤ M * l.length := Int.mul_nonneg hM (Int.natCast_nonneg _)
    have e : IntKind.i64.wrap (n + f x) = n + f x := wrap_eq (by omega)
    rw [List.foldl_cons, e, fold_tot hM (fun y hy => h y (List.mem_cons_of_mem _ hy)) (by omega) (by omega), tot]
    omega
theorem worth_tot {α : Type} {f : α → Int} {l : List α} (h : ∀ x ∈ l, 0 ≤ f x ∧ f x ≤ 2199023255552) (hl : l.length ≤ 60) : worthF f l = tot f l := by
  have := fold_tot (f := f) (M := 2199023255552) (by decide) (n := 0) h (Int.le_refl _) (by omega)
  unfold worthF
  rw [this]; omega
theorem coins_pos {p : List Coin} (h : ∀ c ∈ p, coinOk c = true) : ∀ c ∈ p, 0 ≤ c.out.v ∧ c.out.v ≤ 1099511627776 := fun c hc => by
  have := of_decide_eq_true (h c hc)
  omega
theorem coins_tot {p : List Coin} (h : ∀ c ∈ p, coinOk c = true) (hl : p.length ≤ 48) : 0 ≤ tot (·.out.v) p ∧ tot (·.out.v) p ≤ 52776558133248 := by
  have h := coins_pos h
  refine ⟨tot_pos fun x hx => (h x hx).1, ?_⟩
  have := tot_le (f := fun c : Coin => c.out.v) (M := 1099511627776) (l := p) fun x hx => (h x hx).2
  omega
theorem outs_pos {t : Tx} (h : mayTx t = true) : ∀ o ∈ t.outs, 0 ≤ o.v ∧ o.v ≤ 1099511627776 := fun o ho => by
  have h1 := txOuts_ok h o ho
  unfold outOdd at h1
  have := of_decide_eq_false h1
  omega
theorem outs_tot {t : Tx} (h : mayTx t = true) : worthF (·.v) t.outs = tot (·.v) t.outs ∧ 0 ≤ tot (·.v) t.outs ∧ tot (·.v) t.outs ≤ 3298534883328 := by
  have h1 := outs_pos h
  have h3 := (mayTx_lens h).2.2
  refine ⟨worth_tot (fun x hx => by have := h1 x hx; omega) (by omega), tot_pos fun x hx => (h1 x hx).1, ?_⟩
  have := tot_le (f := fun o : Out => o.v) (M := 1099511627776) (l := t.outs) fun x hx => (h1 x hx).2
  omega
theorem zip_tot {id : Ab.Id} : ∀ {outs : List Out} {k : Nat}, tot (·.out.v) ((outs.zipIdx k).map fun x => (⟨⟨id, (x.2 : Int)⟩, x.1⟩ : Coin)) = tot (·.v) outs
  | [], _ => rfl
  | o :: outs, k => by rw [List.zipIdx_cons, List.map_cons, tot, tot, zip_tot]
theorem newN_tot {id : Ab.Id} {outs : List Out} : tot (·.out.v) (newN id outs outs.length) = tot (·.v) outs := by
  unfold newN
  rw [List.take_length]
  exact zip_tot
theorem madeOf_tot {p : List Coin} {t : Tx} (h : (madeOf p t).2 = 0) : tot (·.out.v) (madeOf p t).1 = tot (·.out.v) p + tot (·.v) t.outs ∧ (madeOf p t).1.length = p.length + t.outs.length := by
  unfold madeOf at h ⊢
  split
  · rename_i e; rw [if_pos e] at h; exact absurd h (by decide)
  · refine ⟨?_, ?_⟩
    · rw [tot_perm (sortC_perm _), tot_append, newN_tot]
    · rw [(sortC_perm _).length_eq, List.length_append, newN_len (Nat.le_refl _)]
theorem takeIns_tot : ∀ {ins : List In} {p rest : List Coin} {n m : Int}, takeIns p n ins = some (rest, m) → (∀ c ∈ p, coinOk c = true) → p.length ≤ 48 → 0 ≤ n → n + tot (·.out.v) p ≤ 52776558133248 → m + tot (·.out.v) rest = n + tot (·.out.v) p ∧ n ≤ m ∧ rest.length + ins.length = p.length
  | [], p, rest, n, m, h, _, _, _, _ => by
    rw [takeIns.eq_1] at h
    injection h with h; injection h with h1 h2; subst h1; subst h2; exact ⟨rfl, Int.le_refl _, rfl⟩
  | x :: ins, p, rest, n, m, h, ho, hl, h0, h1 => by
    rw [takeIns.eq_2] at h
    split at h
    · cases h
    · rename_i c hc
      split at h
      · have hd := tot_del (f := fun c : Coin => c.out.v) hc
        have hcm := coins_pos ho c (List.mem_of_getElem? hc)
        have hlt := (List.getElem?_eq_some_iff.1 hc).1
        have hsub : (p.take (placeOf p x) ++ p.drop (placeOf p x + 1)).Sublist p := by
          rw [← List.eraseIdx_eq_take_drop_succ]
          exact List.eraseIdx_sublist _ _
        have hp := tot_pos (f := fun c : Coin => c.out.v) (l := p.take (placeOf p x) ++ p.drop (placeOf p x + 1)) fun y hy => (coins_pos ho y (hsub.subset hy)).1
        have hll : (p.take (placeOf p x) ++ p.drop (placeOf p x + 1)).length + 1 = p.length := by simp; omega
        have e : IntKind.i64.wrap (n + c.out.v) = n + c.out.v := wrap_eq (by omega)
        rw [e] at h
        have := takeIns_tot h (fun y hy => ho y (hsub.subset hy)) (by omega) (by omega) (by omega)
        rw [List.length_cons]
        omega
      · cases h
/-- What is spent leaves as much, or all as it was. -/
theorem spendOf_tot {p : List Coin} {t : Tx} (h : mayCoins p = true) : 0 ≤ (spendOf p t).2.1 ∧ tot (·.out.v) (spendOf p t).1 + (spendOf p t).2.1 = tot (·.out.v) p ∧ ((spendOf p t).2.2 ≠ 0 → (spendOf p t).1 = p ∧ (spendOf p t).2.1 = 0) := by
  obtain ⟨h1, h2, h3⟩ := mayCoins_iff.1 h
  have hT := coins_tot h1 h3
  unfold spendOf
  split
  · exact ⟨Int.le_refl _, by simp, fun _ => ⟨rfl, rfl⟩⟩
  · rename_i hn
    have hn := Classical.not_not.1 hn
    split
    · exact ⟨Int.le_refl _, by simp, fun _ => ⟨rfl, rfl⟩⟩
    · rename_i rest n hrest
      have ht := takeIns_tot hrest h1 h3 (Int.le_refl _) (by omega)
      have ho := outs_tot hn.2.1
      have hsub := takeIns_good hrest
      have hr := tot_pos (f := fun c : Coin => c.out.v) (l := rest) fun c hc => (coins_pos h1 c (hsub.subset hc)).1
      split
      · exact ⟨Int.le_refl _, by simp, fun _ => ⟨rfl, rfl⟩⟩
      · rename_i hw
        rw [ho.1] at hw ⊢
        have e : IntKind.i64.wrap (n - tot (·.v) t.outs) = n - tot (·.v) t.outs := wrap_eq (by omega)
        rw [e] at hw ⊢
        split
        · rename_i hm
          have hmt := (madeOf_tot hm).1
          split
          · exact ⟨Int.le_refl _, by simp, fun _ => ⟨rfl, rfl⟩⟩
          · exact ⟨by simp only []; omega, by simp only []; omega, fun h => absurd rfl h⟩
        · exact ⟨Int.le_refl _, by simp, fun _ => ⟨rfl, rfl⟩⟩
theorem runTxs_tot : ∀ {l : List Tx} {p out : List Coin} {r r' : Int}, runTxs p r l = .inr (out, r') → mayCoins p = true → 0 ≤ r → tot (·.out.v) p + r ≤ 52776558133398 → mayCoins out = true ∧ r ≤ r' ∧ tot (·.out.v) out + r' = tot (·.out.v) p + r
  | [], p, out, r, r', h, hp, _, _ => by
    rw [runTxs.eq_1] at h
    injection h with h; injection h with h1 h2; subst h1; subst h2; exact ⟨hp, Int.le_refl _, rfl⟩
  | t :: l, p, out, r, r', h, hp, h0, h1 => by
    rw [runTxs.eq_2] at h
    split at h
    · have hs := spendOf_tot (t := t) hp
      have hm := spendOf_may (t := t) hp
      have hT := coins_tot (mayCoins_iff.1 hm).1 (mayCoins_iff.1 hm).2.2
      have e : IntKind.i64.wrap (r + (spendOf p t).2.1) = r + (spendOf p t).2.1 := wrap_eq (by omega)
      rw [e] at h
      have := runTxs_tot h hm (by omega) (by omega)
      exact ⟨this.1, by omega, by omega⟩
    · cases h
theorem runTxs_err : ∀ {l : List Tx} {p : List Coin} {r e : Int}, runTxs p r l = .inl e → e ≠ 0
  | [], p, r, e, h => by rw [runTxs.eq_1] at h; cases h
  | t :: l, p, r, e, h => by
    rw [runTxs.eq_2] at h
    split at h
    · exact runTxs_err h
    · rename_i hn; injection h with h; subst h; exact hn
/-- What a block's transactions make may be; an error changes nothing; no more than 50 is new. -/
theorem applyOf_tot {p : List Coin} {l : List Tx} (h : mayCoins p = true) : mayCoins (applyOf p l).1 = true ∧ tot (·.out.v) (applyOf p l).1 ≤ tot (·.out.v) p + 50 ∧ ((applyOf p l).2 ≠ 0 → (applyOf p l).1 = p) := by
  have hT := coins_tot (mayCoins_iff.1 h).1 (mayCoins_iff.1 h).2.2
  have same : ∀ e : Int, mayCoins p = true ∧ tot (·.out.v) p ≤ tot (·.out.v) p + 50 ∧ (e ≠ 0 → p = p) := fun _ => ⟨h, by omega, fun _ => rfl⟩
  unfold applyOf
  rw [if_neg (Classical.not_not.2 h)]
  split
  · exact same _
  · split
    · exact same _
    · rename_i out room hr
      have hrt := runTxs_tot hr h (by decide) (by omega)
      split
      · exact ⟨hrt.1, by simp only []; omega, fun h => absurd rfl h⟩
      · rename_i t _
        split
        · exact same _
        · rename_i hmt
          have hmt := Classical.not_not.1 hmt
          have ho := outs_tot hmt
          split
          · exact same _
          · rename_i hm
            have hm := Classical.not_not.1 hm
            split
            · exact same _
            · rename_i hw
              rw [ho.1] at hw
              split
              · exact same _
              · rename_i hl
                have hg := madeOf_good (p := out) (mayCoins_iff.1 hrt.1).1 (mayCoins_iff.1 hrt.1).2.1 hmt
                have hmt := (madeOf_tot hm).1
                exact ⟨mayCoins_iff.2 ⟨hg.1, hg.2, Nat.le_of_not_lt hl⟩, by simp only []; omega, fun h => absurd rfl h⟩
theorem worth_coins {p : List Coin} (h : mayCoins p = true) : worthF (·.out.v) p = tot (·.out.v) p := by
  have h1 := coins_pos (mayCoins_iff.1 h).1
  have := (mayCoins_iff.1 h).2.2
  exact worth_tot (fun x hx => by have := h1 x hx; omega) (by omega)
/-- What purse.Sum tells. -/
def sumOf (p : List Coin) : Int := if mayCoins p = true then worthF (·.out.v) p else 0
theorem sumOf_tot {p : List Coin} (h : mayCoins p = true) : sumOf p = tot (·.out.v) p := by unfold sumOf; rw [if_pos h, worth_coins h]

end Go.Proofs.Ytmfgemnmelbflaa
