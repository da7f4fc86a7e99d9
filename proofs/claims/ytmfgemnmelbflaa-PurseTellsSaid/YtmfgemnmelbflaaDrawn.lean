/- No run of an operation takes draws back. No program in sight. -/
import Derived.WalkKit
namespace Go.Ab
set_option linter.unusedVariables false
set_option linter.unusedSimpArgs false

theorem viewStore_drawn {p : Program} {w : World} {at_ : Addr} {u : TypeId} {k : Addr} {v : Value} {b : Bool} {r : World × List Addr} (h : w.viewStore p at_ u k v b = .ok r) : r.1.drawn = w.drawn := by
  unfold World.viewStore at h
  simp only [bind, Except.bind, pure, Except.pure, throw, throwThe, MonadExceptOf.throw] at h
  repeat' split at h
  all_goals first
    | (cases h; rfl)
    | (cases h; done)
    | skip

theorem ask_drawn {α : Type} : ∀ (s : Ask α) (w : World), w.drawn ≤ (w.ask s).2.drawn
  | .done a, w => Nat.le_refl _
  | .ask what range k, w => by
    unfold World.ask
    dsimp only
    split
    · exact ask_drawn _ _
    · exact Nat.le_trans (Nat.le_succ _) (ask_drawn _ { w with drawn := w.drawn + 1 })
theorem sys_drawn (w : World) (c : Sys) : w.drawn ≤ (w.sys c).2.drawn := by
  have := ask_drawn (Kernel.perform c w.os) w
  unfold World.sys
  split
  · exact Nat.le_refl _
  · rename_i r os w' _ h
    rw [h] at this; exact this

theorem store_tail {α : Type} {P : Program} {k : Sem α} {w w' : World} {v : α} {a : Addr} {m : Bool} {y : Value} (ih : ∀ w1, k.run P w1 = .ok v w' → w1.drawn ≤ w'.drawn)
    (h : (match w.cell? a with
        | some _ => if w.frozen? a then Result.halt (.unsupported (.unsafePointer "a write to bytes that a string shares")) w else k.run P (w.setCell a y)
        | none => match w.farStore P a y m with
          | .ok (w, _) => k.run P w
          | .error h => .halt h w) = .ok v w') : w.drawn ≤ w'.drawn := by
  split at h
  · split at h
    · cases h
    · exact ih (w.setCell a y) h
  · split at h
    · rename_i w1 l hf
      have h1 := ih _ h
      have h2 : w1.drawn = w.drawn := by
        unfold World.farStore at hf
        split at hf
        · split at hf
          · rename_i r hr
            have := viewStore_drawn hr
            cases hf; exact this
          · cases hf
        · cases hf
      omega
    · cases h
theorem run_drawn {α : Type} {P : Program} (s : Sem α) : ∀ {w w' : World} {v : α}, s.run P w = .ok v w' → w.drawn ≤ w'.drawn := by
  induction s with
  | pure a => intro w w' v h; unfold Sem.run at h; cases h; exact Nat.le_refl _
  | load m a k ih =>
    intro w w' v h
    unfold Sem.run at h
    split at h
    · exact ih _ h
    · split at h
      · exact ih _ h
      · cases h
  | store m a x k ih =>
    intro w w' v h
    cases x with
    | agg cs => simp only [Sem.run] at h; cases h
    | tuple cs => simp only [Sem.run] at h; cases h
    | _ => exact store_tail (fun _ => ih) h
  | new o k ih => intro w w' v h; unfold Sem.run at h; exact ih _ (w := { w with heap := w.heap.push o }) h
  | shape r k ih => intro w w' v h; unfold Sem.run at h; exact ih _ h
  | freeze a n k ih =>
    intro w w' v h
    unfold Sem.run at h
    have := ih h
    unfold World.freeze at this
    split at this <;> exact this
  | frozen a k ih => intro w w' v h; unfold Sem.run at h; exact ih _ h
  | getObj r k ih =>
    intro w w' v h
    unfold Sem.run at h
    split at h
    · cases h
    · exact ih _ h
    · cases h
  | setObj r o k ih =>
    intro w w' v h
    unfold Sem.run at h
    split at h
    · cases h
    · exact ih (w := { w with heap := w.heap.setIfInBounds r o }) h
    · cases h
  | choose q k ih =>
    intro w w' v h
    unfold Sem.run at h
    split at h
    · exact ih _ h
    · exact Nat.le_trans (Nat.le_succ _) (ih _ (w := { w with drawn := w.drawn + 1 }) h)
  | sys c k ih => intro w w' v h; unfold Sem.run at h; exact Nat.le_trans (sys_drawn w c) (ih _ h)
  | program k ih => intro w w' v h; unfold Sem.run at h; exact ih _ h
  | mark m k ih => intro w w' v h; unfold Sem.run at h; exact ih h
  | halt x => intro w w' v h; unfold Sem.run at h; cases h
end Go.Ab
