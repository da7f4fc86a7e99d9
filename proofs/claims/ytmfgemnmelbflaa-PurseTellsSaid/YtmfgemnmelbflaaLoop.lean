/- Loops by an index of their rounds; more forms of reading. -/
import Derived.Test.YtmfgemnmelbflaaDraw
namespace Go.Ab
set_option linter.unusedVariables false
set_option linter.unusedSimpArgs false
open Go.RowKit

section
variable {J : Job} {nx : Nat} {fr : Fr} {hp : Hp} {k : List It} {ops : Array Oper} {rest : List Oper} {o : Oper}
variable {α β : Type} {T : GoT α} {S : GoT β} {get : α → β} {set : α → β → α}

/-- The next round's head. -/
def Next {ι : Type} (J : Job) (nx : Nat) (F : ι → Fr) (H : ι → Hp) (Inv : ι → Prop) (M : ι → Nat) (i : ι) (a : Act) (w : World) : Prop := ∃ j, Inv j ∧ M j < M i ∧ Sim J nx (F j) (H j) a w

theorem aw_loopI {c : Code} {ι : Type} (nxI : Nat) (hk : Nat.ble (max J.kg J.bn) nxI = true) (F : ι → Fr) (H : ι → Hp) (Inv : ι → Prop) (M : ι → Nat) (i0 : ι) (h0 : Inv i0) (hf : Fr.le (F i0) fr) (hh : Hp.le (H i0) hp) (bf : Fr.below_ nxI (F i0)) (bh : Hp.below_ nxI (H i0))
    (round : ∀ i, Inv i → AW J nxI (F i) (H i) (.code c :: .again (Next J nxI F H Inv M i) :: k)) : AW J nx fr hp (.code (.loop c) :: k) :=
  aw_loop (n0 := M i0) (fun n a w => ∃ i, Inv i ∧ M i = n ∧ Sim J nxI (F i) (H i) a w) (fun a w ⟨ρ, s⟩ => ⟨i0, h0, rfl, ρ, s.weaken hk hf hh bf bh⟩)
    fun n a w ⟨i, hi, hm, s⟩ => by
      subst hm
      have := round i hi a w s
      have e : (fun a w => ∃ m, m < M i ∧ ∃ i, Inv i ∧ M i = m ∧ Sim J nxI (F i) (H i) a w) = Next J nxI F H Inv M i := by
        funext a w
        exact propext ⟨fun ⟨m, h1, j, h2, h3, h4⟩ => ⟨j, h2, by omega, h4⟩, fun ⟨j, h2, h3, h4⟩ => ⟨M j, h3, j, h2, rfl, h4⟩⟩
      rw [e]; exact this

theorem aw_next {ι : Type} {nxI : Nat} {F : ι → Fr} {H : ι → Hp} {Inv : ι → Prop} {M : ι → Nat} {i : ι} (j : ι) (h0 : Inv j) (hm : M j < M i) (hk : Nat.ble (max J.kg J.bn) nxI = true) (hf : Fr.le (F j) fr) (hh : Hp.le (H j) hp) (bf : Fr.below_ nxI (F j)) (bh : Hp.below_ nxI (H j)) :
    AW J nx fr hp (.again (Next J nxI F H Inv M i) :: k) := fun _ _ ⟨ρ, s⟩ => ⟨j, h0, hm, ρ, s.weaken hk hf hh bf bh⟩

theorem g_ia_n {t e : TypeId} {x y : Operand} {b : Bool} {l : List α} {i : Nat} {c : α} (ho : o.op = .indexAddr t x y) (hx : fr.ev x = .val (slT b T) l) (hy : fr.ev y = .val i64T (i : Int)) (hs : sliceB J.P t e T.size = true) (hc : l[i]? = some c) : OpG J o fr hp (.rptr T c) :=
  g_ia_r ho hx hy hs (by omega) (by simpa using hc)

/-- What is tested may be named. -/
theorem aw_ifc {c : Operand} {x y : Code} {b : Bool} {p : Prop} [Decidable p] (hc : fr.ev c = .val boolT b) (hp' : b = decide p) (ht : p → AW J nx fr hp (.code x :: k)) (hf : ¬ p → AW J nx fr hp (.code y :: k)) : AW J nx fr hp (.code (.cond c x y) :: k) :=
  aw_if hc (fun e => ht (by rw [hp'] at e; exact of_decide_eq_true e)) (fun e => hf (by rw [hp'] at e; exact of_decide_eq_false e))
end
end Go.Ab
