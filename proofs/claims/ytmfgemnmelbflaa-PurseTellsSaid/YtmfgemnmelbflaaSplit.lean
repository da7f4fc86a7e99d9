/- Cases on a truth value that is held in a slot. -/
import Derived.Test.YtmfgemnmelbflaaLoop
namespace Go.Ab
set_option linter.unusedVariables false
set_option linter.unusedSimpArgs false
open Go.RowKit

theorem fr_set_self {fr : Fr} {d : Nat} {x : AV} (h : fr d = x) : fr.set d x = fr := by
  funext t
  rw [fr_set_eq]
  by_cases e : t = d
  · rw [if_pos e, e, h]
  · rw [if_neg e]
theorem split_ {Q : Fr → Prop} {fr : Fr} {d : Nat} {b : Bool} (h : fr d = .val boolT b) (ht : b = true → Q (fr.set d (.val boolT true))) (hf : b = false → Q (fr.set d (.val boolT false))) : Q fr := by
  cases b with
  | true => have := ht rfl; rwa [fr_set_self h] at this
  | false => have := hf rfl; rwa [fr_set_self h] at this
section
variable {J : Job} {nx : Nat} {fr : Fr} {hp : Hp} {k : List It} {ops : Array Oper} {l : List Oper} {d : Nat} {b : Bool}
theorem aw_split (h : fr d = .val boolT b) (ht : b = true → AW J nx (fr.set d (.val boolT true)) hp k) (hf : b = false → AW J nx (fr.set d (.val boolT false)) hp k) : AW J nx fr hp k := split_ (Q := fun fr => AW J nx fr hp k) h ht hf
theorem GK_split (h : fr d = .val boolT b) (ht : b = true → GK J nx hp ops k l (fr.set d (.val boolT true))) (hf : b = false → GK J nx hp ops k l (fr.set d (.val boolT false))) : GK J nx hp ops k l fr := split_ h ht hf
theorem aw_splitp {p : Prop} [Decidable p] (h : fr d = .val boolT b) (e : b = decide p) (ht : p → AW J nx (fr.set d (.val boolT true)) hp k) (hf : ¬ p → AW J nx (fr.set d (.val boolT false)) hp k) : AW J nx fr hp k :=
  aw_split h (fun e' => ht (by rw [e] at e'; exact of_decide_eq_true e')) (fun e' => hf (by rw [e] at e'; exact of_decide_eq_false e'))
theorem GK_splitp {p : Prop} [Decidable p] (h : fr d = .val boolT b) (e : b = decide p) (ht : p → GK J nx hp ops k l (fr.set d (.val boolT true))) (hf : ¬ p → GK J nx hp ops k l (fr.set d (.val boolT false))) : GK J nx hp ops k l fr :=
  GK_split h (fun e' => ht (by rw [e] at e'; exact of_decide_eq_true e')) (fun e' => hf (by rw [e] at e'; exact of_decide_eq_false e'))
theorem aw_ist (h : fr d = .val boolT b) (e : b = true) (ht : AW J nx (fr.set d (.val boolT true)) hp k) : AW J nx fr hp k := aw_split h (fun _ => ht) (fun e' => by rw [e] at e'; cases e')
theorem aw_isf (h : fr d = .val boolT b) (e : b = false) (ht : AW J nx (fr.set d (.val boolT false)) hp k) : AW J nx fr hp k := aw_split h (fun e' => by rw [e] at e'; cases e') (fun _ => ht)
theorem GK_ist (h : fr d = .val boolT b) (e : b = true) (ht : GK J nx hp ops k l (fr.set d (.val boolT true))) : GK J nx hp ops k l fr := GK_split h (fun _ => ht) (fun e' => by rw [e] at e'; cases e')
theorem GK_isf (h : fr d = .val boolT b) (e : b = false) (ht : GK J nx hp ops k l (fr.set d (.val boolT false))) : GK J nx hp ops k l fr := GK_split h (fun e' => by rw [e] at e'; cases e') (fun _ => ht)
theorem aw_reval {α : Type} {T : GoT α} {x y : α} (h : fr d = .val T x) (e : x = y) (H : AW J nx (fr.set d (.val T y)) hp k) : AW J nx fr hp k := by
  subst e; rwa [fr_set_self h] at H
theorem aw_reheap {α : Type} {T : GoT α} {x y : α} {n ty : Nat} (h : hp n = .box ty T x) (e : x = y) (H : AW J nx fr (hp.set n (.box ty T y)) k) : AW J nx fr hp k := by
  subst e
  have : hp.set n (.box ty T x) = hp := by
    funext t
    rw [hp_set_eq]
    by_cases c : t = n
    · rw [if_pos c, c, h]
    · rw [if_neg c]
  rwa [this] at H
theorem aw_rerow {α : Type} {T : GoT α} {x y : List α} {n ty : Nat} (h : hp n = .row ty T x) (e : x = y) (H : AW J nx fr (hp.set n (.row ty T y)) k) : AW J nx fr hp k := by
  subst e
  have : hp.set n (.row ty T x) = hp := by
    funext t
    rw [hp_set_eq]
    by_cases c : t = n
    · rw [if_pos c, c, h]
    · rw [if_neg c]
  rwa [this] at H
theorem g_ia_i {α : Type} {T : GoT α} {t e : TypeId} {x y : Operand} {o : Oper} {b : Bool} {l : List α} {j : Int} {i : Nat} {c : α} (ho : o.op = .indexAddr t x y) (hx : fr.ev x = .val (slT b T) l) (hy : fr.ev y = .val i64T j) (hj : j = (i : Int)) (hs : sliceB J.P t e T.size = true) (hc : l[i]? = some c) : OpG J o fr hp (.rptr T c) :=
  g_ia_n ho hx (hy.trans (by rw [hj])) hs hc
end
end Go.Ab
