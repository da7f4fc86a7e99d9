/- Small functions of the library and of the program, proved. -/
import Derived.Test.YtmfgemnmelbflaaFacts
set_option maxRecDepth 20000
namespace Go.Proofs.Ytmfgemnmelbflaa
set_option linter.unusedVariables false
set_option linter.unusedSimpArgs false
open Go.Ab Go.RowKit

theorem isNaN_ok (x : Int) : Tells P 75 [.val i64T x] (.val boolT false) := by
  refine fn_of_aw Try.func75 rfl rfl rfl (fun ext w hext => ?_)
  refine aw_fact (d := 0) rfl fact_int (fun hin0 => ?_)
  refine aw_seq ?_
  refine aw_region ?_
  refine aw_g (g_mv (.inr rfl) rfl) rfl rfl rfl ?_
  refine aw_nil ?_
  refine aw_seq ?_
  refine aw_region ?_
  refine aw_g (g_mv (.inl rfl) rfl) rfl rfl rfl ?_
  refine aw_g (g_mv (.inl rfl) rfl) rfl rfl rfl ?_
  refine aw_g (g_neq rfl rfl rfl rfl) rfl rfl rfl ?_
  refine aw_g (g_mv (.inr rfl) rfl) rfl rfl rfl ?_
  refine aw_nil ?_
  exact aw_ret1 rfl rfl (ret_val (by simp [Fr.set]))

def cmpInt (x y : Int) : Int := if x < y then -1 else if y < x then 1 else 0

theorem cmpInt_ok (x y : Int) : Tells P 64 [.val i64T x, .val i64T y] (.val i64T (cmpInt x y)) := by
  refine fn_of_aw Try.func64 rfl rfl rfl (fun ext w hext => ?_)
  refine aw_fact (d := 0) rfl fact_int (fun hin0 => ?_)
  refine aw_fact (d := 1) rfl fact_int (fun hin1 => ?_)
  refine aw_seq ?_
  refine aw_region ?_
  refine aw_g (g_mv (.inr rfl) rfl) rfl rfl rfl ?_
  refine aw_nil ?_
  refine aw_seq ?_
  refine aw_region ?_
  refine aw_g (g_mv (.inl rfl) rfl) rfl rfl rfl ?_
  refine aw_g (g_call (isNaN_ok _) rfl fn_75 ⟨(arg_v rfl), trivial⟩ rfl) rfl rfl rfl ?_
  refine aw_g (g_mv (.inr rfl) rfl) rfl rfl rfl ?_
  refine aw_nil ?_
  refine aw_seq ?_
  refine aw_region ?_
  refine aw_g (g_mv (.inl rfl) rfl) rfl rfl rfl ?_
  refine aw_g (g_call (isNaN_ok _) rfl fn_75 ⟨(arg_v rfl), trivial⟩ rfl) rfl rfl rfl ?_
  refine aw_g (g_mv (.inr rfl) rfl) rfl rfl rfl ?_
  refine aw_nil ?_
  refine aw_seq ?_
  refine aw_seq ?_
  refine aw_region ?_
  refine aw_g (g_mv (.inl rfl) rfl) rfl rfl rfl ?_
  refine aw_nil ?_
  refine aw_if_f rfl (rfl) ?_
  refine aw_skip ?_
  refine aw_seq ?_
  refine aw_seq ?_
  refine aw_region ?_
  refine aw_g (g_mv (.inl rfl) rfl) rfl rfl rfl ?_
  refine aw_nil ?_
  refine aw_if_f rfl (rfl) ?_
  refine aw_skip ?_
  refine aw_seq ?_
  refine aw_seq ?_
  refine aw_region ?_
  refine aw_g (g_mv (.inl rfl) rfl) rfl rfl rfl ?_
  refine aw_g (g_mv (.inl rfl) rfl) rfl rfl rfl ?_
  refine aw_g (g_lss rfl rfl rfl rfl) rfl rfl rfl ?_
  refine aw_nil ?_
  refine aw_ifc (p := x < y) rfl (rfl) (fun ht16 => ?_) (fun ht16 => ?_)
  · skip
    refine aw_seq ?_
    refine aw_region ?_
    refine aw_g (g_mv (.inr rfl) rfl) rfl rfl rfl ?_
    refine aw_nil ?_
    exact aw_ret1 rfl rfl (ret_eq rfl (by unfold cmpInt; first | rw [if_neg (by assumption), if_neg (by assumption)] | rw [if_neg (by assumption), if_pos (by assumption)] | rw [if_pos (by assumption)]))
  · skip
    refine aw_skip ?_
    refine aw_seq ?_
    refine aw_seq ?_
    refine aw_region ?_
    refine aw_g (g_mv (.inl rfl) rfl) rfl rfl rfl ?_
    refine aw_g (g_mv (.inl rfl) rfl) rfl rfl rfl ?_
    refine aw_g (g_gtr rfl rfl rfl rfl) rfl rfl rfl ?_
    refine aw_nil ?_
    refine aw_ifc (p := y < x) rfl (rfl) (fun ht19 => ?_) (fun ht19 => ?_)
    · skip
      refine aw_seq ?_
      refine aw_region ?_
      refine aw_g (g_mv (.inr rfl) rfl) rfl rfl rfl ?_
      refine aw_nil ?_
      exact aw_ret1 rfl rfl (ret_eq rfl (by unfold cmpInt; first | rw [if_neg (by assumption), if_neg (by assumption)] | rw [if_neg (by assumption), if_pos (by assumption)] | rw [if_pos (by assumption)]))
    · skip
      refine aw_skip ?_
      refine aw_seq ?_
      refine aw_region ?_
      refine aw_g (g_mv (.inr rfl) rfl) rfl rfl rfl ?_
      refine aw_nil ?_
      exact aw_ret1 rfl rfl (ret_eq rfl (by unfold cmpInt; first | rw [if_neg (by assumption), if_neg (by assumption)] | rw [if_neg (by assumption), if_pos (by assumption)] | rw [if_pos (by assumption)]))

end Go.Proofs.Ytmfgemnmelbflaa
