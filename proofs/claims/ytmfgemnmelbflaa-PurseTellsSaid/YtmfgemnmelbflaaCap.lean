/- Calls of closures that answer with new slices. -/
import Derived.Test.YtmfgemnmelbflaaRen
namespace Go.Ab
set_option linter.unusedVariables false
set_option linter.unusedSimpArgs false
open Go.RowKit

section
variable {J : Job} {nx : Nat} {ρ : Nat → Value} {fr : Fr} {hp : Hp} {a : Act} {w w' : World} {k : List It} {ops : Array Oper} {rest : List Oper} {o : Oper}
variable {α β γ : Type} {T : GoT α}

theorem arg_cap {n ty : Nat} {x : α} (hn : hp n = .box ty T x) : ArgOk J hp (.ptr n 0) (.rptr T x) := arg_ptr rfl hn (Lens.self T)
theorem run_clo {x : Operand} {f : FuncId} {caps : List Nat} {xs : Array Operand} {ts : Array TypeId} {As Cs : List AV} {X : AV} (hc : Tells J.P f (As ++ Cs) X) (ho : o.op = .call { callee := .value x, args := xs, argTypes := ts }) (hx : fr.ev x = .clo f caps) (hf : fnB J.P f = true) (ha : ArgsOk J fr hp xs.toList As)
    (hb : ∀ n ∈ caps, ∃ ty, ∃ (γ : Type) (T : GoT γ) (x : γ), hp n = .box ty T x) (hcs : CapsOk J hp caps Cs) (s : SimR J nx ρ fr hp a w) :
    (execOp a.eval o).run J.P w = .ok (.enter f (xs.map a.eval ++ (caps.map ρ).toArray)) w ∧ Calls J.P f (xs.map a.eval ++ (caps.map ρ).toArray) w (CallPost (Uu J ρ hp) w X) := by
  obtain ⟨fn, h1, h2, h3⟩ := fnB_spec hf
  have hv := ev_rel s x
  rw [hx] at hv
  have hv : a.eval x = _ := hv
  refine ⟨run_callv ho hv h1 h2 h3, ?_⟩
  have hargs := args_rel (s := s.toSimH) (a := a) (fun y _ => ev_rel s y) ha
  have hcaps := caps_rel s.toSimH hcs fun n hn => by
    obtain ⟨ty, γ, T, x, e⟩ := hb n hn
    have := s.hrel n
    rw [e] at this
    obtain ⟨g, _, e, _⟩ := this
    exact ⟨g, e⟩
  have e : (xs.toList.map a.eval ++ caps.map ρ).toArray = xs.map a.eval ++ (caps.map ρ).toArray := by apply Array.ext'; simp
  have := hc (Uu J ρ hp) w _ (fun b hb => s.uu_lt hb) (ArgsRel.append hargs hcaps)
  rw [e] at this
  exact this

theorem aw_callg2 {x : Operand} {f : FuncId} {caps : List Nat} {xs : Array Operand} {ts : Array TypeId} {As Cs : List AV} {d e : Nat} {l : List α} {X : AV} (hc : Tells J.P f (As ++ Cs) (.tup2 (.fresh e T l) X)) (ho : o.op = .call { callee := .value x, args := xs, argTypes := ts }) (hx : fr.ev x = .clo f caps) (hf : fnB J.P f = true) (ha : ArgsOk J fr hp xs.toList As)
    (hb : ∀ n ∈ caps, ∃ ty, ∃ (γ : Type) (T : GoT γ) (x : γ), hp n = .box ty T x) (hcs : CapsOk J hp caps Cs) (hX : Flat X)
    (hd : o.dst = some d) (hg : o.guard = none) (hlt : Nat.blt d J.nt = true) (H : AW J (nx + 1) (fr.set d (.tup2 (.own nx) X)) (hp.set nx (.row e T l)) (.ops ops rest :: k)) : AW J nx fr hp (.ops ops (o :: rest) :: k) := by
  intro a w ⟨ρ, s⟩
  refine wpl_plain hg (by intro c hc; rw [ho] at hc; cases hc) fun K hK => ?_
  obtain ⟨hr, hcall⟩ := run_clo hc ho hx hf ha hb hcs s
  unfold Oper.wp
  rw [hr, Oper.upon_enter]
  refine Calls.mono hcall fun en w' he => ?_
  cases en with
  | returned v =>
    obtain ⟨hb, x, y, rfl, hx, hy⟩ := he
    rw [hd]
    exact hK _ _ (H _ _ ⟨_, (bind_fresh s hb hx).put (by simpa using hlt) ⟨x, y, rfl, (by show _ = _; unfold ren; simp), hX.2 _ _ _ _ _ _ _ _ _ _ _ hy⟩ ⟨Nat.lt_succ_self nx, AV.under_mono (Nat.zero_le _) (AV.under0_spec hX.1)⟩⟩)
  | panicked c => exact he.elim
  | outgrown => exact he.elim
theorem aw_callg3 {x : Operand} {f : FuncId} {caps : List Nat} {xs : Array Operand} {ts : Array TypeId} {As Cs : List AV} {d e : Nat} {l : List α} {X Y : AV} (hc : Tells J.P f (As ++ Cs) (.tup3 (.fresh e T l) X Y)) (ho : o.op = .call { callee := .value x, args := xs, argTypes := ts }) (hx : fr.ev x = .clo f caps) (hf : fnB J.P f = true) (ha : ArgsOk J fr hp xs.toList As)
    (hb : ∀ n ∈ caps, ∃ ty, ∃ (γ : Type) (T : GoT γ) (x : γ), hp n = .box ty T x) (hcs : CapsOk J hp caps Cs) (hX : Flat X) (hY : Flat Y)
    (hd : o.dst = some d) (hg : o.guard = none) (hlt : Nat.blt d J.nt = true) (H : AW J (nx + 1) (fr.set d (.tup3 (.own nx) X Y)) (hp.set nx (.row e T l)) (.ops ops rest :: k)) : AW J nx fr hp (.ops ops (o :: rest) :: k) := by
  intro a w ⟨ρ, s⟩
  refine wpl_plain hg (by intro c hc; rw [ho] at hc; cases hc) fun K hK => ?_
  obtain ⟨hr, hcall⟩ := run_clo hc ho hx hf ha hb hcs s
  unfold Oper.wp
  rw [hr, Oper.upon_enter]
  refine Calls.mono hcall fun en w' he => ?_
  cases en with
  | returned v =>
    obtain ⟨hb, x, y, z, rfl, hx, hy, hz⟩ := he
    rw [hd]
    exact hK _ _ (H _ _ ⟨_, (bind_fresh s hb hx).put (by simpa using hlt) ⟨x, y, z, rfl, (by show _ = _; unfold ren; simp), hX.2 _ _ _ _ _ _ _ _ _ _ _ hy, hY.2 _ _ _ _ _ _ _ _ _ _ _ hz⟩ ⟨Nat.lt_succ_self nx, AV.under_mono (Nat.zero_le _) (AV.under0_spec hX.1), AV.under_mono (Nat.zero_le _) (AV.under0_spec hY.1)⟩⟩)
  | panicked c => exact he.elim
  | outgrown => exact he.elim
end
end Go.Ab
