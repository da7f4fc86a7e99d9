/- Calls of functions without a body, as the model gives them. -/
import Derived.Test.YtmfgemnmelbflaaEq
import Derived.Test.YtmfgemnmelbflaaSplit
import Derived.Lib.Bytes
import Derived.Lib.Bytealg
import Derived.Laws.Externs
namespace Go.Ab
set_option linter.unusedVariables false
set_option linter.unusedSimpArgs false
open Go.RowKit

/-- A function that the model itself answers for. -/
def ExtAt (P : Program) (f : FuncId) (e : Array Value → Sem Value) : Prop :=
  ∃ fn, P.funcs[f]? = some fn ∧ (fn.name == "runtime.NumGoroutine") = false ∧ fn.body.isNone = true ∧ Extern.findNext fn = none ∧ Extern.find fn = some e

section
variable {J : Job} {nx : Nat} {ρ : Nat → Value} {fr : Fr} {hp : Hp} {a : Act} {w w' : World} {k : List It} {ops : Array Oper} {rest : List Oper} {o : Oper}

theorem relAll_u8 {U N : Nat → Prop} : ∀ {l : List UInt8} {cs}, relAll u8T U N w l cs → cs = l.map fun b => Value.int .u8 b.toNat
  | [], _, h => h
  | x :: l, _, ⟨c1, c2, e, h1, h2⟩ => by rw [e, relAll_u8 h2, h1.1]; rfl

theorem run_loadU8 {P : Program} : ∀ (l : List UInt8) (a : Addr) (acc : ByteArray), (∀ j x, l[j]? = some x → w.cell? (a.add j) = some (.int .u8 x.toNat)) →
    (Extern.Bytes.loadBytes a l.length acc).run P w = .ok ⟨acc.data ++ l.toArray⟩ w
  | [], a, acc, _ => by simp [Extern.Bytes.loadBytes]
  | x :: l, a, acc, h => by
    have h0 : w.cell? a = some (.int .u8 x.toNat) := h 0 x rfl
    have ih := run_loadU8 (P := P) l (a.add 1) (acc.push x) (fun j y hy => by rw [add_of_add, Nat.add_comm]; exact h (j + 1) y (by simpa using hy))
    simp only [List.length_cons, Extern.Bytes.loadBytes, Sem.run_bind, run_load, h0, Result.andThen]
    have e : ((x.toNat : Int).toNat).toUInt8 = x := by simp
    rw [e, ih]
    congr 1
    apply ByteArray.ext
    simp [ByteArray.push]
theorem run_bytesOf {P : Program} {b : Bool} {U N : Nat → Prop} {l : List UInt8} {v : Value} (h : (slT b u8T).val U N w l v) : (Extern.Bytes.bytesOf v).run P w = .ok ⟨l.toArray⟩ w := by
  obtain ⟨ad, cap, rfl, h1, h2, h3⟩ := val_sl h
  cases l with
  | nil =>
    cases ad with
    | none => rfl
    | some ad => rfl
  | cons x l =>
    obtain ⟨ad', ds, rfl, _, hr, hc⟩ := h3 (by simp)
    have := run_loadU8 (P := P) (w := w) (x :: l) ad' .empty (fun j y hj => hc j _ (by rw [relAll_u8 hr, List.getElem?_map, hj]; rfl))
    simp only [Extern.Bytes.bytesOf]
    rw [this]
    congr 1
    apply ByteArray.ext
    simp

/-- bytes.Compare of two rows of bytes. -/
theorem g_bcmp {f : FuncId} {x y : Operand} {ts : Array TypeId} {b c : Bool} {l m : List UInt8} (ho : o.op = .call { callee := .value (.func f), args := #[x, y], argTypes := ts }) (hf : ExtAt J.P f Extern.BytealgCompare.compare) (hx : fr.ev x = .val (slT b u8T) l) (hy : fr.ev y = .val (slT c u8T) m) :
    OpG J o fr hp (.val i64T (Lib.compareBytes l m)) := by
  refine .of_run (fun {_ ρ a w} s hr _ => ?_) (fun _ _ => trivial)
  have h1 := hr x (by rw [ho]; simp [Op.operands, Call.operands])
  have h2 := hr y (by rw [ho]; simp [Op.operands, Call.operands])
  rw [hx] at h1; rw [hy] at h2
  obtain ⟨fn, e1, e2, e3, e4, e5⟩ := hf
  refine ⟨.int .i64 (Lib.compareBytes l m), ?_, val_int.2 ⟨rfl, ?_⟩⟩
  · unfold execOp; rw [ho]
    have hc := run_callFunc_extern (w := w) (args := #[a.eval x, a.eval y]) e1 e2 e3 e4 e5
    have he : (Extern.BytealgCompare.compare #[a.eval x, a.eval y]).run J.P w = .ok (.int .i64 (Lib.compareBytes l m)) w := by
      show Sem.run J.P (do pure (goInt (Extern.BytealgCompare.cmp (← Extern.Bytes.bytesOf (a.eval x)) (← Extern.Bytes.bytesOf (a.eval y))))) w = _
      simp only [Sem.run_bind, run_bytesOf h1, run_bytesOf h2, Result.andThen_ok, Sem.run_pure, Lib.cmp_eq]
      rfl
    rw [he] at hc
    have hfv : a.eval (.func f) = .func (.func f) #[] #[] := rfl
    simp only [resolve, hfv, Deferred.ofValue, Sem.run_bind, Sem.run_pure, Result.andThen_ok, invoke, Array.empty_append, Array.append_empty]
    have em : Array.map a.eval #[x, y] = #[a.eval x, a.eval y] := by simp
    rw [em]
    exact hc
  · have : ∀ l m : List UInt8, -1 ≤ Lib.compareBytes l m ∧ Lib.compareBytes l m ≤ 1 := fun l => by
      induction l with
      | nil => intro m; cases m <;> simp [Lib.compareBytes]
      | cons x l ih => intro m; cases m with
        | nil => simp [Lib.compareBytes]
        | cons y m => unfold Lib.compareBytes; split; omega; split; omega; exact ih m
    have := this l m
    rw [i64_in]; omega
end
end Go.Ab
