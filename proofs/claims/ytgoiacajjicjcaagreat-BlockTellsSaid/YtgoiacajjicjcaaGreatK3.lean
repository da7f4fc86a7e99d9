/- Parts of the proof: the layer that reads Go values as data, and what the functions of the program tell. -/
import Derived.Shelf.SlSortCmp.NoneTotal
import Derived.WideKeyArgs
import Derived.ChangeOld
import Derived.Handed
import Derived.JoinedOf
import Derived.Carry
import Derived.RowKit
import Derived.Test.YtgoiacajjicjcaaGreatProg
import Derived.KernelRfl
import Derived.Test.YtgoiacajjicjcaaGreatK2
namespace Go.Ab
set_option linter.unusedVariables false
set_option linter.unusedSimpArgs false
open Go.RowKit
section
variable {J : Job} {nx : Nat} {fr : Fr} {hp : Hp} {k : List It} {ops : Array Oper} {rest : List Oper} {o oj : Oper} {id : Nat} {l : List Oper} {c y z : Code}
theorem CN (h : AW J nx fr hp (k)) : AW J nx fr hp (.ops ops [] :: k) := aw_nil h
theorem CQ (h : AW J nx fr hp (.code c :: .code y :: k)) : AW J nx fr hp (.code (c.seq y) :: k) := aw_seq h
theorem CR (h : AW J nx fr hp (.ops l.toArray l :: k)) : AW J nx fr hp (.code (.region id l.toArray false) :: k) := aw_region h
theorem CS (h : AW J nx fr hp (k)) : AW J nx fr hp (.code .skip :: k) := aw_skip h
theorem CB (h : AW J nx fr hp (.code c :: .inBlock id :: k)) : AW J nx fr hp (.code (.block id c) :: k) := aw_block h
theorem CI (h : AW J nx fr hp (k)) : AW J nx fr hp (.inBlock id :: k) := aw_inBlock h
theorem CQR (h : AW J nx fr hp (.ops l.toArray l :: .code y :: k)) : AW J nx fr hp (.code ((Code.region id l.toArray false).seq y) :: k) := aw_seq (aw_region h)
theorem CNQ (h : AW J nx fr hp (.code c :: .code y :: k)) : AW J nx fr hp (.ops ops [] :: .code (c.seq y) :: k) := aw_nil (aw_seq h)
theorem CNR (h : AW J nx fr hp (.ops l.toArray l :: k)) : AW J nx fr hp (.ops ops [] :: .code (.region id l.toArray false) :: k) := aw_nil (aw_region h)
theorem CNQR (h : AW J nx fr hp (.ops l.toArray l :: .code y :: k)) : AW J nx fr hp (.ops ops [] :: .code ((Code.region id l.toArray false).seq y) :: k) := aw_nil (aw_seq (aw_region h))
theorem CQQR (h : AW J nx fr hp (.ops l.toArray l :: .code z :: .code y :: k)) : AW J nx fr hp (.code (((Code.region id l.toArray false).seq z).seq y) :: k) := aw_seq (aw_seq (aw_region h))
theorem CNQQR (h : AW J nx fr hp (.ops l.toArray l :: .code z :: .code y :: k)) : AW J nx fr hp (.ops ops [] :: .code (((Code.region id l.toArray false).seq z).seq y) :: k) := aw_nil (aw_seq (aw_seq (aw_region h)))
theorem CSQR (h : AW J nx fr hp (.ops l.toArray l :: .code y :: k)) : AW J nx fr hp (.code .skip :: .code ((Code.region id l.toArray false).seq y) :: k) := aw_skip (aw_seq (aw_region h))
theorem CSQQR (h : AW J nx fr hp (.ops l.toArray l :: .code z :: .code y :: k)) : AW J nx fr hp (.code .skip :: .code (((Code.region id l.toArray false).seq z).seq y) :: k) := aw_skip (aw_seq (aw_seq (aw_region h)))
theorem CNB (h : AW J nx fr hp (.code c :: .inBlock id :: k)) : AW J nx fr hp (.ops ops [] :: .code (.block id c) :: k) := aw_nil (aw_block h)
theorem CSQBQR {i : Nat} (h : AW J nx fr hp (.ops l.toArray l :: .code z :: .inBlock i :: .code y :: k)) : AW J nx fr hp (.code .skip :: .code ((Code.block i ((Code.region id l.toArray false).seq z)).seq y) :: k) := aw_skip (aw_seq (aw_block (aw_seq (aw_region h))))
theorem CNIR {i : Nat} (h : AW J nx fr hp (.ops l.toArray l :: k)) : AW J nx fr hp (.ops ops [] :: .inBlock i :: .code (.region id l.toArray false) :: k) := aw_nil (aw_inBlock (aw_region h))
theorem CSIR {i : Nat} (h : AW J nx fr hp (.ops l.toArray l :: k)) : AW J nx fr hp (.code .skip :: .inBlock i :: .code (.region id l.toArray false) :: k) := aw_skip (aw_inBlock (aw_region h))
theorem CE {k' : List It} (h : AW J nx fr hp k') (e : popTo id k = some k' := by exact rfl) : AW J nx fr hp (.code (.exit id) :: k) := aw_exit e h
theorem CD (hm : J.P.follows .mixedOrders = true) (h : GK J nx hp l.toArray k l fr) (hB : Region.lexB .any l.toArray = true := by decide +kernel) : AW J nx fr hp (.code (.region id l.toArray true) :: k) := aw_draw hm hB h
variable {x : AV} {d j t : Nat} {b want : Bool}
theorem A0 (h : OpG J o fr hp x) (H : AW J nx (fr.set d x) hp (.ops ops rest :: k)) (hd : o.dst = some d := by exact rfl) (hg : o.guard = none := by exact rfl) (hl : Nat.blt d J.nt = true := by exact rfl) : AW J nx fr hp (.ops ops (o :: rest) :: k) := aw_g h hd hg hl H
theorem A1 (h : OpG J o fr hp x) (H : AW J nx (fr.set d x) hp (.ops ops rest :: k)) (hd : o.dst = some d := by exact rfl) (hg : o.guard = some (j, want) := by exact rfl) (ho : ops[j]? = some oj := by exact rfl) (hj : oj.dst = some t := by exact rfl) (hv : fr t = .val boolT b := by exact rfl) (ht : Nat.blt t J.nt = true := by exact rfl) (hw : b = want := by exact rfl) (hl : Nat.blt d J.nt = true := by exact rfl) : AW J nx fr hp (.ops ops (o :: rest) :: k) := aw_gi h hd hg ho hj hv ht hw hl H
theorem A2 (H : AW J nx (fr.set d (.lit undef)) hp (.ops ops rest :: k)) (hd : o.dst = some d := by exact rfl) (hg : o.guard = some (j, want) := by exact rfl) (ho : ops[j]? = some oj := by exact rfl) (hj : oj.dst = some t := by exact rfl) (hv : fr t = .val boolT b := by exact rfl) (ht : Nat.blt t J.nt = true := by exact rfl) (hw : (b == want) = false := by exact rfl) (hl : Nat.blt d J.nt = true := by exact rfl) : AW J nx fr hp (.ops ops (o :: rest) :: k) := aw_gn hd hg ho hj hv ht hw hl H
theorem A3 (H : AW J nx (fr.set d (.lit undef)) hp (.ops ops rest :: k)) (hd : o.dst = some d := by exact rfl) (hg : o.guard = some (j, want) := by exact rfl) (ho : ops[j]? = some oj := by exact rfl) (hj : oj.dst = some t := by exact rfl) (hv : fr t = .lit undef := by exact rfl) (ht : Nat.blt t J.nt = true := by exact rfl) (hl : Nat.blt d J.nt = true := by exact rfl) : AW J nx fr hp (.ops ops (o :: rest) :: k) := aw_gu hd hg ho hj hv ht hl H
theorem G0 (h : OpG J o fr hp x) (H : GK J nx hp ops k rest (fr.set d x)) (hd : o.dst = some d := by exact rfl) (hg : o.guard = none := by exact rfl) (hl : Nat.blt d J.nt = true := by exact rfl) : GK J nx hp ops k (o :: rest) fr := GK.g h hd hg hl H
theorem G1 (h : OpG J o fr hp x) (H : GK J nx hp ops k rest (fr.set d x)) (hd : o.dst = some d := by exact rfl) (hg : o.guard = some (j, want) := by exact rfl) (ho : ops[j]? = some oj := by exact rfl) (hj : oj.dst = some t := by exact rfl) (hv : fr t = .val boolT b := by exact rfl) (ht : Nat.blt t J.nt = true := by exact rfl) (hw : b = want := by exact rfl) (hl : Nat.blt d J.nt = true := by exact rfl) : GK J nx hp ops k (o :: rest) fr := GK.gi h hd hg ho hj hv ht hw hl H
theorem G2 (H : GK J nx hp ops k rest (fr.set d (.lit undef))) (hd : o.dst = some d := by exact rfl) (hg : o.guard = some (j, want) := by exact rfl) (ho : ops[j]? = some oj := by exact rfl) (hj : oj.dst = some t := by exact rfl) (hv : fr t = .val boolT b := by exact rfl) (ht : Nat.blt t J.nt = true := by exact rfl) (hw : (b == want) = false := by exact rfl) (hl : Nat.blt d J.nt = true := by exact rfl) : GK J nx hp ops k (o :: rest) fr := GK.gn hd hg ho hj hv ht hw hl H
theorem X0 {info : List (Option Nat)} {s : XS} {S : List XS} {pd : List (Nat × HE × Nat)} (h : OpG J o fr s.hp x) (H : XK J ops k info rest (s :: S) (fr.set d x) pd) (hd : o.dst = some d := by exact rfl) (hg : o.guard = none := by exact rfl) (hl : Nat.blt d J.nt = true := by exact rfl) : XK J ops k (some 1 :: info) (o :: rest) (s :: S) fr pd := XK.g h hd hg hl H
theorem mV {y : Operand} {α : Type} {T : GoT α} {x : α} (ho : o.op = .move y := by exact rfl) (hx : fr.ev y = .val T x := by exact rfl) : OpG J o fr hp (.val T x) := g_mv (.inl ho) hx
theorem aV {y : Operand} {α : Type} {T : GoT α} {x : α} (ho : o.op = .assign y := by exact rfl) (hx : fr.ev y = .val T x := by exact rfl) : OpG J o fr hp (.val T x) := g_mv (.inr ho) hx
theorem mP {y : Operand} {n off : Nat} (ho : o.op = .move y := by exact rfl) (hx : fr.ev y = .ptr n off := by exact rfl) : OpG J o fr hp (.ptr n off) := g_mp (.inl ho) hx
theorem aP {y : Operand} {n off : Nat} (ho : o.op = .assign y := by exact rfl) (hx : fr.ev y = .ptr n off := by exact rfl) : OpG J o fr hp (.ptr n off) := g_mp (.inr ho) hx
theorem mO {y : Operand} {n : Nat} (ho : o.op = .move y := by exact rfl) (hx : fr.ev y = .own n := by exact rfl) : OpG J o fr hp (.own n) := g_mo (.inl ho) hx
theorem aO {y : Operand} {n : Nat} (ho : o.op = .assign y := by exact rfl) (hx : fr.ev y = .own n := by exact rfl) : OpG J o fr hp (.own n) := g_mo (.inr ho) hx
theorem mL {y : Operand} {v : Value} (ho : o.op = .move y := by exact rfl) (hx : fr.ev y = .lit v := by exact rfl) : OpG J o fr hp (.lit v) := g_ml (.inl ho) hx
theorem aL {y : Operand} {v : Value} (ho : o.op = .assign y := by exact rfl) (hx : fr.ev y = .lit v := by exact rfl) : OpG J o fr hp (.lit v) := g_ml (.inr ho) hx
theorem mC {y : Operand} {f : FuncId} {l : List Nat} (ho : o.op = .move y := by exact rfl) (hx : fr.ev y = .clo f l := by exact rfl) : OpG J o fr hp (.clo f l) := g_mc (.inl ho) hx
theorem aC {y : Operand} {f : FuncId} {l : List Nat} (ho : o.op = .assign y := by exact rfl) (hx : fr.ev y = .clo f l := by exact rfl) : OpG J o fr hp (.clo f l) := g_mc (.inr ho) hx
theorem mR {y : Operand} {α : Type} {T : GoT α} {x : α} (ho : o.op = .move y := by exact rfl) (hx : fr.ev y = .rptr T x := by exact rfl) : OpG J o fr hp (.rptr T x) := g_mr (.inl ho) hx
theorem mS {y : Operand} {n sz lo len : Nat} (ho : o.op = .move y := by exact rfl) (hx : fr.ev y = .osub n sz lo len := by exact rfl) : OpG J o fr hp (.osub n sz lo len) := g_ms (.inl ho) hx
theorem aS {y : Operand} {n sz lo len : Nat} (ho : o.op = .assign y := by exact rfl) (hx : fr.ev y = .osub n sz lo len := by exact rfl) : OpG J o fr hp (.osub n sz lo len) := g_ms (.inr ho) hx
theorem mF {y : Operand} {P : Program} {α β : Type} {A : GoT α} {B : GoT β} {f : α → β} (ho : o.op = .move y := by exact rfl) (hx : fr.ev y = .fn1 P A B f := by exact rfl) : OpG J o fr hp (.fn1 P A B f) := g_mf1 (.inl ho) hx
theorem mH {y : Operand} {P : Program} {α β γ : Type} {A : GoT α} {A' : GoT β} {B : GoT γ} {f : α → β → γ} (ho : o.op = .move y := by exact rfl) (hx : fr.ev y = .fn2 P A A' B f := by exact rfl) : OpG J o fr hp (.fn2 P A A' B f) := g_mf2 (.inl ho) hx
theorem mX {y : Operand} {x : AV} (ho : o.op = .move y := by exact rfl) (h : (o.op = .move y ∨ o.op = .assign y) → OpG J o fr hp x := by intro k; first | exact g_mv k rfl | exact g_mp k rfl | exact g_mo k rfl | exact g_ml k rfl | exact g_mr k rfl | exact g_mt2 k rfl | exact g_mc k rfl | exact g_me k rfl | exact g_ms k rfl | exact g_mt3 k rfl | exact g_mf1 k rfl | exact g_mf2 k rfl | exact g_mw k rfl | exact g_mi k rfl) : OpG J o fr hp x := h (.inl ho)
theorem aX {y : Operand} {x : AV} (ho : o.op = .assign y := by exact rfl) (h : (o.op = .move y ∨ o.op = .assign y) → OpG J o fr hp x := by intro k; first | exact g_mv k rfl | exact g_mp k rfl | exact g_mo k rfl | exact g_ml k rfl | exact g_mr k rfl | exact g_mt2 k rfl | exact g_mc k rfl | exact g_me k rfl | exact g_ms k rfl | exact g_mt3 k rfl | exact g_mf1 k rfl | exact g_mf2 k rfl | exact g_mw k rfl | exact g_mi k rfl) : OpG J o fr hp x := h (.inr ho)
theorem oK {c x y : Operand} {b : Bool} {z : AV} (ho : o.op = .pick c x y := by exact rfl) (hc : fr.ev c = .val boolT b := by exact rfl) (hz : (bif b then fr.ev x else fr.ev y) = z := by exact rfl) : OpG J o fr hp z := g_pick ho hc hz
theorem e32 {x : Operand} {X Y Z : AV} (ho : o.op = .extract x 2 := by exact rfl) (hx : fr.ev x = .tup3 X Y Z := by exact rfl) : OpG J o fr hp Z := g_x32 ho hx
theorem oN {x : Operand} {t : TypeId} {b : Bool} (ho : o.op = .unOp .not t x := by exact rfl) (hx : fr.ev x = .val boolT b := by exact rfl) : OpG J o fr hp (.val boolT (!b)) := g_not ho hx
variable {α β : Type} {T : GoT α} {S : GoT β} {t' : TypeId} {y z : Operand}
theorem o_lss {X : AV} (h : OpG J o fr hp X := by exact g_lss rfl rfl rfl rfl) : OpG J o fr hp X := h
theorem o_leq {X : AV} (h : OpG J o fr hp X := by exact g_leq rfl rfl rfl rfl) : OpG J o fr hp X := h
theorem o_gtr {X : AV} (h : OpG J o fr hp X := by exact g_gtr rfl rfl rfl rfl) : OpG J o fr hp X := h
theorem o_geq {X : AV} (h : OpG J o fr hp X := by exact g_geq rfl rfl rfl rfl) : OpG J o fr hp X := h
theorem o_eql {X : AV} (h : OpG J o fr hp X := by exact g_eql rfl rfl rfl rfl) : OpG J o fr hp X := h
theorem o_neq {X : AV} (h : OpG J o fr hp X := by exact g_neq rfl rfl rfl rfl) : OpG J o fr hp X := h
theorem o_add {X : AV} (h : OpG J o fr hp X := by first | exact g_add rfl rfl rfl (wrap_eq (by first | omega | (simp; omega))) | exact g_add rfl rfl rfl rfl) : OpG J o fr hp X := h
theorem o_sub {X : AV} (h : OpG J o fr hp X := by first | exact g_sub rfl rfl rfl (wrap_eq (by first | omega | (simp; omega))) | exact g_sub rfl rfl rfl rfl) : OpG J o fr hp X := h
theorem o_mul {X : AV} (h : OpG J o fr hp X := by first | exact g_mul rfl rfl rfl (wrap_eq (by first | omega | (simp; omega))) | exact g_mul rfl rfl rfl rfl) : OpG J o fr hp X := h
variable {get : α → β} {set : α → β → α} {ty n off ft f : Nat} {v : α}
theorem oLb (L : Lens T off S get set) (ht : tyB J.P t S.size S.agg = true) (ho : o.op = .load t y := by exact rfl) (hx : fr.ev y = .ptr n off := by exact rfl) (hn : hp n = .box ty T v := by exact rfl) : OpG J o fr hp (.val S (get v)) := g_load_b ho hx hn L ht
theorem oLs (ho : o.op = .load t y) (hx : fr.ev y = .ptr n 0) (hn : hp n = .box ty T v) (ht : tyB J.P t T.size T.agg = true) : OpG J o fr hp (.val T v) := g_load_b ho hx hn (Lens.self T) ht
theorem oFp {off' : Nat} (hf : fieldB J.P ty f d ft = true) (ho : o.op = .fieldAddr ty y f := by exact rfl) (hx : fr.ev y = .ptr n off := by exact rfl) (e : off + d = off' := by exact rfl) : OpG J o fr hp (.ptr n off') := g_fa_p ho hx hf e
theorem oFr (hf : fieldB J.P ty f off ft = true) (L : Lens T off S get set) (ho : o.op = .fieldAddr ty y f := by exact rfl) (hx : fr.ev y = .rptr T v := by exact rfl) : OpG J o fr hp (.rptr S (get v)) := g_fa_r ho hx hf L
theorem oCl {g : FuncId} {xs : Array Operand} {ts : Array TypeId} {As : List AV} {X : AV} (hc : Tells J.P g As X) (ho : o.op = .call { callee := .value (.func g), args := xs, argTypes := ts }) (hf : fnB J.P g = true) (ha : ArgsOk J fr hp xs.toList As) (hX : X.under0 = true := by exact rfl) : OpG J o fr hp X := g_call hc ho hf ha hX
variable {x y : Code} {c : Operand}
theorem Cf {p : Prop} [Decidable p] (ht : p → AW J nx fr hp (.code x :: k)) (hf : ¬ p → AW J nx fr hp (.code y :: k)) (hc : fr.ev c = .val boolT b := by exact rfl) (hp' : b = decide p := by first | rfl | (rw [decide_eq_decide]; simp only [IntL.toI, id_eq]; omega) | (simp [IntL.toI]; done) | (simp [IntL.toI]; omega)) : AW J nx fr hp (.code (.cond c x y) :: k) := aw_ifc hc hp' ht hf
theorem Ct (h : AW J nx fr hp (.code x :: k)) (hc : fr.ev c = .val boolT b := by exact rfl) (e : b = true := by exact rfl) : AW J nx fr hp (.code (.cond c x y) :: k) := aw_if_t hc e h
theorem Cg (h : AW J nx fr hp (.code y :: k)) (hc : fr.ev c = .val boolT b := by exact rfl) (e : b = false := by exact rfl) : AW J nx fr hp (.code (.cond c x y) :: k) := aw_if_f hc e h
theorem Sp {d : Nat} {p : Prop} [Decidable p] (ht : p → AW J nx (fr.set d (.val boolT true)) hp k) (hf : ¬ p → AW J nx (fr.set d (.val boolT false)) hp k) (hc : fr d = .val boolT b := by exact rfl) (hp' : b = decide p := by first | rfl | (rw [decide_eq_decide]; simp only [IntL.toI, id_eq]; omega) | (simp [IntL.toI]; done) | (simp [IntL.toI]; omega)) : AW J nx fr hp k := aw_splitp hc hp' ht hf
theorem Lp {c : Code} {ι : Type} (nxI : Nat) (F : ι → Fr) (H : ι → Hp) (Inv : ι → Prop) (M : ι → Nat) (i0 : ι) (h0 : Inv i0)
    (round : ∀ i, Inv i → AW J nxI (F i) (H i) (.code c :: .again (Next J nxI F H Inv M i) :: k)) (hk : Nat.ble (max J.kg J.bn) nxI = true := by exact rfl)
    (hf : Fr.le (F i0) fr := by (repeat refine Fr.le_set ?_ (by first | rfl | (simp; done))); exact Fr.le_none _) (hh : Hp.le (H i0) hp := by (repeat refine Hp.le_set ?_ rfl); exact Hp.le_none _) (bf : Fr.below_ nxI (F i0) := by (repeat refine Fr.below_setB ?_ rfl); exact Fr.below_none _) (bh : Hp.below_ nxI (H i0) := by (repeat refine Hp.below_set ?_ (by decide)); exact Hp.below_none _) : AW J nx fr hp (.code (.loop c) :: k) := aw_loopI nxI hk F H Inv M i0 h0 hf hh bf bh round
theorem Nx {ι : Type} {nxI : Nat} {F : ι → Fr} {H : ι → Hp} {Inv : ι → Prop} {M : ι → Nat} {i : ι} (j : ι) (h0 : Inv j) (hm : M j < M i) (hk : Nat.ble (max J.kg J.bn) nxI = true := by exact rfl)
    (hf : Fr.le (F j) fr := by (repeat refine Fr.le_set ?_ (by first | rfl | (simp; done))); exact Fr.le_none _) (hh : Hp.le (H j) hp := by (repeat refine Hp.le_set ?_ rfl); exact Hp.le_none _) (bf : Fr.below_ nxI (F j) := by (repeat refine Fr.below_setB ?_ rfl); exact Fr.below_none _) (bh : Hp.below_ nxI (H j) := by (repeat refine Hp.below_set ?_ (by decide)); exact Hp.below_none _) : AW J nx fr hp (.again (Next J nxI F H Inv M i) :: k) := aw_next j h0 hm hk hf hh bf bh
end
end Go.Ab
namespace Go.Ab
set_option linter.unusedVariables false
set_option linter.unusedSimpArgs false
open Go.RowKit
theorem grow_of_below {w w' : World} (h : Below w.heap.size w w') : ∃ q os, w' = Sort.grow (w.drewN q) os := by
  refine ⟨w'.drawn - w.drawn, w'.heap.extract w.heap.size w'.heap.size, ?_⟩
  have hh : w'.heap = w.heap ++ w'.heap.extract w.heap.size w'.heap.size := by
    apply Array.ext_getElem?
    intro i
    rw [Array.getElem?_append]
    by_cases c : i < w.heap.size
    · rw [if_pos c]; exact h.block i c
    · rw [if_neg c, Array.getElem?_extract]
      by_cases d : i < w'.heap.size
      · rw [if_pos (by omega)]; congr 1; omega
      · rw [if_neg (by omega), Array.getElem?_eq_none (by omega)]
  have h1 := h.os
  have h2 := h.tape
  have h3 := h.output
  have h4 := h.drawn
  cases w; cases w'
  simp only [Sort.grow, World.drewN] at *
  subst h1; subst h2; subst h3
  congr 1
  omega
section
variable {α : Type} {T : GoT α} {enc : α → List Value} {ok : α → Prop}
def Flat1 (T : GoT α) (enc : α → List Value) (ok : α → Prop) : Prop := ∀ U N w x cs, T.rel U N w x cs ↔ cs = enc x ∧ ok x
theorem flat_all (hF : Flat1 T enc ok) {U N : Nat → Prop} {w : World} : ∀ {l : List α} {cs : List Value}, relAll T U N w l cs ↔ cs = (l.map enc).flatten ∧ ∀ x ∈ l, ok x
  | [], cs => by simp [relAll]
  | x :: l, cs => by
    constructor
    · rintro ⟨c1, c2, rfl, h1, h2⟩
      obtain ⟨rfl, hx⟩ := (hF _ _ _ _ _).1 h1
      obtain ⟨rfl, hl⟩ := (flat_all hF).1 h2
      refine ⟨by simp, fun y hy => ?_⟩
      rcases List.mem_cons.1 hy with e | hy
      · rw [e]; exact hx
      · exact hl y hy
    · rintro ⟨rfl, hl⟩
      exact ⟨enc x, (l.map enc).flatten, by simp, (hF _ _ _ _ _).2 ⟨rfl, hl x (by simp)⟩, (flat_all hF).2 ⟨rfl, fun y hy => hl y (by simp [hy])⟩⟩
theorem flatten_get {β : Type} {f : β → List Value} {k : Nat} (h0 : 0 < k) (hk : ∀ x, (f x).length = k) : ∀ (l : List β) (t : Nat), (l.map f).flatten[t]? = (l[t / k]?).bind fun x => (f x)[t % k]?
  | [], t => by simp
  | x :: l, t => by
    rw [List.map_cons, List.flatten_cons]
    by_cases c : t < k
    · rw [List.getElem?_append_left (by rw [hk]; exact c), Nat.div_eq_of_lt c, Nat.mod_eq_of_lt c]; rfl
    · rw [List.getElem?_append_right (by rw [hk]; omega), hk, flatten_get h0 hk l (t - k)]
      have e1 : t / k = (t - k) / k + 1 := by
        rw [Nat.div_eq_sub_div h0 (by omega)]
      have e2 : t % k = (t - k) % k := by rw [Nat.mod_eq_sub_mod (by omega)]
      rw [e1, e2]; rfl
theorem flatK_list {β : Type} [Inhabited β] {f : β → List Value} {k : Nat} (h0 : 0 < k) (hk : ∀ x, (f x).length = k) (d : Array β) : (Sort.flatK f k d).toList = (d.toList.map f).flatten := by
  apply List.ext_getElem?
  intro t
  rw [flatten_get h0 hk]
  by_cases c : t < d.size * k
  · have hd : t / k < d.size := (Nat.div_lt_iff_lt_mul h0).2 c
    have h1 := Sort.get_flatK f k d t c
    have hs : t < (Sort.flatK f k d).size := by rw [Sort.size_flatK]; exact c
    rw [getElem!_pos (Sort.flatK f k d) t hs, getElem!_pos d (t / k) hd] at h1
    have hm : t % k < (f d[t / k]).length := by rw [hk]; exact Nat.mod_lt _ h0
    rw [getElem!_pos (f d[t / k]) (t % k) hm] at h1
    rw [List.getElem?_eq_getElem (by simpa using hs), List.getElem?_eq_getElem (by simpa using hd)]
    simp only [Option.bind_some, Array.getElem_toList]
    rw [List.getElem?_eq_getElem hm, h1]
  · have hd : ¬ t / k < d.size := fun h => c ((Nat.div_lt_iff_lt_mul h0).1 h)
    rw [List.getElem?_eq_none (by simp; omega), List.getElem?_eq_none (by simp; omega)]; rfl
theorem sorted_block {β : Type} [Inhabited β] {f : β → List Value} {k : Nat} (h0 : 0 < k) (hk : ∀ x, (f x).length = k) {w : World} {g n : Nat} {d : Array β} {os : Array Obj} {cur : Array Value} {e : TypeId} (hg : w.heap[g]? = some (.cells cur e (0, 0))) (hs : d.size * k ≤ cur.size) :
    (Proofs.sortWorldK f k w g 0 n d os).heap[g]? = some (.cells ((d.toList.map f).flatten ++ cur.toList.drop (d.size * k)).toArray e (0, 0)) ∧
    BelowX (fun b => b = g) w (Proofs.sortWorldK f k w g 0 n d os) := by
  have hlt := (Array.getElem?_eq_some_iff.1 hg).1
  have hsz : (Sort.ahead w n).heap.size = w.heap.size := rfl
  have hheap : (Proofs.sortWorldK f k w g 0 n d os).heap = w.heap.modify g (Sort.onCells (Sort.putCells id 0 (Sort.flatK f k d))) ++ os := rfl
  refine ⟨?_, rfl, rfl, rfl, ?_, fun b hb hne => ?_, Nat.le_add_right _ _⟩
  · rw [hheap, Array.getElem?_append_left (by simpa using hlt), Array.getElem?_modify, if_pos rfl, hg]
    simp only [Option.map_some, Sort.onCells]
    congr 2
    apply Array.ext'
    rw [List.toList_toArray]
    apply List.ext_getElem?
    intro t
    have hfl := flatK_list h0 hk d
    rw [← hfl]
    have hF : (Sort.flatK f k d).size = d.size * k := Sort.size_flatK _ _ _
    unfold Sort.putCells
    rw [Array.getElem?_toList, Array.getElem?_mapIdx]
    by_cases c : t < d.size * k
    · rw [List.getElem?_append_left (by simpa using c), Array.getElem?_eq_getElem (by omega)]
      have hs2 : t < (Sort.flatK f k d).size := by omega
      simp only [Option.map_some]
      rw [if_pos ⟨Nat.zero_le _, by omega⟩, Array.getElem?_toList, Array.getElem?_eq_getElem hs2, Nat.sub_zero, getElem!_pos (Sort.flatK f k d) t hs2]; rfl
    · rw [List.getElem?_append_right (by simp; omega)]
      simp only [Array.length_toList, hF, List.getElem?_drop]
      rw [show d.size * k + (t - d.size * k) = t by omega, Array.getElem?_toList]
      cases hc : cur[t]? with
      | none => rfl
      | some v => simp only [Option.map_some]; rw [if_neg (by omega)]
  · rw [hheap]; simp
  · rw [hheap, Array.getElem?_append_left (by simpa using hb), Array.getElem?_modify, if_neg (fun h => hne h.symm)]
open Go.Shelf in
theorem sort_tells {P : Program} {ρ : Ren} (L : Proofs.SlLaysF0.n6 P ρ) (hF : Flat1 T enc ok) (hlen : ∀ x, ok x → (enc x).length = T.size) (hone : ∀ x, ok x → ∀ v ∈ enc x, v.oneCell' = true) (hag : T.agg = true) {x0 : α} (hx0 : ok x0)
    (ht : tyB P (ρ.t 24) T.size true = true) {cf : α → α → Int} (hirr : ∀ x, ok x → ¬ cf x x < 0) (htr : ∀ x y z, ok x → ok y → ok z → cf x y < 0 → cf y z < 0 → cf x z < 0) (hntr : ∀ x y z, ok x → ok y → ok z → ¬ cf x y < 0 → ¬ cf y z < 0 → ¬ cf x z < 0)
    {g : FuncId} (hg : fnB P g = true) (hcmp : ∀ x y, Tells P g [.val T x, .val T y] (.val i64T (cf x y))) {e : TypeId} {l r : List α} (hn : l.length < 1000000000)
    (hsort : ∀ r', r'.Perm l → r'.Pairwise (fun a b => ¬ cf b a < 0) → r' = r) : TellsM P (ρ.f 6) (.row e T l) [.own 0, .clo g []] (.lit (.tuple #[])) (.row e T r) := by
  intro ext p w vs hext hgr hrow hargs
  obtain ⟨hl2, hargs⟩ := hargs.spec
  match vs, hl2 with
  | [v0, v1], _ =>
  have hv0 : v0 = p := hargs 0 _ _ rfl rfl
  have hv1 : v1 = .func (.func g) #[] #[] := hargs 1 _ _ rfl rfl
  subst hv0; subst hv1
  obtain ⟨xs, hown, hall⟩ := hrow
  obtain ⟨hxs, hok⟩ := (flat_all hF).1 hall
  rcases hown.2 with ⟨hp, hl0⟩ | ⟨gb, cap, cur, hp, _, hheap, hncap, hcap, hcs, htk⟩
  · 
    obtain rfl : l = [] := List.length_eq_zero_iff.1 hl0
    have hr : r = [] := (hsort [] (List.Perm.refl _) List.Pairwise.nil).symm
    subst hr
    subst hp
    have := Proofs.AnyF.slices_SortFunc_none L none 0 (.func (.func g) #[] #[]) w
    refine this.mono ?_
    rintro _ w' ⟨rfl, rfl⟩
    exact ⟨BelowX.refl _ _, ⟨[], ⟨by simp, .inl ⟨rfl, rfl⟩⟩, rfl⟩, rfl⟩
  · subst hp
    let S := { x : α // ok x }
    letI : Inhabited S := ⟨⟨x0, hx0⟩⟩
    let encS : S → List Value := fun s => enc s.1
    have hkS : ∀ s : S, (encS s).length = T.size := fun s => hlen s.1 s.2
    obtain ⟨lS, hlS⟩ : ∃ lS : List S, lS.map (·.1) = l := ⟨l.attachWith ok hok, List.attachWith_map_subtype_val hok⟩
    have hsz : lS.length = l.length := by rw [← hlS]; simp
    have hmapS : ∀ q : List S, q.map encS = (q.map (·.1)).map enc := fun q => by rw [List.map_map]; rfl
    have hlt := (Array.getElem?_eq_some_iff.1 hheap).1
    have hcsz : lS.length * T.size ≤ cur.size := by rw [hcs, hsz]; exact Nat.mul_le_mul_right _ hncap
    have hH : Sort.HoldsK encS T.size w gb 0 lS.toArray := fun j hj => by
      rw [Sort.size_flatK] at hj
      have hj : j < lS.length * T.size := by simpa using hj
      have hfl := flatK_list T.pos hkS lS.toArray
      rw [List.toList_toArray, hmapS, hlS, ← hxs, ← htk] at hfl
      have hs2 : j < (Sort.flatK encS T.size lS.toArray).size := by rw [Sort.size_flatK]; simpa using hj
      refine ⟨?_, ?_⟩
      · rw [Nat.zero_add, cell_of_row w gb j cur e (0, 0) hheap, getElem!_pos (Sort.flatK encS T.size lS.toArray) j hs2]
        have h1 : (Sort.flatK encS T.size lS.toArray).toList[j]? = (cur.toList.take (l.length * T.size))[j]? := by rw [hfl]
        rw [List.getElem?_take, if_pos (by rw [← hsz]; exact hj), Array.getElem?_toList, Array.getElem?_toList, Array.getElem?_eq_getElem hs2] at h1
        rw [← h1]; rfl
      · unfold World.frozen?
        simp [hheap]
    have hC : Proofs.CmpLays P g #[] encS T.size (fun x y => cf x.1 y.1) gb 0 lS.toArray.size w := fun m os dk hdk x y => by
      generalize hW : Proofs.sortWorldK encS T.size w gb 0 m dk os = W
      have hx : T.val (fun _ => False) noN W x.1 (.agg (encS x).toArray) := ⟨encS x, (hF _ _ _ _ _).2 ⟨rfl, x.2⟩, .inl ⟨hag, rfl⟩⟩
      have hy : T.val (fun _ => False) noN W y.1 (.agg (encS y).toArray) := ⟨encS y, (hF _ _ _ _ _).2 ⟨rfl, y.2⟩, .inl ⟨hag, rfl⟩⟩
      have := hcmp x.1 y.1 (fun _ => False) W [.agg (encS x).toArray, .agg (encS y).toArray] (fun b hb => hb.elim) ⟨hx, hy, trivial⟩
      have e0 : #[Value.agg (encS x).toArray, Value.agg (encS y).toArray] ++ #[] = [Value.agg (encS x).toArray, Value.agg (encS y).toArray].toArray := by simp
      rw [e0]
      refine this.mono fun en w' he => ?_
      cases en with
      | returned v =>
        obtain ⟨hb, hv⟩ := he
        obtain ⟨q, os', hw'⟩ := grow_of_below hb
        exact ⟨by rw [(val_int.1 hv).1], q, os', hw'⟩
      | panicked c => exact he.elim
      | outgrown => exact he.elim
    have hO : Sort.SWO (Proofs.ltOf fun x y : S => cf x.1 y.1) := by
      refine ⟨fun x => ?_, fun x y z h1 h2 => ?_, fun x y z h1 h2 => ?_⟩
      · exact decide_eq_false (hirr x.1 x.2)
      · exact decide_eq_true (htr x.1 y.1 z.1 x.2 y.2 z.2 (of_decide_eq_true h1) (of_decide_eq_true h2))
      · exact decide_eq_false (hntr x.1 y.1 z.1 x.2 y.2 z.2 (of_decide_eq_false h1) (of_decide_eq_false h2))
    obtain ⟨fn, h1, h2, h3⟩ := fnB_spec hg
    have eg : ∀ args w, (callFunc g args).run P w = .ok (.enter g args) w := fun args w => by
      have hne : fn.name ≠ "runtime.NumGoroutine" := by simpa using h3
      have hbn : fn.body ≠ none := by intro e; rw [e] at h2; cases h2
      simp [callFunc, h1, hne, hbn, Sem.run_bind]
    have key := Proofs.AnyQ.slices_SortFunc L T.size (fun w => (tyB_spec ht w).2.1) (fun w => (tyB_spec ht w).2.2) encS hkS (fun s => hone s.1 s.2) (fun x y => cf x.1 y.1) hO g #[] gb 0 cap lS.toArray w eg hC hH hlt (by simp; omega)
    rw [show lS.toArray.size = l.length by simpa using hsz] at key
    refine Calls.mono key ?_
    rintro _ w' ⟨rfl, d', n, os, hperm, hsorted, rfl⟩
    have hdsz : d'.size = l.length := by rw [hperm.1]; simpa using hsz
    have hp2 : d'.toList.Perm lS := by
      have := hperm.2.2
      have e1 : d'.extract 0 l.length = d' := by rw [← hdsz]; exact Array.extract_size
      have e2 : lS.toArray.extract 0 l.length = lS.toArray := by rw [← hsz]; simp
      rw [e1, e2] at this
      simpa using this
    have hr : d'.toList.map (·.1) = r := by
      refine hsort _ ?_ ?_
      · rw [← hlS]; exact hp2.map _
      · rw [List.pairwise_map]
        rw [List.pairwise_iff_getElem]
        intro i j hi hj hij
        have hi' : i < d'.size := by simpa using hi
        have hj' : j < d'.size := by simpa using hj
        have := hsorted i j (Nat.zero_le _) hij (by omega)
        rw [getElem!_pos d' i hi', getElem!_pos d' j hj'] at this
        have := of_decide_eq_false this
        simpa using this
    obtain ⟨hb1, hb2⟩ := sorted_block (n := n) (os := os) T.pos hkS hheap (d := d') (by rw [hdsz, ← hsz]; exact hcsz)
    have hgN : gN (.slice (some ⟨gb, 0, none⟩) l.length cap) = fun b => b = gb := by
      funext b; unfold gN blkOf; exact propext ⟨fun h => (Option.some.inj h).symm, fun h => by rw [h]⟩
    have hrl : r.length = l.length := by rw [← hr]; simpa using hdsz
    have hflat : (d'.toList.map encS).flatten = (r.map enc).flatten := by rw [hmapS, hr]
    have hfl2 : ((r.map enc).flatten).length = l.length * T.size := by
      have := Sort.size_flatK encS T.size d'
      rw [← hflat, ← flatK_list T.pos hkS d']; rw [Array.length_toList, this, hdsz]
    have hokr : ∀ x ∈ r, ok x := fun x hx => by
      rw [← hr] at hx
      obtain ⟨s, _, rfl⟩ := List.mem_map.1 hx
      exact s.2
    refine ⟨by rw [hgN]; exact hb2, ⟨(r.map enc).flatten, ⟨by rw [hfl2, hrl], .inr ⟨gb, cap, _, by rw [hrl], Nat.zero_le _, hb1, by rw [hrl]; exact hncap, hcap, ?_, ?_⟩⟩, (flat_all hF).2 ⟨rfl, hokr⟩⟩, rfl⟩
    · rw [hflat]; simp only [List.size_toArray, List.length_append, List.length_drop, hfl2, Array.length_toList, hdsz, hcs]
      have := Nat.mul_le_mul_right T.size hncap
      omega
    · rw [hflat, List.toList_toArray, hrl, ← hfl2, List.take_left' rfl]
end
end Go.Ab
namespace Go.Ab
set_option linter.unusedVariables false
set_option linter.unusedSimpArgs false
open Go.RowKit
abbrev Light {H : Type} (P : Program) (t : TypeId) (d : DataW H) : Prop := (d.weights P t).all (· ≤ reachBytes) = true
def KT {α : Type} (_ : α) : Prop := True
def KAll {α : Type} (bytes : Nat) (K : α → Prop) (l : List α) : Prop := l.length * bytes ≤ 140737488351232 ∧ ∀ x ∈ l, K x
def KP {α β : Type} (K : α → Prop) (K' : β → Prop) (x : α × β) : Prop := K x.1 ∧ K' x.2
structure Opens (P : Program) (t : TypeId) {α : Type} (T : GoT α) (K : α → Prop) : Prop where
  rd : ∀ {H : Type} {enc : TypeId × Value → H} {W : World} {sp : Nat → Bool} {held : Bool} {fuel : Nat} {cs : List Value} {x : DataW H × List MemPlace}, DataW.trod enc P W 0 sp held fuel t cs = some x → Light P t x.1 → ∃ y, T.rel noN noN W y cs ∧ K y
section
variable {P : Program} {t e : TypeId} {α β : Type} {T : GoT α} {S : GoT β} {K : α → Prop} {K2 : β → Prop}
theorem trod_int {k : IntKind} {H : Type} {enc : TypeId × Value → H} {W : World} {sp : Nat → Bool} {held : Bool} {fuel : Nat} {cs : List Value} {x : DataW H × List MemPlace} (hu : P.underlying t = some (.int k)) (h : DataW.trod enc P W 0 sp held fuel t cs = some x) :
    ∃ n, cs = [.int k n] ∧ IntKind.InR k n := by
  cases fuel with
  | zero => simp [DataW.trod] at h
  | succ f =>
    unfold DataW.trod at h
    rw [hu] at h
    match cs, h with
    | [.int k' n], h =>
      simp only at h
      split at h
      · rename_i c
        obtain ⟨rfl, hw⟩ := c
        refine ⟨n, rfl, ?_⟩
        simp only [Lit.wf, Bool.and_eq_true, decide_eq_true_eq] at hw
        exact hw
      · cases h
theorem op_int {k : IntKind} (hu : P.underlying t = some (.int k)) : Opens P t (intT k) KT := ⟨fun h _ => by
  obtain ⟨n, rfl, hn⟩ := trod_int hu h
  exact ⟨n, ⟨rfl, hn⟩, trivial⟩⟩
theorem op_u8 (hu : P.underlying t = some (.int .u8)) : Opens P t u8T KT := ⟨fun h _ => by
  obtain ⟨n, rfl, hn⟩ := trod_int hu h
  simp [IntKind.InR, IntKind.min, IntKind.max, IntKind.signed, IntKind.bits] at hn
  refine ⟨UInt8.ofNat n.toNat, ⟨?_, trivial⟩, trivial⟩
  show [Value.int .u8 n] = [Value.int .u8 ((UInt8.ofNat n.toNat).toNat : Nat)]
  rw [UInt8.toNat_ofNat_of_lt' (by show n.toNat < 256; omega), Int.toNat_of_nonneg hn.1]⟩
theorem op_u32 (hu : P.underlying t = some (.int .u32)) : Opens P t u32T KT := ⟨fun h _ => by
  obtain ⟨n, rfl, hn⟩ := trod_int hu h
  simp [IntKind.InR, IntKind.min, IntKind.max, IntKind.signed, IntKind.bits] at hn
  refine ⟨UInt32.ofNat n.toNat, ⟨?_, trivial⟩, trivial⟩
  show [Value.int .u32 n] = [Value.int .u32 ((UInt32.ofNat n.toNat).toNat : Nat)]
  rw [UInt32.toNat_ofNat_of_lt' (by show n.toNat < 4294967296; omega), Int.toNat_of_nonneg hn.1]⟩
theorem op_u64 (hu : P.underlying t = some (.int .u64)) : Opens P t u64T KT := ⟨fun h _ => by
  obtain ⟨n, rfl, hn⟩ := trod_int hu h
  simp [IntKind.InR, IntKind.min, IntKind.max, IntKind.signed, IntKind.bits] at hn
  refine ⟨UInt64.ofNat n.toNat, ⟨?_, trivial⟩, trivial⟩
  show [Value.int .u64 n] = [Value.int .u64 ((UInt64.ofNat n.toNat).toNat : Nat)]
  rw [UInt64.toNat_ofNat_of_lt' (by show n.toNat < 18446744073709551616; omega), Int.toNat_of_nonneg hn.1]⟩
theorem cells_ty {n : Nat} {g : Bool} (h : tyB P t n g = true) : P.cellsOf t = n := by
  obtain ⟨i, h1, h2⟩ := (tyB_spec h default).1
  simp [Program.cellsOf, h1, h2]
theorem mapM_mem {γ δ : Type} {f : γ → Option δ} : ∀ {l : List γ} {r : List δ}, l.mapM f = some r → ∀ x ∈ l, ∃ y ∈ r, f x = some y
  | [], _, _, x, hx => by cases hx
  | z :: l, r, h, x, hx => by
    rw [List.mapM_cons] at h
    cases hz : f z with
    | none => rw [hz] at h; cases h
    | some y =>
      rw [hz] at h
      cases hl : l.mapM f with
      | none => simp [hl] at h
      | some r' =>
        simp [hl] at h
        subst h
        rcases List.mem_cons.1 hx with e | hx
        · rw [e]; exact ⟨y, by simp, hz⟩
        · obtain ⟨y', h1, h2⟩ := mapM_mem hl x hx
          exact ⟨y', by simp [h1], h2⟩
theorem mapM_len {γ δ : Type} {f : γ → Option δ} : ∀ {l : List γ} {r : List δ}, l.mapM f = some r → r.length = l.length
  | [], r, h => by simp at h; subst h; rfl
  | z :: l, r, h => by
    rw [List.mapM_cons] at h
    cases hz : f z with
    | none => rw [hz] at h; cases h
    | some y =>
      rw [hz] at h
      cases hl : l.mapM f with
      | none => simp [hl] at h
      | some r' =>
        simp [hl] at h
        subst h
        simp [mapM_len hl]
theorem light_all {H : Type} {e : TypeId} : ∀ {ds : List (DataW H)}, (DataW.weightsAll P e ds).all (· ≤ reachBytes) = true → ∀ d ∈ ds, Light P e d
  | [], _, d, hd => by cases hd
  | c :: ds, h, d, hd => by
    unfold DataW.weightsAll at h
    rw [List.all_append, Bool.and_eq_true] at h
    rcases List.mem_cons.1 hd with e | hd
    · rw [e]; exact h.1
    · exact light_all h.2 d hd
theorem light_each {H γ : Type} {ty : γ → TypeId} {f : γ → Option (DataW H × List MemPlace)} : ∀ {l : List γ} {r : List (DataW H × List MemPlace)}, l.mapM f = some r → (DataW.weightsEach P (l.map ty) (r.map (·.1))).all (· ≤ reachBytes) = true → ∀ x ∈ l, ∃ z, f x = some z ∧ Light P (ty x) z.1
  | [], _, _, _, x, hx => by cases hx
  | c :: l, r, h, hw, x, hx => by
    rw [List.mapM_cons] at h
    cases hz : f c with
    | none => rw [hz] at h; cases h
    | some y =>
      rw [hz] at h
      cases hl : l.mapM f with
      | none => simp [hl] at h
      | some r' =>
        simp [hl] at h
        subst h
        rw [List.map_cons, List.map_cons] at hw
        unfold DataW.weightsEach at hw
        rw [List.all_append, Bool.and_eq_true] at hw
        rcases List.mem_cons.1 hx with e | hx
        · rw [e]; exact ⟨y, hz, hw.1⟩
        · exact light_each hl hw.2 x hx
theorem op_slice {bytes : Nat} (hO : Opens P e T K) (hs : sliceB P t e T.size = true) (hby : P.bytesOf e = bytes) : Opens P t (sl T) (KAll bytes K) := ⟨fun {H enc W sp held fuel cs x} h hw => by
  have hu := (sliceB_spec hs W).1
  have hcl : P.cellsOf e = T.size := by
    obtain ⟨i, h1, h2⟩ := (sliceB_spec hs W).2.2
    simp [Program.cellsOf, h1, h2]
  cases fuel with
  | zero => simp [DataW.trod] at h
  | succ f =>
    unfold DataW.trod at h
    rw [hu] at h
    match cs, h with
    | [.slice none 0 0], _ => exact ⟨[], ⟨none, 0, rfl, Nat.le_refl _, by unfold maxLen; omega, fun h => absurd rfl h⟩, by simp, fun x hx => by cases hx⟩
    | [.slice (some a) len cap], h =>
      simp only at h
      split at h
      · rename_i c
        cases hm : (List.range len).mapM (fun i => (W.cells? 0 (a.add (i * P.cellsOf e)) (P.cellsOf e)).bind (DataW.trod enc P W 0 sp held f e)) with
        | none => rw [hm] at h; cases h
        | some elems =>
          rw [hm] at h
          obtain ⟨rest, _, hx⟩ := Option.map_eq_some_iff.1 h
          subst hx
          have hw : ((DataW.slice (elems.map (·.1)) (rest.map (·.1))).weights P t).all (· ≤ reachBytes) = true := hw
          unfold DataW.weights at hw
          rw [hu] at hw
          simp only [List.all_cons, List.all_append, Bool.and_eq_true, decide_eq_true_eq, List.length_map] at hw
          obtain ⟨hw1, hw2, _⟩ := hw
          have hel : elems.length = len := by rw [mapM_len hm, List.length_range]
          have hwl : len * bytes ≤ 140737488351232 := by
            rw [hby, hel] at hw1
            have : len * bytes ≤ (len + rest.length) * bytes := Nat.mul_le_mul_right _ (by omega)
            have h0 : reachBytes = 140737488351232 := rfl
            omega
          have hall : ∀ i, i < len → ∃ y ds, (T.rel noN noN W y ds ∧ K y) ∧ ∀ j v, ds[j]? = some v → W.cell? ((a.add (i * T.size)).add j) = some v := fun i hi => by
            obtain ⟨z, hzm, hz⟩ := mapM_mem hm i (by simpa using hi)
            obtain ⟨ds, h1, h2⟩ := Option.bind_eq_some_iff.1 hz
            obtain ⟨y, hy, hk⟩ := hO.rd h2 (light_all hw2 _ (List.mem_map_of_mem hzm))
            refine ⟨y, ds, ⟨hy, hk⟩, fun j v hj => ?_⟩
            rw [hcl] at h1
            unfold World.cells? at h1
            rw [if_pos (Nat.zero_le _)] at h1
            have hlen := T.len hy
            have hj' : j < T.size := by rw [← hlen]; exact (List.getElem?_eq_some_iff.1 hj).1
            have key : ∀ {n : Nat} {r : List Value}, (List.range n).mapM (fun i_1 => W.cell? ((a.add (i * T.size)).add i_1)) = some r → ∀ j v, r[j]? = some v → W.cell? ((a.add (i * T.size)).add j) = some v := by
              intro n
              induction n with
              | zero => intro r hr j v hv; simp at hr; subst hr; simp at hv
              | succ n ih =>
                intro r hr j v hv
                rw [List.range_succ, List.mapM_append] at hr
                cases hr1 : (List.range n).mapM (fun i_1 => W.cell? ((a.add (i * T.size)).add i_1)) with
                | none => rw [hr1] at hr; cases hr
                | some r1 =>
                  rw [hr1] at hr
                  cases hc : W.cell? ((a.add (i * T.size)).add n) with
                  | none => simp [hc] at hr
                  | some u =>
                    simp [hc] at hr
                    subst hr
                    have hl1 : r1.length = n := by
                      have : ∀ {l : List Nat} {r : List Value}, l.mapM (fun i_1 => W.cell? ((a.add (i * T.size)).add i_1)) = some r → r.length = l.length := by
                        intro l
                        induction l with
                        | nil => intro r hr; simp at hr; subst hr; rfl
                        | cons z l ih =>
                          intro r hr
                          rw [List.mapM_cons] at hr
                          cases hz : W.cell? ((a.add (i * T.size)).add z) with
                          | none => simp [hz] at hr
                          | some y =>
                            cases hl : l.mapM (fun i_1 => W.cell? ((a.add (i * T.size)).add i_1)) with
                            | none => simp [hz, hl] at hr
                            | some r' => simp [hz, hl] at hr; subst hr; simp [ih hl]
                      simpa using this hr1
                    by_cases hjn : j < n
                    · rw [List.getElem?_append_left (by omega)] at hv
                      exact ih hr1 j v hv
                    · rw [List.getElem?_append_right (by omega)] at hv
                      have : j = n := by
                        have := (List.getElem?_eq_some_iff.1 hv).1
                        simp at this; omega
                      subst this
                      simp [hl1] at hv
                      subst hv; exact hc
            exact key h1 j v hj
          have build : ∀ n, n ≤ len → ∃ l ds, l.length = n ∧ (relAll T noN noN W l ds ∧ ∀ x ∈ l, K x) ∧ ∀ j v, ds[j]? = some v → W.cell? (a.add j) = some v := by
            intro n
            induction n with
            | zero => intro _; exact ⟨[], [], rfl, ⟨rfl, fun x hx => by cases hx⟩, fun j v h => by simp at h⟩
            | succ n ih =>
              intro hn
              obtain ⟨l, ds, h1, ⟨h2, hkl⟩, h3⟩ := ih (by omega)
              obtain ⟨y, ds', ⟨h4, hky⟩, h5⟩ := hall n (by omega)
              refine ⟨l ++ [y], ds ++ ds', by simp [h1], ⟨h2.append ⟨ds', [], by simp, h4, rfl⟩, fun x hx => ?_⟩, fun j v hj => ?_⟩
              · rcases List.mem_append.1 hx with hx | hx
                · exact hkl x hx
                · rw [List.mem_singleton.1 hx]; exact hky
              have hdl : ds.length = n * T.size := by rw [h2.len, h1]
              by_cases c : j < ds.length
              · rw [List.getElem?_append_left c] at hj; exact h3 j v hj
              · rw [List.getElem?_append_right (by omega)] at hj
                have := h5 _ v hj
                rw [add_of_add] at this
                rwa [show n * T.size + (j - ds.length) = j by omega] at this
          obtain ⟨l, ds, h1, ⟨h2, hk⟩, h3⟩ := build len (Nat.le_refl _)
          exact ⟨l, ⟨some a, cap, by rw [h1], by rw [h1]; exact c.2.1, c.2.2, fun _ => ⟨a, ds, rfl, fun h => h, h2, h3⟩⟩, by rw [h1]; exact hwl, hk⟩
      · cases h⟩
theorem op_arr {n : Nat} {hn : 0 < n} (hO : Opens P e T K) (ha : arrB P t n e T.size = true) (ht : tyB P t (n * T.size) true = true) : Opens P t (arrT n hn T) KT := ⟨fun {H enc W sp held fuel cs x} h hw => by
  obtain ⟨hu, hsz⟩ := arrB_spec ha W
  have hcl : P.cellsOf e = T.size := by
    unfold arrB at ha
    rw [Bool.and_eq_true] at ha
    have h2 : (P.info? e).map (·.size) = some T.size := by simpa using ha.2
    obtain ⟨i, h1, h2⟩ := Option.map_eq_some_iff.1 h2
    simp [Program.cellsOf, h1, h2]
  cases fuel with
  | zero => simp [DataW.trod] at h
  | succ f =>
    unfold DataW.trod at h
    rw [hu] at h
    simp only at h
    split at h
    · rename_i hlen
      cases hm : (List.range n).mapM (fun i => DataW.trod enc P W 0 sp held f e ((cs.drop (i * P.cellsOf e)).take (P.cellsOf e))) with
      | none => rw [hm] at h; cases h
      | some xs =>
        rw [hm] at h
        have hx : x = (DataW.agg (xs.map (·.1)), xs.flatMap (·.2)) := (Option.some.inj h).symm
        subst hx
        have hw : ((DataW.agg (xs.map (·.1))).weights P t).all (· ≤ reachBytes) = true := hw
        unfold DataW.weights at hw
        rw [hu] at hw
        have hall : ∀ i, i < n → ∃ y, T.rel noN noN W y ((cs.drop (i * T.size)).take T.size) := fun i hi => by
          obtain ⟨z, hzm, hz⟩ := mapM_mem hm i (by simpa using hi)
          rw [hcl] at hz
          obtain ⟨y, hy, _⟩ := hO.rd hz (light_all hw _ (List.mem_map_of_mem hzm))
          exact ⟨y, hy⟩
        have build : ∀ m, m ≤ n → ∃ l : List α, l.length = m ∧ (cs.take (m * T.size)).length = m * T.size ∧ relAll T noN noN W l (cs.take (m * T.size)) := by
          intro m
          induction m with
          | zero => intro _; exact ⟨[], rfl, by simp, by simp [relAll]⟩
          | succ m ih =>
            intro hm
            obtain ⟨l, h1, h2, h3⟩ := ih (by omega)
            obtain ⟨y, hy⟩ := hall m (by omega)
            have e : cs.take ((m + 1) * T.size) = cs.take (m * T.size) ++ (cs.drop (m * T.size)).take T.size := by
              rw [Nat.add_mul, Nat.one_mul, List.take_add]
            refine ⟨l ++ [y], by simp [h1], ?_, ?_⟩
            · rw [e, List.length_append, h2, T.len hy, Nat.add_mul, Nat.one_mul]
            · rw [e]; exact h3.append ⟨_, [], by simp, hy, rfl⟩
        obtain ⟨l, h1, h2, h3⟩ := build n (Nat.le_refl _)
        have hcs : cs.length = n * T.size := by rw [hlen, cells_ty ht]
        rw [List.take_of_length_le (by omega)] at h3
        exact ⟨l, ⟨h1, h3⟩, trivial⟩
    · cases h⟩
def OpF (P : Program) (s : TypeId) (k off : Nat) {α : Type} (T : GoT α) (K : α → Prop) : Prop :=
  ∀ {H : Type} {enc : TypeId × Value → H} {W : World} {sp : Nat → Bool} {held : Bool} {fuel : Nat} {cs : List Value} {fs : Array Field}, P.underlying s = some (.struct fs) →
    (∀ fd ∈ fs.toList, ∃ z, DataW.trod enc P W 0 sp held fuel fd.type ((cs.drop fd.offset).take (P.cellsOf fd.type)) = some z ∧ Light P fd.type z.1) → (cs.drop off).length = T.size → ∃ y, T.rel noN noN W y (cs.drop off) ∧ K y
theorem field_read {s : TypeId} {k off : Nat} {ft : TypeId} (hf : fieldB P s k off ft = true) {H : Type} {enc : TypeId × Value → H} {W : World} {sp : Nat → Bool} {held : Bool} {fuel : Nat} {cs : List Value} {fs : Array Field} (hu : P.underlying s = some (.struct fs))
    (h : ∀ fd ∈ fs.toList, ∃ z, DataW.trod enc P W 0 sp held fuel fd.type ((cs.drop fd.offset).take (P.cellsOf fd.type)) = some z ∧ Light P fd.type z.1) : ∃ z, DataW.trod enc P W 0 sp held fuel ft ((cs.drop off).take (P.cellsOf ft)) = some z ∧ Light P ft z.1 := by
  obtain ⟨fs', fd, h1, h2, h3, h4⟩ := fieldB_spec hf
  obtain rfl : fs = fs' := by rw [hu] at h1; injection h1 with h1; injection h1
  have := h fd (by
    obtain ⟨hk, e⟩ := Array.getElem?_eq_some_iff.1 h2
    rw [← e]; simp)
  rw [h3, h4] at this; exact this
theorem opf_last {s : TypeId} {k off : Nat} {ft : TypeId} {g : Bool} (hf : fieldB P s k off ft = true) (ht : tyB P ft T.size g = true) (hO : Opens P ft T K) : OpF P s k off T K := fun {H enc W sp held fuel cs fs} hu h hl => by
  obtain ⟨z, hz, hw⟩ := field_read hf hu h
  rw [cells_ty ht, List.take_of_length_le (by omega)] at hz
  exact hO.rd hz hw
theorem opf_cons {s : TypeId} {k off off' : Nat} {ft : TypeId} {g : Bool} (hf : fieldB P s k off ft = true) (ht : tyB P ft T.size g = true) (hO : Opens P ft T K) (e : off + T.size = off') (hr : OpF P s (k + 1) off' S K2) : OpF P s k off (pairT T S) (KP K K2) := fun {H enc W sp held fuel cs fs} hu h hl => by
  subst e
  obtain ⟨z, hz, hw⟩ := field_read hf hu h
  rw [cells_ty ht] at hz
  obtain ⟨y, hy, hk⟩ := hO.rd hz hw
  have hl : (cs.drop off).length = T.size + S.size := hl
  obtain ⟨y', hy', hk'⟩ := hr hu h (by rw [List.length_drop] at hl ⊢; omega)
  refine ⟨(y, y'), ⟨(cs.drop off).take T.size, cs.drop (off + T.size), ?_, hy, hy'⟩, hk, hk'⟩
  rw [← List.drop_drop, List.take_append_drop]
theorem op_struct {t : TypeId} {A : GoT α} {γ : Type} {g : γ → α} (f : α → γ) (hgf : ∀ x, g (f x) = x) (hs : (match P.underlying t with | some (.struct _) => true | _ => false) = true) (ht : tyB P t A.size true = true) (hF : OpF P t 0 0 A K) {K' : γ → Prop} (hK : ∀ y, K (g y) → K' y) : Opens P t (viaT A g) K' := ⟨fun {H enc W sp held fuel cs x} h hw => by
  cases fuel with
  | zero => simp [DataW.trod] at h
  | succ n =>
    cases hu : P.underlying t with
    | none => rw [hu] at hs; cases hs
    | some d =>
      rw [hu] at hs
      cases d <;> simp at hs
      rename_i fs
      unfold DataW.trod at h
      rw [hu] at h
      simp only at h
      split at h
      · rename_i hlen
        cases hm : fs.toList.mapM (fun f => DataW.trod enc P W 0 sp held n f.type ((cs.drop f.offset).take (P.cellsOf f.type))) with
        | none => rw [hm] at h; cases h
        | some xs =>
          rw [hm] at h
          have hx : x = (DataW.agg (xs.map (·.1)), xs.flatMap (·.2)) := (Option.some.inj h).symm
          subst hx
          have hw : ((DataW.agg (xs.map (·.1))).weights P t).all (· ≤ reachBytes) = true := hw
          unfold DataW.weights at hw
          rw [hu] at hw
          obtain ⟨y, hy, hk⟩ := hF hu (light_each (ty := fun fd : Field => fd.type) hm hw) (by rw [List.drop_zero, hlen, cells_ty ht])
          rw [List.drop_zero] at hy
          exact ⟨f y, by show A.rel _ _ _ _ _; rw [hgf]; exact hy, hK _ (by rw [hgf]; exact hk)⟩
      · cases h⟩
structure GT where
  {α : Type}
  T : GoT α
  K : α → Prop
def Shape : List GT → List AV → Prop
  | [], [] => True
  | G :: Gs, A :: As => (∃ x, A = .val G.T x ∧ G.K x) ∧ Shape Gs As
  | _, _ => False
def OpensAll (P : Program) : List TypeId → List GT → Prop
  | [], [] => True
  | t :: ts, G :: Gs => Opens P t G.T G.K ∧ tyB P t G.T.size G.T.agg = true ∧ OpensAll P ts Gs
  | _, _ => False
theorem open_val {W : World} {v : Value} {H : Type} {enc : TypeId × Value → H} {sp : Nat → Bool} {held : Bool} {d : DataW H} {ps : List MemPlace} {b0 : Nat} (hO : Opens P t T K) (ht : tyB P t T.size T.agg = true) (hok : Value.okWide P W .any b0 t v) (h : DataW.Trod enc P W 0 sp held t v d ps) (hw : Light P t d) :
    ∃ x, T.val noN noN W x v ∧ K x := by
  obtain ⟨fuel, hf⟩ := h
  obtain ⟨y, hy, hk⟩ := hO.rd hf hw
  refine ⟨y, ?_, hk⟩
  unfold tyB at ht
  rw [Bool.and_eq_true] at ht
  obtain ⟨_, ht⟩ := ht
  unfold Value.okWide at hok
  cases hu : P.underlying t with
  | none => rw [hu] at ht; cases ht
  | some de =>
    rw [hu] at ht hok
    have hone : T.agg = false → (∀ cs, v ≠ .agg cs) → (∀ cs, v ≠ .tuple cs) → T.val noN noN W y v := fun hg h1 h2 => by
      refine ⟨_, hy, .inr ⟨hg, ?_⟩⟩
      cases v <;> first | rfl | (exact absurd rfl (h1 _)) | (exact absurd rfl (h2 _))
    have hcell : (T.agg = false) → Cell.okWide P W .any b0 t v → T.val noN noN W y v := fun hg hc => by
      refine hone hg (fun cs e => ?_) (fun cs e => ?_)
      · subst e
        unfold Cell.okWide Cell.ok at hc
        rw [hu] at hc
        cases de <;> exact hc
      · subst e
        unfold Cell.okWide Cell.ok at hc
        rw [hu] at hc
        cases de <;> exact hc
    cases de <;> first
      | (have hg : T.agg = true := ht
         obtain ⟨cs, rfl, _, _⟩ := hok
         exact ⟨cs.toList, by simpa [Value.cells] using hy, .inl ⟨hg, rfl⟩⟩)
      | exact hcell (by simpa using ht) hok
theorem open_all {W : World} {H : Type} {enc : TypeId × Value → H} {sp : Nat → Bool} {held : Bool} {b0 : Nat} : ∀ {ts : List TypeId} {Gs : List GT} {vs : List Value} {ds : List (DataW H)} {ps : List MemPlace}, OpensAll P ts Gs → DataW.TrodAll enc P W 0 sp held ts vs ds ps →
    (∀ (j : Nat) t v, ts[j]? = some t → vs[j]? = some v → Value.okWide P W .any b0 t v) → (DataW.weightsEach P ts ds).all (· ≤ reachBytes) = true → ∃ As, Shape Gs As ∧ ArgsRel noN W As vs
  | [], [], [], [], _, _, _, _, _ => ⟨[], trivial, trivial⟩
  | [], [], _ :: _, _, _, _, h, _, _ => h.elim
  | [], [], [], _ :: _, _, _, h, _, _ => h.elim
  | [], _ :: _, _, _, _, h, _, _, _ => h.elim
  | _ :: _, [], _, _, _, h, _, _, _ => h.elim
  | _ :: _, _ :: _, [], _, _, _, h, _, _ => h.elim
  | _ :: _, _ :: _, _ :: _, [], _, _, h, _, _ => h.elim
  | t :: ts, G :: Gs, v :: vs, d :: ds, ps, ⟨h1, h2, h3⟩, ⟨p, q, g1, g2, _⟩, hok, hw => by
    unfold DataW.weightsEach at hw
    rw [List.all_append, Bool.and_eq_true] at hw
    obtain ⟨x, hx, hk⟩ := open_val h1 h2 (hok 0 t v rfl rfl) g1 hw.1
    obtain ⟨As, hs, ha⟩ := open_all h3 g2 (fun j t' v' e1 e2 => hok (j + 1) t' v' (by simpa using e1) (by simpa using e2)) hw.2
    exact ⟨.val G.T x :: As, ⟨⟨x, rfl, hk⟩, hs⟩, hx, ha⟩
end
end Go.Ab
namespace Go.Ab
set_option linter.unusedVariables false
set_option linter.unusedSimpArgs false
open Go.RowKit
theorem trodAll_stays {H : Type} {enc : TypeId × Value → H} {P : Program} (hl : laidOutB P = true) {W W' : World} (hb : Below W.heap.size W W') : ∀ {ts : List TypeId} {vs : List Value} {ds : List (DataW H)} {ps : List MemPlace},
    (∀ t ∈ ts, P.readableRec t = true ∧ t < P.types.size) → DataW.TrodAll enc P W 0 (fun _ => true) true ts vs ds ps → (∀ x ∈ ps, x.block < W.heap.size) → DataW.TrodAll enc P W' 0 (fun b => decide (b < W.heap.size)) true ts vs ds ps
  | [], [], [], ps, _, h, _ => h
  | [], [], _ :: _, _, _, h, _ => h.elim
  | [], _ :: _, _, _, _, h, _ => h.elim
  | _ :: _, [], _, _, _, h, _ => h.elim
  | _ :: _, _ :: _, [], _, _, h, _ => h.elim
  | t :: ts, v :: vs, d :: ds, ps, hr, ⟨p, q, h1, h2, e⟩, hlt => by
    subst e
    exact ⟨p, q, RowKit.Below.trod hl (hr t (by simp)).1 (hr t (by simp)).2 h1 hb.toBelow (fun x hx => hlt x (List.mem_append_left _ hx)), trodAll_stays hl hb (fun t ht => hr t (by simp [ht])) h2 (fun x hx => hlt x (List.mem_append_right _ hx)), rfl⟩
theorem trodAll_len {H : Type} {enc : TypeId × Value → H} {P : Program} {w : World} {base : Nat} {spare : Nat → Bool} {held : Bool} : ∀ {ts : List TypeId} {vs : List Value} {ds : List (DataW H)} {ps : List MemPlace}, DataW.TrodAll enc P w base spare held ts vs ds ps → ds.length = ts.length
  | [], [], [], _, _ => rfl
  | [], [], _ :: _, _, h => h.elim
  | [], _ :: _, _, _, h => h.elim
  | _ :: _, [], _, _, h => h.elim
  | _ :: _, _ :: _, [], _, h => h.elim
  | _ :: _, _ :: _, _ :: _, _, ⟨_, _, _, h2, _⟩ => by simp [trodAll_len h2]
theorem light_front {H : Type} {enc : TypeId × Value → H} {P : Program} {w : World} {base : Nat} {spare : Nat → Bool} {held : Bool} {us : List TypeId} {es : List (DataW H)} : ∀ {ts : List TypeId} {vs : List Value} {ds : List (DataW H)} {ps : List MemPlace}, DataW.TrodAll enc P w base spare held ts vs ds ps → (DataW.weightsEach P (ts ++ us) (ds ++ es)).all (· ≤ reachBytes) = true → (DataW.weightsEach P ts ds).all (· ≤ reachBytes) = true
  | [], [], [], _, _, _ => by unfold DataW.weightsEach; rfl
  | [], [], _ :: _, _, h, _ => h.elim
  | [], _ :: _, _, _, h, _ => h.elim
  | _ :: _, [], _, _, h, _ => h.elim
  | _ :: _, _ :: _, [], _, h, _ => h.elim
  | _ :: _, _ :: _, _ :: _, _, ⟨_, _, _, h2, _⟩, h => by
    rw [List.cons_append, List.cons_append] at h
    unfold DataW.weightsEach at h ⊢
    rw [List.all_append, Bool.and_eq_true] at h ⊢
    exact ⟨h.1, light_front h2 h.2⟩
theorem law_handed {C : Checked} {os : Os} {H : Type} {enc : TypeId × Value → H} {f : FuncId} {fn : Func} {s : ChangeSpec} {conds : List PathCond} {Gs : List GT} {rt : TypeId}
    (own : ownKnob C.prog.godebug = none) (started : os.Started) (noInit : C.prog.inits.idxOf? f = none) (hfn : C.prog.funcs[f]? = some fn)
    (witness : ∃ (w : World) (tape : Tape) (i : Input), w.os = os ∧ (w.forCall tape i).Shaped C.prog ∧ i.vars = [] ∧ Input.okWide C.prog (w.forCall tape i) .any w.heap.size f i ∧
      s.pre6 enc C.prog fn conds false (w.forCall tape i).memory i.args ∧ ({} : Assume).holds C.prog (lone (Frame.enter C.prog f i.args .normal) [] (w.forCall tape i)))
    (hvars : s.vars = []) (hl : laidOutB C.prog = true) (hr : ∀ t ∈ fn.params.toList, C.prog.readableRec t = true ∧ t < C.prog.types.size) (hO : OpensAll C.prog fn.params.toList Gs)
    (hres : fn.resultTypes = #[rt]) (hrt : C.prog.underlying rt = some .bool) (hspec : ∀ ds : List (DataW H), ds.length = fn.params.toList.length → s.fn H ds = { results := [.lit (.bool true)], args := ds })
    (hlaw : ∀ As, Shape Gs As → Tells C.prog f As (.val boolT true)) :
    ReturnsInHanded {} C os f .any (s.pre6 enc C.prog fn conds false) (s.post enc C.prog fn false true false false) := by
  refine returnsInHanded_of_calls own started noInit witness ?_
  intro w0 tape i _ _ _ hok hpre hholds
  obtain ⟨_, _, _, fn', hfn', _, _, _, _, hval⟩ := hok
  have e : fn' = fn := Option.some.inj (hfn'.symm.trans hfn)
  subst e
  obtain ⟨⟨ds, gs, before, hw, hc⟩, hz⟩ := hpre
  have hwt := hz.weights hw
  have hw' := DataW.Whole.of_heap (w' := w0.forCall tape i) (by rfl) hw
  suffices main : ∀ (W : World) (base : Nat) (args : Array Value) (ds gs : List (DataW H)) (before : List MemPlace),
      (∀ (j : Nat) t v, fn'.params[j]? = some t → args[j]? = some v → Value.okWide C.prog W .any base t v) →
      DataW.Whole enc C.prog fn'.params.toList s.vars false W args.toList ds gs before → (DataW.weightsEach C.prog (fn'.params.toList ++ s.plain.varTypes C.prog) (ds ++ gs)).all (· ≤ reachBytes) = true →
      Calls C.prog f args W fun e W' => ∃ v, e = .returned v ∧ s.post enc C.prog fn' false true false false W args v W' by
    refine (main (w0.forCall tape i) w0.heap.size i.args ds gs before hval hw' hwt).mono fun e W' ⟨v, he, hp⟩ => ?_
    subst he
    exact ChangeSpec.post_blind hp
  clear hwt hw' hc hw hval hholds
  intro W base args ds gs before hval hW hwt
  have hW' := hW
  obtain ⟨p, q, hA, hV, rfl, hfz, hnd⟩ := hW
  obtain ⟨rfl, rfl⟩ : gs = [] ∧ q = [] := by
    rw [hvars] at hV
    match gs, hV with
    | [], hV => exact ⟨rfl, hV⟩
  obtain ⟨As, hS, hrel⟩ := open_all hO hA (fun j t v e1 e2 => hval j t v (by simpa using e1) (by simpa using e2)) (light_front hA hwt)
  have hc := hlaw As hS noN W args.toList (fun b h => h.elim) hrel
  have hlen := trodAll_len hA
  have hsp := hspec ds hlen
  rw [show args.toList.toArray = args by simp] at hc
  refine hc.mono fun e w' he => ?_
  cases e with
  | returned v =>
    obtain ⟨hb, hv⟩ := he
    obtain rfl : v = .bool true := val_bool.1 hv
    have hlt : ∀ x ∈ p, x.block < W.heap.size := fun x hx => hW'.lt x (List.mem_append_left _ hx)
    refine ⟨_, rfl, ds, [], p ++ [], [], p, [], hW', ?_, ?_, ?_, ?_, fun h => by cases h⟩
    · rw [List.append_nil, hsp, hres]
      exact ⟨[], [], shut_bool hrt true, rfl, rfl⟩
    · rw [List.append_nil, hsp]
      exact trodAll_stays hl hb hr hA hlt
    · rw [List.append_nil, hsp, hvars]; rfl
    · exact hb.toBelow.frame _
  | panicked c => exact he.elim
  | outgrown => exact he.elim
end Go.Ab
set_option maxRecDepth 100000
namespace Go.Proofs.YtgoiacajjicjcaaGreat
set_option linter.unusedVariables false
set_option linter.unusedSimpArgs false
open Go.Ab
noncomputable abbrev P : Program := Go.Proofs.Tryz.prog
theorem ty_3 : tyB P 3 1 false = true := by kernel_rfl
theorem ui_3 : P.underlying 3 = some (.int .i64) := by kernel_rfl
theorem us_3 : (P.underlying 3).isSome = true := by kernel_rfl
theorem ty_4 : tyB P 4 1 false = true := by kernel_rfl
theorem ze_4 : ZeroAt P 4 boolT false := zeroAt_one zero_bool (by kernel_rfl)
theorem ty_5 : tyB P 5 1 false = true := by kernel_rfl
theorem ui_5 : P.underlying 5 = some (.int .u8) := by kernel_rfl
theorem us_5 : (P.underlying 5).isSome = true := by kernel_rfl
theorem ze_5 : ZeroAt P 5 u8T 0 := zeroAt_one zero_u8 (by kernel_rfl)
theorem st_9 : P.underlying 9 = some .string := by kernel_rfl
theorem ty_23 : tyB P 23 32 true = true := by kernel_rfl
theorem ar_23 : arrB P 23 32 5 1 = true := by kernel_rfl
theorem ze_23 : ZeroAt P 23 idT zId := zeroAt_agg zero_id (by kernel_rfl)
theorem ty_24 : tyB P 24 1 false = true := by kernel_rfl
theorem ui_24 : P.underlying 24 = some (.int .u64) := by kernel_rfl
theorem us_24 : (P.underlying 24).isSome = true := by kernel_rfl
theorem ty_26 : tyB P 26 4 true = true := by kernel_rfl
theorem ar_26 : arrB P 26 4 24 1 = true := by kernel_rfl
theorem ze_26 : ZeroAt P 26 wideT zWide := zeroAt_agg zero_wide (by kernel_rfl)
theorem ty_27 : tyB P 27 1 false = true := by kernel_rfl
theorem ui_27 : P.underlying 27 = some (.int .u32) := by kernel_rfl
theorem us_27 : (P.underlying 27).isSome = true := by kernel_rfl
theorem ty_29 : tyB P 29 135 true = true := by kernel_rfl
theorem bd_29 : (match P.underlying 29 with | some (.struct fs) => fs.all fun f => (P.info? f.type).isSome | _ => false) = true := by kernel_rfl
theorem fd_29_0 : fieldB P 29 0 0 3 = true := by kernel_rfl
theorem fd_29_1 : fieldB P 29 1 1 23 = true := by kernel_rfl
theorem fd_29_2 : fieldB P 29 2 33 23 = true := by kernel_rfl
theorem fd_29_3 : fieldB P 29 3 65 23 = true := by kernel_rfl
theorem fd_29_4 : fieldB P 29 4 97 23 = true := by kernel_rfl
theorem fd_29_5 : fieldB P 29 5 129 26 = true := by kernel_rfl
theorem fd_29_6 : fieldB P 29 6 133 27 = true := by kernel_rfl
theorem fd_29_7 : fieldB P 29 7 134 24 = true := by kernel_rfl
theorem ze_29 : ZeroAt P 29 headT zHead := zeroAt_agg zero_Head (by kernel_rfl)
theorem ty_30 : tyB P 30 1 false = true := by kernel_rfl
theorem row_30 : rowB P 30 23 32 32 = true := by kernel_rfl
theorem sl_30 : sliceB P 30 23 32 = true := by kernel_rfl
theorem isl_30 : (match P.underlying 30 with | some (.slice _) => true | _ => false) = true := by kernel_rfl
theorem ty_31 : tyB P 31 1 false = true := by kernel_rfl
theorem row_31 : rowB P 31 99 2 48 = true := by kernel_rfl
theorem sl_31 : sliceB P 31 99 2 = true := by kernel_rfl
theorem isl_31 : (match P.underlying 31 with | some (.slice _) => true | _ => false) = true := by kernel_rfl
theorem ty_33 : tyB P 33 137 true = true := by kernel_rfl
theorem bd_33 : (match P.underlying 33 with | some (.struct fs) => fs.all fun f => (P.info? f.type).isSome | _ => false) = true := by kernel_rfl
theorem fd_33_0 : fieldB P 33 0 0 29 = true := by kernel_rfl
theorem fd_33_1 : fieldB P 33 1 135 30 = true := by kernel_rfl
theorem fd_33_2 : fieldB P 33 2 136 31 = true := by kernel_rfl
theorem ze_33 : ZeroAt P 33 blockT zBlock := zeroAt_agg zero_Block (by kernel_rfl)
theorem ty_34 : tyB P 34 1 false = true := by kernel_rfl
theorem row_34 : rowB P 34 54 37 72 = true := by kernel_rfl
theorem sl_34 : sliceB P 34 54 37 = true := by kernel_rfl
theorem isl_34 : (match P.underlying 34 with | some (.slice _) => true | _ => false) = true := by kernel_rfl
theorem ty_35 : tyB P 35 1 false = true := by kernel_rfl
theorem row_35 : rowB P 35 123 35 56 = true := by kernel_rfl
theorem sl_35 : sliceB P 35 123 35 = true := by kernel_rfl
theorem isl_35 : (match P.underlying 35 with | some (.slice _) => true | _ => false) = true := by kernel_rfl
theorem ty_37 : tyB P 37 139 true = true := by kernel_rfl
theorem bd_37 : (match P.underlying 37 with | some (.struct fs) => fs.all fun f => (P.info? f.type).isSome | _ => false) = true := by kernel_rfl
theorem fd_37_0 : fieldB P 37 0 0 33 = true := by kernel_rfl
theorem fd_37_1 : fieldB P 37 1 137 34 = true := by kernel_rfl
theorem fd_37_2 : fieldB P 37 2 138 35 = true := by kernel_rfl
theorem ze_37 : ZeroAt P 37 tipT zTip := zeroAt_agg zero_Tip (by kernel_rfl)
theorem ty_54 : tyB P 54 37 true = true := by kernel_rfl
theorem bd_54 : (match P.underlying 54 with | some (.struct fs) => fs.all fun f => (P.info? f.type).isSome | _ => false) = true := by kernel_rfl
theorem fd_54_0 : fieldB P 54 0 0 23 = true := by kernel_rfl
theorem fd_54_1 : fieldB P 54 1 32 26 = true := by kernel_rfl
theorem fd_54_2 : fieldB P 54 2 36 3 = true := by kernel_rfl
theorem ze_54 : ZeroAt P 54 totalT zTotal := zeroAt_agg zero_Total (by kernel_rfl)
theorem bd_77 : (match P.underlying 77 with | some (.struct fs) => fs.all fun f => (P.info? f.type).isSome | _ => false) = true := by kernel_rfl
theorem fd_77_0 : fieldB P 77 0 0 37 = true := by kernel_rfl
theorem fd_77_1 : fieldB P 77 1 139 33 = true := by kernel_rfl
theorem fd_77_2 : fieldB P 77 2 276 29 = true := by kernel_rfl
theorem fd_77_3 : fieldB P 77 3 411 35 = true := by kernel_rfl
theorem ze_77 : ZeroAt P 77 trialT zTrial := zeroAt_agg zero_Trial (by kernel_rfl)
theorem ty_79 : tyB P 79 1 false = true := by kernel_rfl
theorem ty_87 : tyB P 87 6 true = true := by kernel_rfl
theorem ar_87 : arrB P 87 6 79 1 = true := by kernel_rfl
theorem ze_87 : ZeroAt P 87 (arrT 6 (by decide) fnoT) (List.replicate 6 none) := zeroAt_agg (zero_arr (by decide) zero_fno) (by kernel_rfl)
theorem row_88 : rowB P 88 79 1 8 = true := by kernel_rfl
theorem sl_88 : sliceB P 88 79 1 = true := by kernel_rfl
theorem isl_88 : (match P.underlying 88 with | some (.slice _) => true | _ => false) = true := by kernel_rfl
theorem ty_96 : tyB P 96 1 false = true := by kernel_rfl
theorem row_96 : rowB P 96 119 33 40 = true := by kernel_rfl
theorem sl_96 : sliceB P 96 119 33 = true := by kernel_rfl
theorem isl_96 : (match P.underlying 96 with | some (.slice _) => true | _ => false) = true := by kernel_rfl
theorem ty_97 : tyB P 97 1 false = true := by kernel_rfl
theorem row_97 : rowB P 97 121 2 16 = true := by kernel_rfl
theorem sl_97 : sliceB P 97 121 2 = true := by kernel_rfl
theorem isl_97 : (match P.underlying 97 with | some (.slice _) => true | _ => false) = true := by kernel_rfl
theorem ty_99 : tyB P 99 2 true = true := by kernel_rfl
theorem bd_99 : (match P.underlying 99 with | some (.struct fs) => fs.all fun f => (P.info? f.type).isSome | _ => false) = true := by kernel_rfl
theorem fd_99_0 : fieldB P 99 0 0 96 = true := by kernel_rfl
theorem fd_99_1 : fieldB P 99 1 1 97 = true := by kernel_rfl
theorem ze_99 : ZeroAt P 99 txT zTx := zeroAt_agg zero_Tx (by kernel_rfl)
theorem ty_102 : tyB P 102 1 false = true := by kernel_rfl
theorem row_102 : rowB P 102 5 1 1 = true := by kernel_rfl
theorem sl_102 : sliceB P 102 5 1 = true := by kernel_rfl
theorem isl_102 : (match P.underlying 102 with | some (.slice _) => true | _ => false) = true := by kernel_rfl
theorem ty_119 : tyB P 119 33 true = true := by kernel_rfl
theorem bd_119 : (match P.underlying 119 with | some (.struct fs) => fs.all fun f => (P.info? f.type).isSome | _ => false) = true := by kernel_rfl
theorem fd_119_0 : fieldB P 119 0 0 23 = true := by kernel_rfl
theorem fd_119_1 : fieldB P 119 1 32 3 = true := by kernel_rfl
theorem ze_119 : ZeroAt P 119 inT zIn := zeroAt_agg zero_In (by kernel_rfl)
theorem ty_121 : tyB P 121 2 true = true := by kernel_rfl
theorem fd_121_0 : fieldB P 121 0 0 3 = true := by kernel_rfl
theorem fd_121_1 : fieldB P 121 1 1 3 = true := by kernel_rfl
theorem ze_121 : ZeroAt P 121 outT zOut := zeroAt_agg zero_Out (by kernel_rfl)
theorem ty_123 : tyB P 123 35 true = true := by kernel_rfl
theorem bd_123 : (match P.underlying 123 with | some (.struct fs) => fs.all fun f => (P.info? f.type).isSome | _ => false) = true := by kernel_rfl
theorem fd_123_0 : fieldB P 123 0 0 119 = true := by kernel_rfl
theorem fd_123_1 : fieldB P 123 1 33 121 = true := by kernel_rfl
theorem ze_123 : ZeroAt P 123 coinT zCoin := zeroAt_agg zero_Coin (by kernel_rfl)
theorem ui_125 : P.underlying 125 = some (.int .u64) := by kernel_rfl
theorem us_125 : (P.underlying 125).isSome = true := by kernel_rfl
theorem row_150 : rowB P 150 102 1 24 = true := by kernel_rfl
theorem sl_150 : sliceB P 150 102 1 = true := by kernel_rfl
theorem isl_150 : (match P.underlying 150 with | some (.slice _) => true | _ => false) = true := by kernel_rfl
theorem ty_151 : tyB P 151 1 false = true := by kernel_rfl
theorem zp_151 : (P.info? 151).bind (·.zero) = some (.pointer none) := by kernel_rfl
theorem ty_153 : tyB P 153 8 true = true := by kernel_rfl
theorem ar_153 : arrB P 153 8 27 1 = true := by kernel_rfl
theorem ze_153 : ZeroAt P 153 (arrT 8 (by decide) u32T) (List.replicate 8 0) := zeroAt_agg (zero_arr (by decide) zero_u32) (by kernel_rfl)
theorem ty_182 : tyB P 182 64 true = true := by kernel_rfl
theorem ar_182 : arrB P 182 64 27 1 = true := by kernel_rfl
theorem ze_182 : ZeroAt P 182 (arrT 64 (by decide) u32T) (List.replicate 64 0) := zeroAt_agg (zero_arr (by decide) zero_u32) (by kernel_rfl)
theorem ar_196 : arrB P 196 2 23 32 = true := by kernel_rfl
theorem ze_196 : ZeroAt P 196 (arrT 2 (by decide) idT) (List.replicate 2 zId) := zeroAt_agg (zero_arr (by decide) zero_id) (by kernel_rfl)
theorem row_197 : rowB P 197 27 1 4 = true := by kernel_rfl
theorem sl_197 : sliceB P 197 27 1 = true := by kernel_rfl
theorem row_215 : rowB P 215 30 1 24 = true := by kernel_rfl
theorem sl_215 : sliceB P 215 30 1 = true := by kernel_rfl
theorem isl_215 : (match P.underlying 215 with | some (.slice _) => true | _ => false) = true := by kernel_rfl
theorem row_221 : rowB P 221 3 1 8 = true := by kernel_rfl
theorem sl_221 : sliceB P 221 3 1 = true := by kernel_rfl
theorem isl_221 : (match P.underlying 221 with | some (.slice _) => true | _ => false) = true := by kernel_rfl
theorem eqk_3 (d : Nat) : EqOk P 3 i64T (d + 1) := eq_int (by kernel_rfl) d
theorem ub_4 : P.underlying 4 = some .bool := by kernel_rfl
theorem eqk_5 (d : Nat) : EqOk P 5 u8T (d + 1) := eq_u8 (by kernel_rfl) d
theorem eqk_23 (d : Nat) : EqOk P 23 idT (d + 2) := eq_arr ar_23 ty_5 (eqk_5 d)
theorem eqt_23 : EqTy P 23 idT := ⟨eqk_23 9998, rfl, by kernel_rfl⟩
theorem eqk_24 (d : Nat) : EqOk P 24 u64T (d + 1) := eq_u64 (by kernel_rfl) d
theorem eqk_26 (d : Nat) : EqOk P 26 wideT (d + 2) := eq_arr ar_26 ty_24 (eqk_24 d)
theorem eqt_26 : EqTy P 26 wideT := ⟨eqk_26 9998, rfl, by kernel_rfl⟩
theorem eqk_27 (d : Nat) : EqOk P 27 u32T (d + 1) := eq_u32 (by kernel_rfl) d
theorem eqk_29 (d : Nat) : EqOk P 29 headT (d + 3) := eq_struct (n := 8) (by kernel_rfl) rfl (.cons fd_29_0 L_Head_height ty_3 (eqk_3 (d + 1)) (.cons fd_29_1 L_Head_prev ty_23 (eqk_23 (d + 0)) (.cons fd_29_2 L_Head_links ty_23 (eqk_23 (d + 0)) (.cons fd_29_3 L_Head_txs ty_23 (eqk_23 (d + 0)) (.cons fd_29_4 L_Head_past ty_23 (eqk_23 (d + 0)) (.cons fd_29_5 L_Head_work ty_26 (eqk_26 (d + 0)) (.cons fd_29_6 L_Head_bits ty_27 (eqk_27 (d + 1)) (.cons fd_29_7 L_Head_nonce ty_24 (eqk_24 (d + 1)) .nil)))))))) eqx_Head
theorem eqt_29 : EqTy P 29 headT := ⟨eqk_29 9997, rfl, by kernel_rfl⟩
theorem eqk_54 (d : Nat) : EqOk P 54 totalT (d + 3) := eq_struct (n := 3) (by kernel_rfl) rfl (.cons fd_54_0 L_Total_h ty_23 (eqk_23 (d + 0)) (.cons fd_54_1 L_Total_w ty_26 (eqk_26 (d + 0)) (.cons fd_54_2 L_Total_n ty_3 (eqk_3 (d + 1)) .nil))) eqx_Total
theorem eqt_54 : EqTy P 54 totalT := ⟨eqk_54 9997, rfl, by kernel_rfl⟩
theorem eqk_119 (d : Nat) : EqOk P 119 inT (d + 3) := eq_struct (n := 2) (by kernel_rfl) rfl (.cons fd_119_0 L_In_tx ty_23 (eqk_23 (d + 0)) (.cons fd_119_1 L_In_i ty_3 (eqk_3 (d + 1)) .nil)) eqx_In
theorem eqt_119 : EqTy P 119 inT := ⟨eqk_119 9997, rfl, by kernel_rfl⟩
theorem eqk_121 (d : Nat) : EqOk P 121 outT (d + 2) := eq_struct (n := 2) (by kernel_rfl) rfl (.cons fd_121_0 L_Out_v ty_3 (eqk_3 (d + 0)) (.cons fd_121_1 L_Out_to ty_3 (eqk_3 (d + 0)) .nil)) eqx_Out
theorem eqt_121 : EqTy P 121 outT := ⟨eqk_121 9998, rfl, by kernel_rfl⟩
theorem eqk_123 (d : Nat) : EqOk P 123 coinT (d + 4) := eq_struct (n := 2) (by kernel_rfl) rfl (.cons fd_123_0 L_Coin_inn ty_119 (eqk_119 (d + 0)) (.cons fd_123_1 L_Coin_out ty_121 (eqk_121 (d + 1)) .nil)) eqx_Coin
theorem eqt_123 : EqTy P 123 coinT := ⟨eqk_123 9996, rfl, by kernel_rfl⟩
theorem fn_10 : fnB P 10 = true := by kernel_rfl
theorem fn_11 : fnB P 11 = true := by kernel_rfl
theorem fn_12 : fnB P 12 = true := by kernel_rfl
theorem fn_13 : fnB P 13 = true := by kernel_rfl
theorem fn_14 : fnB P 14 = true := by kernel_rfl
theorem fn_15 : fnB P 15 = true := by kernel_rfl
theorem fn_16 : fnB P 16 = true := by kernel_rfl
theorem fn_17 : fnB P 17 = true := by kernel_rfl
theorem fn_18 : fnB P 18 = true := by kernel_rfl
theorem fn_19 : fnB P 19 = true := by kernel_rfl
theorem fn_20 : fnB P 20 = true := by kernel_rfl
theorem fn_21 : fnB P 21 = true := by kernel_rfl
theorem fn_22 : fnB P 22 = true := by kernel_rfl
theorem fn_23 : fnB P 23 = true := by kernel_rfl
theorem fn_24 : fnB P 24 = true := by kernel_rfl
theorem fn_25 : fnB P 25 = true := by kernel_rfl
theorem fn_26 : fnB P 26 = true := by kernel_rfl
theorem fn_27 : fnB P 27 = true := by kernel_rfl
theorem fn_28 : fnB P 28 = true := by kernel_rfl
theorem fn_30 : fnB P 30 = true := by kernel_rfl
theorem fn_32 : fnB P 32 = true := by kernel_rfl
theorem fn_33 : fnB P 33 = true := by kernel_rfl
theorem fn_34 : fnB P 34 = true := by kernel_rfl
theorem fn_35 : fnB P 35 = true := by kernel_rfl
theorem fn_36 : fnB P 36 = true := by kernel_rfl
theorem fn_37 : fnB P 37 = true := by kernel_rfl
theorem fn_38 : fnB P 38 = true := by kernel_rfl
theorem fn_39 : fnB P 39 = true := by kernel_rfl
theorem fn_40 : fnB P 40 = true := by kernel_rfl
theorem fn_41 : fnB P 41 = true := by kernel_rfl
theorem fn_42 : fnB P 42 = true := by kernel_rfl
theorem fn_43 : fnB P 43 = true := by kernel_rfl
theorem fn_44 : fnB P 44 = true := by kernel_rfl
theorem fn_45 : fnB P 45 = true := by kernel_rfl
theorem fn_46 : fnB P 46 = true := by kernel_rfl
theorem fn_47 : fnB P 47 = true := by kernel_rfl
theorem fn_48 : fnB P 48 = true := by kernel_rfl
theorem fn_49 : fnB P 49 = true := by kernel_rfl
theorem fn_50 : fnB P 50 = true := by kernel_rfl
theorem fn_51 : fnB P 51 = true := by kernel_rfl
theorem fn_52 : fnB P 52 = true := by kernel_rfl
theorem fn_53 : fnB P 53 = true := by kernel_rfl
theorem fn_54 : fnB P 54 = true := by kernel_rfl
theorem fn_55 : fnB P 55 = true := by kernel_rfl
theorem fn_56 : fnB P 56 = true := by kernel_rfl
theorem fn_57 : fnB P 57 = true := by kernel_rfl
theorem fn_58 : fnB P 58 = true := by kernel_rfl
theorem fn_59 : fnB P 59 = true := by kernel_rfl
theorem fn_60 : fnB P 60 = true := by kernel_rfl
theorem fn_61 : fnB P 61 = true := by kernel_rfl
theorem fn_62 : fnB P 62 = true := by kernel_rfl
theorem fn_63 : fnB P 63 = true := by kernel_rfl
theorem fn_64 : fnB P 64 = true := by kernel_rfl
theorem fn_65 : fnB P 65 = true := by kernel_rfl
theorem fn_66 : fnB P 66 = true := by kernel_rfl
theorem fn_67 : fnB P 67 = true := by kernel_rfl
theorem fn_68 : fnB P 68 = true := by kernel_rfl
theorem fn_69 : fnB P 69 = true := by kernel_rfl
theorem fn_70 : fnB P 70 = true := by kernel_rfl
theorem fn_71 : fnB P 71 = true := by kernel_rfl
theorem fn_72 : fnB P 72 = true := by kernel_rfl
theorem fn_73 : fnB P 73 = true := by kernel_rfl
theorem fn_74 : fnB P 74 = true := by kernel_rfl
theorem fn_75 : fnB P 75 = true := by kernel_rfl
theorem fn_77 : fnB P 77 = true := by kernel_rfl
theorem fn_79 : fnB P 79 = true := by kernel_rfl
theorem fn_82 : fnB P 82 = true := by kernel_rfl
theorem fn_83 : fnB P 83 = true := by kernel_rfl
theorem fn_84 : fnB P 84 = true := by kernel_rfl
theorem fn_85 : fnB P 85 = true := by kernel_rfl
theorem fn_86 : fnB P 86 = true := by kernel_rfl
theorem fn_87 : fnB P 87 = true := by kernel_rfl
theorem fn_88 : fnB P 88 = true := by kernel_rfl
theorem fn_89 : fnB P 89 = true := by kernel_rfl
theorem fn_90 : fnB P 90 = true := by kernel_rfl
theorem fn_91 : fnB P 91 = true := by kernel_rfl
theorem fn_92 : fnB P 92 = true := by kernel_rfl
theorem fn_93 : fnB P 93 = true := by kernel_rfl
theorem fn_94 : fnB P 94 = true := by kernel_rfl
theorem fn_95 : fnB P 95 = true := by kernel_rfl
theorem fn_96 : fnB P 96 = true := by kernel_rfl
theorem fn_97 : fnB P 97 = true := by kernel_rfl
theorem fn_98 : fnB P 98 = true := by kernel_rfl
theorem fn_99 : fnB P 99 = true := by kernel_rfl
theorem fn_100 : fnB P 100 = true := by kernel_rfl
theorem fn_101 : fnB P 101 = true := by kernel_rfl
theorem fn_102 : fnB P 102 = true := by kernel_rfl
theorem fn_103 : fnB P 103 = true := by kernel_rfl
theorem fn_104 : fnB P 104 = true := by kernel_rfl
theorem fn_105 : fnB P 105 = true := by kernel_rfl
theorem fn_106 : fnB P 106 = true := by kernel_rfl
theorem fn_107 : fnB P 107 = true := by kernel_rfl
theorem fn_108 : fnB P 108 = true := by kernel_rfl
theorem fn_109 : fnB P 109 = true := by kernel_rfl
theorem fn_110 : fnB P 110 = true := by kernel_rfl
theorem fn_111 : fnB P 111 = true := by kernel_rfl
theorem fn_112 : fnB P 112 = true := by kernel_rfl
theorem fn_113 : fnB P 113 = true := by kernel_rfl
theorem fn_114 : fnB P 114 = true := by kernel_rfl
theorem fn_115 : fnB P 115 = true := by kernel_rfl
theorem fn_116 : fnB P 116 = true := by kernel_rfl
theorem fn_117 : fnB P 117 = true := by kernel_rfl
theorem fn_118 : fnB P 118 = true := by kernel_rfl
theorem fn_119 : fnB P 119 = true := by kernel_rfl
theorem fn_120 : fnB P 120 = true := by kernel_rfl
theorem fn_121 : fnB P 121 = true := by kernel_rfl
theorem fn_122 : fnB P 122 = true := by kernel_rfl
theorem fn_123 : fnB P 123 = true := by kernel_rfl
theorem fn_124 : fnB P 124 = true := by kernel_rfl
theorem fn_125 : fnB P 125 = true := by kernel_rfl
theorem fn_126 : fnB P 126 = true := by kernel_rfl
theorem fn_127 : fnB P 127 = true := by kernel_rfl
theorem fn_128 : fnB P 128 = true := by kernel_rfl
theorem fn_129 : fnB P 129 = true := by kernel_rfl
theorem fn_130 : fnB P 130 = true := by kernel_rfl
theorem fn_132 : fnB P 132 = true := by kernel_rfl
theorem fn_133 : fnB P 133 = true := by kernel_rfl
theorem fn_134 : fnB P 134 = true := by kernel_rfl
theorem fn_135 : fnB P 135 = true := by kernel_rfl
theorem fn_136 : fnB P 136 = true := by kernel_rfl
theorem fn_137 : fnB P 137 = true := by kernel_rfl
theorem fn_138 : fnB P 138 = true := by kernel_rfl
theorem fn_139 : fnB P 139 = true := by kernel_rfl
theorem fn_140 : fnB P 140 = true := by kernel_rfl
theorem fn_141 : fnB P 141 = true := by kernel_rfl
theorem fn_142 : fnB P 142 = true := by kernel_rfl
theorem fn_143 : fnB P 143 = true := by kernel_rfl
theorem fn_144 : fnB P 144 = true := by kernel_rfl
theorem fn_145 : fnB P 145 = true := by kernel_rfl
theorem fn_146 : fnB P 146 = true := by kernel_rfl
theorem fn_147 : fnB P 147 = true := by kernel_rfl
theorem fn_148 : fnB P 148 = true := by kernel_rfl
theorem fn_149 : fnB P 149 = true := by kernel_rfl
theorem fn_150 : fnB P 150 = true := by kernel_rfl
theorem fn_151 : fnB P 151 = true := by kernel_rfl
theorem fn_152 : fnB P 152 = true := by kernel_rfl
theorem fn_153 : fnB P 153 = true := by kernel_rfl
theorem fn_154 : fnB P 154 = true := by kernel_rfl
theorem fn_155 : fnB P 155 = true := by kernel_rfl
theorem fn_156 : fnB P 156 = true := by kernel_rfl
theorem fn_157 : fnB P 157 = true := by kernel_rfl
theorem fn_158 : fnB P 158 = true := by kernel_rfl
theorem fn_159 : fnB P 159 = true := by kernel_rfl
theorem fn_160 : fnB P 160 = true := by kernel_rfl
theorem fn_161 : fnB P 161 = true := by kernel_rfl
theorem fn_162 : fnB P 162 = true := by kernel_rfl
theorem fn_163 : fnB P 163 = true := by kernel_rfl
theorem fn_164 : fnB P 164 = true := by kernel_rfl
theorem fn_165 : fnB P 165 = true := by kernel_rfl
theorem fn_166 : fnB P 166 = true := by kernel_rfl
theorem fn_167 : fnB P 167 = true := by kernel_rfl
theorem fn_168 : fnB P 168 = true := by kernel_rfl
theorem fn_169 : fnB P 169 = true := by kernel_rfl
theorem fn_170 : fnB P 170 = true := by kernel_rfl
theorem fn_171 : fnB P 171 = true := by kernel_rfl
theorem fn_172 : fnB P 172 = true := by kernel_rfl
theorem fn_173 : fnB P 173 = true := by kernel_rfl
theorem fn_174 : fnB P 174 = true := by kernel_rfl
theorem fn_175 : fnB P 175 = true := by kernel_rfl
theorem fn_176 : fnB P 176 = true := by kernel_rfl
theorem fn_177 : fnB P 177 = true := by kernel_rfl
theorem fn_178 : fnB P 178 = true := by kernel_rfl
theorem fn_179 : fnB P 179 = true := by kernel_rfl
theorem fn_180 : fnB P 180 = true := by kernel_rfl
theorem fn_181 : fnB P 181 = true := by kernel_rfl
theorem fn_182 : fnB P 182 = true := by kernel_rfl
theorem fn_183 : fnB P 183 = true := by kernel_rfl
theorem fn_184 : fnB P 184 = true := by kernel_rfl
theorem fn_185 : fnB P 185 = true := by kernel_rfl
theorem fn_186 : fnB P 186 = true := by kernel_rfl
theorem fn_187 : fnB P 187 = true := by kernel_rfl
theorem fn_188 : fnB P 188 = true := by kernel_rfl
theorem fn_189 : fnB P 189 = true := by kernel_rfl
theorem fn_190 : fnB P 190 = true := by kernel_rfl
theorem fn_191 : fnB P 191 = true := by kernel_rfl
theorem fn_192 : fnB P 192 = true := by kernel_rfl
theorem fn_193 : fnB P 193 = true := by kernel_rfl
theorem fn_194 : fnB P 194 = true := by kernel_rfl
theorem fn_195 : fnB P 195 = true := by kernel_rfl
theorem fn_196 : fnB P 196 = true := by kernel_rfl
theorem fn_197 : fnB P 197 = true := by kernel_rfl
theorem fn_198 : fnB P 198 = true := by kernel_rfl
theorem fn_199 : fnB P 199 = true := by kernel_rfl
theorem fn_200 : fnB P 200 = true := by kernel_rfl
theorem fn_201 : fnB P 201 = true := by kernel_rfl
theorem fn_202 : fnB P 202 = true := by kernel_rfl
theorem fn_205 : fnB P 205 = true := by kernel_rfl
theorem fn_207 : fnB P 207 = true := by kernel_rfl
theorem fn_208 : fnB P 208 = true := by kernel_rfl
theorem fn_209 : fnB P 209 = true := by kernel_rfl
theorem fn_210 : fnB P 210 = true := by kernel_rfl
theorem fn_211 : fnB P 211 = true := by kernel_rfl
theorem fn_212 : fnB P 212 = true := by kernel_rfl
theorem fn_213 : fnB P 213 = true := by kernel_rfl
theorem fn_214 : fnB P 214 = true := by kernel_rfl
theorem fn_217 : fnB P 217 = true := by kernel_rfl
theorem fn_218 : fnB P 218 = true := by kernel_rfl
theorem fn_219 : fnB P 219 = true := by kernel_rfl
theorem fn_220 : fnB P 220 = true := by kernel_rfl
theorem mixed : P.follows .mixedOrders = true := by kernel_rfl
end Go.Proofs.YtgoiacajjicjcaaGreat
set_option maxRecDepth 20000
namespace Go.Proofs.YtgoiacajjicjcaaGreat
set_option linter.unusedVariables false
set_option linter.unusedSimpArgs false
open Go.Ab Go.RowKit
theorem isNaN_ok (x : Int) : Tells P 205 [.val i64T x] (.val boolT false) := by
 refine fn_of_aw Tryz.func205 rfl rfl rfl (fun ext w hext => ?_)
 refine aw_fact (d := 0) rfl fact_int (fun hin0 => ?_)
 refine CQR ?_; refine A0 aV ?_; refine CNQR ?_; refine A0 mV ?_; refine A0 mV ?_; refine A0 o_neq ?_; refine A0 aV ?_; refine CN ?_
 exact aw_ret1 rfl rfl (ret_val (by simp [Fr.set]))
def cmpInt (x y : Int) : Int := if x < y then -1 else if y < x then 1 else 0
theorem cmpInt_ok (x y : Int) : Tells P 173 [.val i64T x, .val i64T y] (.val i64T (cmpInt x y)) := by
 refine fn_of_aw Tryz.func173 rfl rfl rfl (fun ext w hext => ?_)
 refine aw_fact (d := 0) rfl fact_int (fun hin0 => ?_)
 refine aw_fact (d := 1) rfl fact_int (fun hin1 => ?_)
 refine CQR ?_; refine A0 aV ?_; refine CNQR ?_; refine A0 mV ?_; refine A0 (oCl (isNaN_ok _) rfl fn_205 ⟨(arg_v rfl), trivial⟩) ?_; refine A0 aV ?_; refine CNQR ?_; refine A0 mV ?_
 refine A0 (oCl (isNaN_ok _) rfl fn_205 ⟨(arg_v rfl), trivial⟩) ?_; refine A0 aV ?_; refine CNQQR ?_; refine A0 mV ?_; refine CN ?_; refine Cg ?_; refine CSQQR ?_; refine A0 mV ?_; refine CN ?_; refine Cg ?_; refine CSQQR ?_; refine A0 mV ?_
 refine A0 mV ?_; refine A0 o_lss ?_; refine CN ?_
 refine aw_ifc (p := x < y) rfl (rfl) (fun ht16 => ?_) (fun ht16 => ?_)
 ·
  refine CQR ?_; refine A0 aV ?_; refine CN ?_
  exact aw_ret1 rfl rfl (ret_eq rfl (by unfold cmpInt; first | rw [if_neg (by assumption), if_neg (by assumption)] | rw [if_neg (by assumption), if_pos (by assumption)] | rw [if_pos (by assumption)]))
 ·
  refine CSQQR ?_; refine A0 mV ?_; refine A0 mV ?_; refine A0 o_gtr ?_; refine CN ?_
  refine aw_ifc (p := y < x) rfl (rfl) (fun ht19 => ?_) (fun ht19 => ?_)
  ·
   refine CQR ?_; refine A0 aV ?_; refine CN ?_
   exact aw_ret1 rfl rfl (ret_eq rfl (by unfold cmpInt; first | rw [if_neg (by assumption), if_neg (by assumption)] | rw [if_neg (by assumption), if_pos (by assumption)] | rw [if_pos (by assumption)]))
  ·
   refine CSQR ?_; refine A0 aV ?_; refine CN ?_
   exact aw_ret1 rfl rfl (ret_eq rfl (by unfold cmpInt; first | rw [if_neg (by assumption), if_neg (by assumption)] | rw [if_neg (by assumption), if_pos (by assumption)] | rw [if_pos (by assumption)]))
end Go.Proofs.YtgoiacajjicjcaaGreat
set_option maxRecDepth 20000
namespace Go.Proofs.YtgoiacajjicjcaaGreat
set_option linter.unusedVariables false
set_option linter.unusedSimpArgs false
open Go.Ab Go.RowKit
def idx {α : Type} (p : α → Bool) : List α → Int
  | [] => -1
  | x :: l => if p x then 0 else if idx p l < 0 then -1 else idx p l + 1
def shift (k : Nat) (n : Int) : Int := if n < 0 then -1 else n + k
theorem idx_ge {α : Type} (p : α → Bool) : ∀ l, -1 ≤ idx p l
  | [] => by simp [idx]
  | x :: l => by have := idx_ge p l; unfold idx; split <;> first | omega | (split <;> omega)
theorem idx_yes {α : Type} {p : α → Bool} {l : List α} {k : Nat} {x : α} (h : l[k]? = some x) (hp : p x = true) : shift k (idx p (l.drop k)) = k := by
  obtain ⟨hk, rfl⟩ := List.getElem?_eq_some_iff.1 h
  rw [List.drop_eq_getElem_cons hk]
  simp [idx, hp, shift]
theorem idx_no {α : Type} {p : α → Bool} {l : List α} {k : Nat} {x : α} (h : l[k]? = some x) (hp : ¬ p x = true) : shift k (idx p (l.drop k)) = shift (k + 1) (idx p (l.drop (k + 1))) := by
  obtain ⟨hk, rfl⟩ := List.getElem?_eq_some_iff.1 h
  rw [List.drop_eq_getElem_cons hk]
  have h2 := idx_ge p (l.drop (k + 1))
  simp only [idx, if_neg hp]
  generalize idx p (l.drop (k + 1)) = n at *
  unfold shift
  by_cases c : n < 0
  · rw [if_pos c, if_pos c]; rfl
  · rw [if_neg c, if_neg c, if_neg (by omega)]; omega
theorem shift_zero {α : Type} (p : α → Bool) (l : List α) : idx p l = shift 0 (idx p (l.drop 0)) := by
  have := idx_ge p l
  unfold shift
  simp only [List.drop_zero]
  split <;> omega
theorem idx_end {α : Type} {p : α → Bool} {l : List α} {k : Nat} (h : l.length ≤ k) : shift k (idx p (l.drop k)) = -1 := by
  rw [List.drop_of_length_le h]; simp [idx, shift]
theorem idx_any {α : Type} (p : α → Bool) : ∀ l, decide (0 ≤ idx p l) = l.any p
  | [] => by simp [idx]
  | x :: l => by
    have ih := idx_any p l
    have := idx_ge p l
    rw [List.any_cons, ← ih]
    by_cases c : p x = true
    · simp [idx, c]
    · simp only [idx, if_neg c, Bool.not_eq_true] at *
      rw [c, Bool.false_or, decide_eq_decide]
      split <;> omega
theorem beq_all_succ {α : Type} [DecidableEq α] {l m : List α} {k : Nat} {x y : α} (hx : l[k]? = some x) (hy : m[k]? = some y) (h : l.take k = m.take k) (e : x = y) : l.take (k + 1) = m.take (k + 1) := by
  rw [List.take_add_one, List.take_add_one, h, hx, hy, e]
theorem ne_of_at {α : Type} {l m : List α} {k : Nat} {x y : α} (hx : l[k]? = some x) (hy : m[k]? = some y) (e : ¬ x = y) : ¬ l = m := fun h => e (by rw [h, hy] at hx; injection hx with hx; exact hx.symm)
theorem indexFuncCoin (l : List Coin) (p : Coin → Bool) : Tells P 214 [.val (bsl coinT) l, .fn1 P coinT boolT p] (.val i64T (idx p l)) := by
 refine fn_of_aw Tryz.func214 rfl rfl rfl (fun ext w hext => ?_)
 refine aw_fact (d := 0) rfl fact_sl (fun hsl0 => ?_)
 refine CQR ?_; refine A0 aV ?_; refine CNQQR ?_; refine A0 mV ?_; refine A0 (g_len rfl rfl isl_35) ?_; refine A0 mV ?_; refine CNB ?_
 refine Lp (ι := Nat) 0 (fun (k : Nat) => (((((Fr.none).set 0 (.val (bsl coinT) l)).set 1 (.fn1 P coinT boolT p)).set 6 (.val (bsl coinT) l)).set 7 (.val i64T (l.length : Int))).set 8 (.val i64T (k : Int))) (fun (k : Nat) => Hp.none) (fun (k : Nat) => k ≤ l.length ∧ idx p l = shift k (idx p (l.drop k))) (fun (k : Nat) => l.length - k) (0) (⟨Nat.zero_le _, shift_zero p l⟩) ?_
 intro k hinv
 refine CQR ?_; refine A0 o_lss ?_; refine CNQ ?_
 refine Cf (p := k < l.length) (fun ht9 => ?_) (fun ht9 => ?_)
 ·
  obtain ⟨x, hx⟩ : ∃ x, l[k]? = some x := ⟨_, List.getElem?_eq_getElem ht9⟩
  refine CSQBQR ?_; refine A0 mV ?_; refine A0 aV ?_; refine CNQR ?_; refine A0 mF ?_; refine A0 mV ?_; refine A0 mV ?_; refine A0 (g_ia_n rfl rfl rfl sl_35 (by assumption)) ?_; refine A0 (g_load_r rfl rfl ty_123) ?_
  refine A0 (g_callf1 rfl rfl (by first | exact arg_same rfl | exact arg_bsl rfl | exact arg_own rfl rfl | exact arg_nil rfl | exact arg_rptr rfl | exact arg_fn rfl rfl | exact arg_lit rfl)) ?_; refine CN ?_
  refine aw_ifc (p := p x = true) rfl (by simp) (fun ht16 => ?_) (fun ht16 => ?_)
  ·
   refine CQR ?_; refine A0 mV ?_; refine A0 aV ?_; refine CN ?_
   exact aw_ret1 rfl rfl (ret_eq rfl (hinv.2.trans (idx_yes hx ht16)).symm)
  ·
   refine CSIR ?_; refine A0 o_add ?_; refine A0 mV ?_; refine CN ?_
   exact Nx (k + 1) (⟨by omega, hinv.2.trans (idx_no hx ht16)⟩) (by omega)
 ·
  refine CE ?_; refine CQR ?_; refine A0 aV ?_; refine CN ?_
  exact aw_ret1 rfl rfl (ret_eq rfl (hinv.2.trans (idx_end (by omega))).symm)
theorem containsFuncCoin (l : List Coin) (p : Coin → Bool) : Tells P 188 [.val (bsl coinT) l, .fn1 P coinT boolT p] (.val boolT (l.any p)) := by
 refine fn_of_aw Tryz.func188 rfl rfl rfl (fun ext w hext => ?_)
 refine aw_fact (d := 0) rfl fact_sl (fun hsl0 => ?_)
 refine CQR ?_; refine A0 aV ?_; refine CNQR ?_; refine A0 mV ?_; refine A0 mF ?_; refine A0 (oCl (indexFuncCoin _ _) rfl fn_214 ⟨(arg_v rfl), (arg_fn rfl rfl), trivial⟩) ?_; refine A0 o_geq ?_; refine A0 aV ?_; refine CN ?_
 exact aw_ret1 rfl rfl (ret_eq rfl (idx_any p l))
theorem indexFuncOut (l : List Out) (p : Out → Bool) : Tells P 213 [.val (bsl outT) l, .fn1 P outT boolT p] (.val i64T (idx p l)) := by
 refine fn_of_aw Tryz.func213 rfl rfl rfl (fun ext w hext => ?_)
 refine aw_fact (d := 0) rfl fact_sl (fun hsl0 => ?_)
 refine CQR ?_; refine A0 aV ?_; refine CNQQR ?_; refine A0 mV ?_; refine A0 (g_len rfl rfl isl_97) ?_; refine A0 mV ?_; refine CNB ?_
 refine Lp (ι := Nat) 0 (fun (k : Nat) => (((((Fr.none).set 0 (.val (bsl outT) l)).set 1 (.fn1 P outT boolT p)).set 6 (.val (bsl outT) l)).set 7 (.val i64T (l.length : Int))).set 8 (.val i64T (k : Int))) (fun (k : Nat) => Hp.none) (fun (k : Nat) => k ≤ l.length ∧ idx p l = shift k (idx p (l.drop k))) (fun (k : Nat) => l.length - k) (0) (⟨Nat.zero_le _, shift_zero p l⟩) ?_
 intro k hinv
 refine CQR ?_; refine A0 o_lss ?_; refine CNQ ?_
 refine Cf (p := k < l.length) (fun ht9 => ?_) (fun ht9 => ?_)
 ·
  obtain ⟨x, hx⟩ : ∃ x, l[k]? = some x := ⟨_, List.getElem?_eq_getElem ht9⟩
  refine CSQBQR ?_; refine A0 mV ?_; refine A0 aV ?_; refine CNQR ?_; refine A0 mF ?_; refine A0 mV ?_; refine A0 mV ?_; refine A0 (g_ia_n rfl rfl rfl sl_97 (by assumption)) ?_; refine A0 (g_load_r rfl rfl ty_121) ?_
  refine A0 (g_callf1 rfl rfl (by first | exact arg_same rfl | exact arg_bsl rfl | exact arg_own rfl rfl | exact arg_nil rfl | exact arg_rptr rfl | exact arg_fn rfl rfl | exact arg_lit rfl)) ?_; refine CN ?_
  refine aw_ifc (p := p x = true) rfl (by simp) (fun ht16 => ?_) (fun ht16 => ?_)
  ·
   refine CQR ?_; refine A0 mV ?_; refine A0 aV ?_; refine CN ?_
   exact aw_ret1 rfl rfl (ret_eq rfl (hinv.2.trans (idx_yes hx ht16)).symm)
  ·
   refine CSIR ?_; refine A0 o_add ?_; refine A0 mV ?_; refine CN ?_
   exact Nx (k + 1) (⟨by omega, hinv.2.trans (idx_no hx ht16)⟩) (by omega)
 ·
  refine CE ?_; refine CQR ?_; refine A0 aV ?_; refine CN ?_
  exact aw_ret1 rfl rfl (ret_eq rfl (hinv.2.trans (idx_end (by omega))).symm)
theorem containsFuncOut (l : List Out) (p : Out → Bool) : Tells P 187 [.val (bsl outT) l, .fn1 P outT boolT p] (.val boolT (l.any p)) := by
 refine fn_of_aw Tryz.func187 rfl rfl rfl (fun ext w hext => ?_)
 refine aw_fact (d := 0) rfl fact_sl (fun hsl0 => ?_)
 refine CQR ?_; refine A0 aV ?_; refine CNQR ?_; refine A0 mV ?_; refine A0 mF ?_; refine A0 (oCl (indexFuncOut _ _) rfl fn_213 ⟨(arg_v rfl), (arg_fn rfl rfl), trivial⟩) ?_; refine A0 o_geq ?_; refine A0 aV ?_; refine CN ?_
 exact aw_ret1 rfl rfl (ret_eq rfl (idx_any p l))
theorem cloneCoin (l : List Coin) (hl : l.length * 56 ≤ 140737488355328 ∧ l.length ≤ 9223372036854775807) : Tells P 114 [.val (bsl coinT) l] (.fresh 123 coinT l) := by
 refine fn_of_aw Tryz.func114 rfl rfl rfl (fun ext w hext => ?_)
 refine aw_fact (d := 0) rfl fact_sl (fun hsl0 => ?_)
 refine CQR ?_; refine A0 aL ?_; refine CNQQR ?_; refine A0 mV ?_
 refine aw_eqnil rfl rfl rfl rfl rfl isl_35 (fun c4 hc4 => ?_)
 refine CN ?_
 refine aw_ifc (p := c4 = true) rfl (by simp) (fun ht4 => ?_) (fun ht4 => ?_)
 ·
  obtain rfl := hc4 ht4
  refine CQR ?_; refine A0 aL ?_; refine CN ?_
  exact aw_ret1 rfl rfl (ret_fresh_nil rfl)
 ·
  refine CSQR ?_; refine aw_bslice (T := coinT) (xs := []) rfl rfl rfl rfl sl_35 row_35 trivial rfl rfl ?_; refine A0 mV ?_; refine aw_append rfl rfl rfl rfl rfl rfl rfl row_35 (by simpa using hl) ?_; refine A0 aO ?_; refine CN ?_
  exact aw_ret1 rfl rfl (ret_fresh_eq rfl rfl (by simp))
end Go.Proofs.YtgoiacajjicjcaaGreat
set_option maxRecDepth 20000
namespace Go.Proofs.YtgoiacajjicjcaaGreat
set_option linter.unusedVariables false
set_option linter.unusedSimpArgs false
open Go.Ab Go.RowKit
theorem ext_bcmp : ExtAt P 204 Extern.BytealgCompare.compare := ⟨_, rfl, rfl, rfl, rfl, rfl⟩
def orL : List Int → Int
  | [] => 0
  | x :: l => if x = 0 then orL l else x
theorem orL_step {l : List Int} {k : Nat} {x : Int} (h : l[k]? = some x) (e : ¬ x ≠ 0) : orL (l.drop k) = orL (l.drop (k + 1)) := by
  obtain ⟨hk, rfl⟩ := List.getElem?_eq_some_iff.1 h
  rw [List.drop_eq_getElem_cons hk]
  simp [orL, Classical.not_not.1 e]
theorem orL_hit {l : List Int} {k : Nat} {x : Int} (h : l[k]? = some x) (e : x ≠ 0) : orL (l.drop k) = x := by
  obtain ⟨hk, rfl⟩ := List.getElem?_eq_some_iff.1 h
  rw [List.drop_eq_getElem_cons hk]
  simp [orL, e]
theorem orInt (l : List Int) : Tells P 171 [.val (bsl i64T) l] (.val i64T (orL l)) := by
 refine fn_of_aw Tryz.func171 rfl rfl rfl (fun ext w hext => ?_)
 refine aw_fact (d := 0) rfl fact_sl (fun hsl0 => ?_)
 refine CQR ?_; refine A0 aV ?_; refine CNQR ?_; refine A0 aV ?_; refine CNQQR ?_; refine A0 mV ?_; refine A0 (g_len rfl rfl isl_221) ?_; refine A0 mV ?_; refine CNB ?_
 refine Lp (ι := Nat) 0 (fun (k : Nat) => ((((Fr.none).set 3 (.val i64T 0)).set 6 (.val (bsl i64T) l)).set 7 (.val i64T (l.length : Int))).set 8 (.val i64T (k : Int))) (fun (k : Nat) => Hp.none) (fun (k : Nat) => k ≤ l.length ∧ orL l = orL (l.drop k)) (fun (k : Nat) => l.length - k) (0) (⟨Nat.zero_le _, rfl⟩) ?_
 intro k hinv
 refine CQR ?_; refine A0 o_lss ?_; refine CNQ ?_
 refine Cf (p := k < l.length) (fun ht9 => ?_) (fun ht9 => ?_)
 ·
  obtain ⟨x, hx⟩ : ∃ x, l[k]? = some x := ⟨_, List.getElem?_eq_getElem ht9⟩
  refine CSQBQR ?_; refine A0 (g_ia_n rfl rfl rfl sl_221 (by assumption)) ?_; refine A0 (g_load_r rfl rfl ty_3) ?_; refine A0 aX ?_; refine CNQR ?_; refine A0 mX ?_; refine A0 mV ?_; refine A0 o_neq ?_; refine CN ?_
  refine aw_ifc (p := x ≠ 0) rfl (by simp [IntL.toI]) (fun ht14 => ?_) (fun ht14 => ?_)
  ·
   refine CQR ?_; refine A0 mX ?_; refine A0 aX ?_; refine CN ?_
   exact aw_ret1 rfl rfl (ret_eq rfl (hinv.2.trans (orL_hit hx ht14)).symm)
  ·
   refine CSIR ?_; refine A0 o_add ?_; refine A0 mV ?_; refine CN ?_
   exact Nx (k + 1) (⟨by omega, hinv.2.trans (orL_step hx ht14)⟩) (by omega)
 ·
  refine CE ?_; refine CQR ?_; refine A0 mV ?_; refine A0 aV ?_; refine CN ?_
  exact aw_ret1 rfl rfl (ret_eq rfl (by rw [hinv.2, List.drop_of_length_le (by omega)]; rfl))
theorem bcompare (a b : List UInt8) : Tells P 172 [.val (bsl u8T) a, .val (bsl u8T) b] (.val i64T (Lib.compareBytes a b)) := by
 refine fn_of_aw Tryz.func172 rfl rfl rfl (fun ext w hext => ?_)
 refine aw_fact (d := 0) rfl fact_sl (fun hsl0 => ?_)
 refine aw_fact (d := 1) rfl fact_sl (fun hsl1 => ?_)
 refine CQR ?_; refine A0 aV ?_; refine CNQR ?_; refine A0 mV ?_; refine A0 mV ?_; refine A0 (g_bcmp rfl ext_bcmp rfl rfl) ?_; refine A0 aX ?_; refine CN ?_
 exact aw_ret1 rfl rfl (by first | exact ret_val rfl | exact ret_own rfl rfl | exact ret_nil rfl | exact ret_fresh rfl rfl | exact ret_fresh_nil rfl | exact ret_lit rfl)
def ordIn (a b : In) : Int := orL [Lib.compareBytes a.tx b.tx, cmpInt a.i b.i]
theorem order_ok (a b : In) : Tells P 132 [.val inT a, .val inT b] (.val i64T (ordIn a b)) := by
 refine fn_of_aw Tryz.func132 rfl rfl rfl (fun ext w hext => ?_)
 refine CQR ?_; refine aw_box rfl rfl rfl rfl rfl ?_; refine aw_box rfl rfl rfl rfl rfl ?_; refine A0 aV ?_; refine CNQ ?_; refine CD mixed ?_; refine G0 (oFp fd_119_0) ?_; refine G0 (g_slice_b rfl rfl ar_23 rfl rfl) ?_
 refine G0 (oFp fd_119_0) ?_; refine G0 (g_slice_b rfl rfl ar_23 rfl rfl) ?_; refine G0 (oCl (bcompare _ _) rfl fn_172 ⟨(by exact arg_vw rfl rfl L_In_tx), (by exact arg_vw rfl rfl L_In_tx), trivial⟩) ?_; refine G0 (oFp fd_119_1) ?_
 refine G0 (oLb L_In_i ty_3) ?_; refine G0 (oFp fd_119_1) ?_; refine G0 (oLb L_In_i ty_3) ?_; refine G0 (oCl (cmpInt_ok _ _) rfl fn_173 ⟨(arg_v rfl), (arg_v rfl), trivial⟩) ?_
 refine G0 (g_bslice (T := i64T) (xs := [_, _]) rfl sl_221 row_221 ⟨rfl, rfl, rfl, rfl, trivial⟩ rfl rfl) ?_; refine G0 (oCl (orInt _) rfl fn_171 ⟨(arg_v rfl), trivial⟩) ?_; refine G0 aV ?_; refine GK.nil ?_
 exact aw_ret1 rfl rfl (by first | exact ret_val rfl | exact ret_own rfl rfl | exact ret_nil rfl | exact ret_fresh rfl rfl | exact ret_fresh_nil rfl | exact ret_lit rfl)
theorem all_range_succ {p : Nat → Bool} {k : Nat} (h : (List.range k).all p = true) (hk : p k = true) : (List.range (k + 1)).all p = true := by
  rw [List.range_succ, List.all_append, h]; simp [hk]
theorem all_range_fail {p : Nat → Bool} {k n : Nat} (hk : k < n) (h : p k = false) : (List.range n).all p = false := by
  rw [List.all_eq_false]; exact ⟨k, by simpa using hk, by simp [h]⟩
def coinOk (c : Coin) : Bool := decide (0 ≤ c.inn.i ∧ c.inn.i < 3 ∧ 1 ≤ c.out.v ∧ c.out.v ≤ 1099511627776 ∧ 0 ≤ c.out.to ∧ c.out.to ≤ 255)
def coinAt (p : List Coin) (k : Nat) : Bool := match p[k]? with
  | none => true
  | some c => coinOk c && (match k with | 0 => true | k + 1 => match p[k]? with | none => true | some b => decide (ordIn b.inn c.inn < 0))
def mayCoins (p : List Coin) : Bool := (List.range p.length).all (coinAt p) && decide (p.length ≤ 48)
theorem coinAt_bad {p : List Coin} {k : Nat} {c : Coin} (h : p[k]? = some c) (hk : k < p.length) (hb : ¬ (0 ≤ c.inn.i ∧ c.inn.i < 3 ∧ 1 ≤ c.out.v ∧ c.out.v ≤ 1099511627776 ∧ 0 ≤ c.out.to ∧ c.out.to ≤ 255)) : mayCoins p = false := by
  unfold mayCoins
  rw [all_range_fail hk (by unfold coinAt coinOk; rw [h]; simp only [decide_eq_false hb, Bool.false_and]), Bool.false_and]
theorem coinAt_unsorted {p : List Coin} {k : Nat} {b c : Coin} (h : p[k]? = some c) (hk : k < p.length) (h0 : 0 < k) (hb : p[k - 1]? = some b) (ho : ¬ ordIn b.inn c.inn < 0) : mayCoins p = false := by
  unfold mayCoins
  obtain ⟨m, rfl⟩ : ∃ m, k = m + 1 := ⟨k - 1, by omega⟩
  simp only [Nat.add_sub_cancel] at hb
  rw [all_range_fail hk (by unfold coinAt; rw [h]; simp only [hb, decide_eq_false ho, Bool.and_false]), Bool.false_and]
theorem coinAt_first {p : List Coin} {c : Coin} (h : p[0]? = some c) (hb : 0 ≤ c.inn.i ∧ c.inn.i < 3 ∧ 1 ≤ c.out.v ∧ c.out.v ≤ 1099511627776 ∧ 0 ≤ c.out.to ∧ c.out.to ≤ 255) : coinAt p 0 = true := by
  unfold coinAt coinOk; rw [h]; simp only [decide_eq_true hb, Bool.and_self]
theorem coinAt_next {p : List Coin} {k : Nat} {b c : Coin} (h : p[k]? = some c) (h0 : 0 < k) (hb : p[k - 1]? = some b) (ho : ordIn b.inn c.inn < 0) (hc : 0 ≤ c.inn.i ∧ c.inn.i < 3 ∧ 1 ≤ c.out.v ∧ c.out.v ≤ 1099511627776 ∧ 0 ≤ c.out.to ∧ c.out.to ≤ 255) : coinAt p k = true := by
  obtain ⟨m, rfl⟩ : ∃ m, k = m + 1 := ⟨k - 1, by omega⟩
  simp only [Nat.add_sub_cancel] at hb
  unfold coinAt coinOk; rw [h]; simp only [hb, decide_eq_true ho, decide_eq_true hc, Bool.and_self]
theorem may_ok (p : List Coin) : Tells P 79 [.val (bsl coinT) p] (.val boolT (mayCoins p)) := by
 refine fn_of_aw Tryz.func79 rfl rfl rfl (fun ext w hext => ?_)
 refine aw_fact (d := 0) rfl fact_sl (fun hsl0 => ?_)
 refine CQR ?_; refine A0 aV ?_; refine CNQQR ?_; refine A0 mV ?_; refine A0 (g_len rfl rfl isl_35) ?_; refine A0 mV ?_; refine CNB ?_
 refine Lp (ι := Nat) 0 (fun (k : Nat) => ((((Fr.none).set 0 (.val (bsl coinT) p)).set 5 (.val (bsl coinT) p)).set 6 (.val i64T (p.length : Int))).set 7 (.val i64T (k : Int))) (fun (k : Nat) => Hp.none) (fun (k : Nat) => k ≤ p.length ∧ (List.range k).all (coinAt p) = true) (fun (k : Nat) => p.length - k) (0) (⟨Nat.zero_le _, rfl⟩) ?_
 intro k hinv
 refine CQR ?_; refine A0 o_lss ?_; refine CNQ ?_
 refine Cf (p := k < p.length) (fun ht8 => ?_) (fun ht8 => ?_)
 ·
  obtain ⟨c, hc⟩ : ∃ c, p[k]? = some c := ⟨_, List.getElem?_eq_getElem ht8⟩
  refine CSQBQR ?_; refine A0 mV ?_; refine A0 (g_ia_n rfl rfl rfl sl_35 (by assumption)) ?_; refine A0 (g_load_r rfl rfl ty_123) ?_; refine aw_alloc ze_123 rfl rfl rfl rfl ?_; refine A0 aV ?_
  refine aw_store_b rfl rfl rfl rfl rfl (Lens.self _) ty_123 rfl ?_; refine CNQQR ?_; refine A0 (oFp fd_123_0) ?_; refine A0 (oFp fd_119_1) ?_; refine A0 (oLb (L_Coin_inn.comp L_In_i) ty_3) ?_; refine A0 o_lss ?_; refine A0 mV ?_
  refine Sp (d := 16) (p := c.inn.i < 0) (fun g16 => ?_) (fun g16 => ?_)
  ·
   refine A2 ?_; refine A2 ?_; refine A2 ?_; refine A2 ?_; refine A0 oK ?_; refine A0 mV ?_; refine A2 ?_; refine A2 ?_; refine A2 ?_; refine A2 ?_; refine A0 oK ?_; refine A0 mV ?_; refine A2 ?_; refine A2 ?_; refine A2 ?_; refine A2 ?_
   refine A0 oK ?_; refine A0 mV ?_; refine A2 ?_; refine A2 ?_; refine A2 ?_; refine A2 ?_; refine A0 oK ?_; refine A0 mV ?_; refine A2 ?_; refine A2 ?_; refine A2 ?_; refine A2 ?_; refine A0 oK ?_; refine CN ?_; refine Ct ?_; refine CQR ?_
   refine A0 aV ?_; refine CN ?_
   exact aw_ret1 rfl rfl (ret_eq rfl (coinAt_bad hc ht8 (by omega)).symm)
  ·
   refine A1 (oFp fd_123_0) ?_; refine A1 (oFp fd_119_1) ?_; refine A1 (oLb (L_Coin_inn.comp L_In_i) ty_3) ?_; refine A1 o_geq ?_; refine A0 oK ?_; refine A0 mV ?_
   refine Sp (d := 22) (p := 3 ≤ c.inn.i) (fun g22 => ?_) (fun g22 => ?_)
   ·
    refine A2 ?_; refine A2 ?_; refine A2 ?_; refine A2 ?_; refine A0 oK ?_; refine A0 mV ?_; refine A2 ?_; refine A2 ?_; refine A2 ?_; refine A2 ?_; refine A0 oK ?_; refine A0 mV ?_; refine A2 ?_; refine A2 ?_; refine A2 ?_; refine A2 ?_
    refine A0 oK ?_; refine A0 mV ?_; refine A2 ?_; refine A2 ?_; refine A2 ?_; refine A2 ?_; refine A0 oK ?_; refine CN ?_; refine Ct ?_; refine CQR ?_; refine A0 aV ?_; refine CN ?_
    exact aw_ret1 rfl rfl (ret_eq rfl (coinAt_bad hc ht8 (by omega)).symm)
   ·
    refine A1 (oFp fd_123_1) ?_; refine A1 (oFp fd_121_0) ?_; refine A1 (oLb (L_Coin_out.comp L_Out_v) ty_3) ?_; refine A1 o_lss ?_; refine A0 oK ?_; refine A0 mV ?_
    refine Sp (d := 28) (p := c.out.v < 1) (fun g28 => ?_) (fun g28 => ?_)
    ·
     refine A2 ?_; refine A2 ?_; refine A2 ?_; refine A2 ?_; refine A0 oK ?_; refine A0 mV ?_; refine A2 ?_; refine A2 ?_; refine A2 ?_; refine A2 ?_; refine A0 oK ?_; refine A0 mV ?_; refine A2 ?_; refine A2 ?_; refine A2 ?_; refine A2 ?_
     refine A0 oK ?_; refine CN ?_; refine Ct ?_; refine CQR ?_; refine A0 aV ?_; refine CN ?_
     exact aw_ret1 rfl rfl (ret_eq rfl (coinAt_bad hc ht8 (by omega)).symm)
    ·
     refine A1 (oFp fd_123_1) ?_; refine A1 (oFp fd_121_0) ?_; refine A1 (oLb (L_Coin_out.comp L_Out_v) ty_3) ?_; refine A1 o_gtr ?_; refine A0 oK ?_; refine A0 mV ?_
     refine Sp (d := 34) (p := 1099511627776 < c.out.v) (fun g34 => ?_) (fun g34 => ?_)
     ·
      refine A2 ?_; refine A2 ?_; refine A2 ?_; refine A2 ?_; refine A0 oK ?_; refine A0 mV ?_; refine A2 ?_; refine A2 ?_; refine A2 ?_; refine A2 ?_; refine A0 oK ?_; refine CN ?_; refine Ct ?_; refine CQR ?_; refine A0 aV ?_; refine CN ?_
      exact aw_ret1 rfl rfl (ret_eq rfl (coinAt_bad hc ht8 (by omega)).symm)
     ·
      refine A1 (oFp fd_123_1) ?_; refine A1 (oFp fd_121_1) ?_; refine A1 (oLb (L_Coin_out.comp L_Out_to) ty_3) ?_; refine A1 o_lss ?_; refine A0 oK ?_; refine A0 mV ?_
      refine Sp (d := 40) (p := c.out.to < 0) (fun g40 => ?_) (fun g40 => ?_)
      ·
       refine A2 ?_; refine A2 ?_; refine A2 ?_; refine A2 ?_; refine A0 oK ?_; refine CN ?_; refine Ct ?_; refine CQR ?_; refine A0 aV ?_; refine CN ?_
       exact aw_ret1 rfl rfl (ret_eq rfl (coinAt_bad hc ht8 (by omega)).symm)
      ·
       refine A1 (oFp fd_123_1) ?_; refine A1 (oFp fd_121_1) ?_; refine A1 (oLb (L_Coin_out.comp L_Out_to) ty_3) ?_; refine A1 o_gtr ?_; refine A0 oK ?_
       refine Sp (d := 45) (p := 255 < c.out.to) (fun g45 => ?_) (fun g45 => ?_)
       ·
        refine CN ?_; refine Ct ?_; refine CQR ?_; refine A0 aV ?_; refine CN ?_
        exact aw_ret1 rfl rfl (ret_eq rfl (coinAt_bad hc ht8 (by omega)).symm)
       ·
        refine CN ?_; refine Cg ?_; refine CS ?_; refine CQ ?_; refine CD mixed ?_; refine G0 mV ?_; refine G0 o_gtr ?_; refine G0 mV ?_
        refine GK_splitp (d := 48) (p := 0 < k) rfl (by first | rfl | (rw [decide_eq_decide]; simp only [IntL.toI, id_eq]; omega) | (simp [IntL.toI]; done) | (simp [IntL.toI]; omega)) (fun g48 => ?_) (fun g48 => ?_)
        ·
         obtain ⟨b, hb⟩ : ∃ b, p[k - 1]? = some b := ⟨_, List.getElem?_eq_getElem (by omega)⟩
         refine G1 mV ?_; refine G1 mV ?_; refine G1 o_sub ?_; refine G1 (g_ia_i (i := k - 1) rfl rfl rfl (by omega) sl_35 (by assumption)) ?_; refine G1 (oFr fd_123_0 L_Coin_inn) ?_; refine G1 (g_load_r rfl rfl ty_119) ?_; refine G1 (oFp fd_123_0) ?_
         refine G1 (oLb L_Coin_inn ty_119) ?_
         refine G1 (oCl (order_ok _ _) rfl fn_132 ⟨(by first | exact arg_same rfl | exact arg_bsl rfl | exact arg_own rfl rfl | exact arg_nil rfl | exact arg_rptr rfl | exact arg_fn rfl rfl | exact arg_lit rfl), (arg_v rfl), trivial⟩) ?_
         refine G1 o_geq ?_; refine G0 oK ?_
         refine GK_splitp (d := 59) (p := ¬ ordIn b.inn c.inn < 0) rfl (by first | rfl | (rw [decide_eq_decide]; simp only [IntL.toI, id_eq]; omega) | (simp [IntL.toI]; done) | (simp [IntL.toI]; omega)) (fun g59 => ?_) (fun g59 => ?_)
         ·
          refine GK.nil ?_; refine Ct ?_; refine CQR ?_; refine A0 aV ?_; refine CN ?_
          exact aw_ret1 rfl rfl (ret_eq rfl (coinAt_unsorted hc ht8 (by omega) hb g59).symm)
         ·
          refine GK.nil ?_; refine Cg ?_; refine CSIR ?_; refine A0 o_add ?_; refine A0 mV ?_; refine CN ?_
          exact Nx (k + 1) (⟨by omega, all_range_succ hinv.2 (by first | exact coinAt_next hc g48 hb (by simpa using g59) (by omega) | (obtain rfl : k = 0 := (by omega); exact coinAt_first hc (by omega)))⟩) (by omega)
        ·
         refine G2 ?_; refine G2 ?_; refine G2 ?_; refine G2 ?_; refine G2 ?_; refine G2 ?_; refine G2 ?_; refine G2 ?_; refine G2 ?_; refine G2 ?_; refine G0 oK ?_; refine GK.nil ?_; refine Cg ?_; refine CSIR ?_; refine A0 o_add ?_; refine A0 mV ?_
         refine CN ?_
         exact Nx (k + 1) (⟨by omega, all_range_succ hinv.2 (by first | exact coinAt_next hc g48 hb (by simpa using g59) (by omega) | (obtain rfl : k = 0 := (by omega); exact coinAt_first hc (by omega)))⟩) (by omega)
 ·
  refine CE ?_; refine CQR ?_; refine A0 mV ?_; refine A0 (g_len rfl rfl isl_35) ?_; refine A0 o_leq ?_; refine A0 aV ?_; refine CN ?_
  exact aw_ret1 rfl rfl (ret_eq rfl (by unfold mayCoins; rw [show k = p.length by omega] at hinv; rw [hinv.2, Bool.true_and, decide_eq_decide]; simp only [IntL.toI, id_eq]; omega))
end Go.Proofs.YtgoiacajjicjcaaGreat
set_option maxRecDepth 20000
namespace Go.Proofs.YtgoiacajjicjcaaGreat
set_option linter.unusedVariables false
set_option linter.unusedSimpArgs false
open Go.Ab Go.RowKit
def worthF {α : Type} (f : α → Int) (l : List α) : Int := l.foldl (fun n x => IntKind.i64.wrap (n + f x)) 0
theorem worth_step {α : Type} {f : α → Int} {l : List α} {k : Nat} {x : α} (h : l[k]? = some x) : worthF f (l.take (k + 1)) = IntKind.i64.wrap (worthF f (l.take k) + f x) := by
  unfold worthF
  rw [List.take_add_one, h, List.foldl_append]; rfl
theorem worthOut (l : List Out) (f : Out → Int) : Tells P 192 [.val (bsl outT) l, .fn1 P outT i64T f] (.val i64T (worthF f l)) := by
 refine fn_of_aw Tryz.func192 rfl rfl rfl (fun ext w hext => ?_)
 refine aw_fact (d := 0) rfl fact_sl (fun hsl0 => ?_)
 refine CQR ?_; refine A0 aV ?_; refine CNQR ?_; refine A0 aV ?_; refine CNQQR ?_; refine A0 mV ?_; refine A0 (g_len rfl rfl isl_97) ?_; refine A0 mV ?_; refine CNB ?_
 refine Lp (ι := Nat) 0 (fun (k : Nat) => (((((Fr.none).set 1 (.fn1 P outT i64T f)).set 5 (.val i64T (worthF f (l.take k)))).set 8 (.val (bsl outT) l)).set 9 (.val i64T (l.length : Int))).set 10 (.val i64T (k : Int))) (fun (k : Nat) => Hp.none) (fun (k : Nat) => k ≤ l.length) (fun (k : Nat) => l.length - k) (0) (Nat.zero_le _) ?_
 intro k hinv
 refine CQR ?_; refine A0 o_lss ?_; refine CNQ ?_
 refine Cf (p := k < l.length) (fun ht11 => ?_) (fun ht11 => ?_)
 ·
  obtain ⟨x, hx⟩ : ∃ x, l[k]? = some x := ⟨_, List.getElem?_eq_getElem ht11⟩
  refine CSQBQR ?_; refine A0 (g_ia_n rfl rfl rfl sl_97 (by assumption)) ?_; refine A0 (g_load_r rfl rfl ty_121) ?_; refine aw_alloc ze_121 rfl rfl rfl rfl ?_; refine aw_store_b rfl rfl rfl rfl rfl (Lens.self _) ty_121 rfl ?_; refine CNR ?_
  refine A0 mV ?_; refine A0 mF ?_; refine A0 (oLs rfl rfl rfl ty_121) ?_; refine A0 (g_callf1 rfl rfl (arg_v rfl)) ?_; refine A0 o_add ?_; refine A0 aV ?_; refine CNIR ?_; refine A0 o_add ?_; refine A0 mV ?_; refine CN ?_
  refine aw_reval (d := 5) rfl (worth_step hx).symm ?_
  exact Nx (k + 1) (by omega) (by omega)
 ·
  refine CE ?_; refine CQR ?_; refine A0 mV ?_; refine A0 aV ?_; refine CN ?_
  exact aw_ret1 rfl rfl (ret_eq rfl (by rw [List.take_of_length_le (by omega)]))
theorem outs1_ok (o : Out) : Tells P 193 [.val outT o] (.val i64T o.v) := by
 refine fn_of_aw Tryz.func193 rfl rfl rfl (fun ext w hext => ?_)
 refine CQR ?_; refine aw_box rfl rfl rfl rfl rfl ?_; refine A0 aV ?_; refine CNQR ?_; refine A0 (oFp fd_121_0) ?_; refine A0 (oLb L_Out_v ty_3) ?_; refine A0 aV ?_; refine CN ?_
 exact aw_ret1 rfl rfl (by first | exact ret_val rfl | exact ret_own rfl rfl | exact ret_nil rfl | exact ret_fresh rfl rfl | exact ret_fresh_nil rfl | exact ret_lit rfl)
theorem outs_ok (t : Tx) : Tells P 149 [.val txT t] (.val i64T (worthF (·.v) t.outs)) := by
 refine fn_of_aw Tryz.func149 rfl rfl rfl (fun ext w hext => ?_)
 refine CQR ?_; refine aw_box rfl rfl rfl rfl rfl ?_; refine A0 aV ?_; refine CNQR ?_; refine A0 (oFp fd_99_1) ?_; refine A0 (oLb L_Tx_outs ty_97) ?_
 refine A0 (oCl (worthOut _ _) rfl fn_192 ⟨(arg_v rfl), (by first | exact arg_fn1 (Cs := []) rfl fn_193 (by intro n hn; cases hn) trivial rfl (fun x => outs1_ok _) | exact arg_fn2 (Cs := []) rfl fn_193 (by intro n hn; cases hn) trivial rfl (fun x y => outs1_ok _) | exact arg_clo rfl), trivial⟩) ?_
 refine A0 aV ?_; refine CN ?_
 exact aw_ret1 rfl rfl (by first | exact ret_val rfl | exact ret_own rfl rfl | exact ret_nil rfl | exact ret_fresh rfl rfl | exact ret_fresh_nil rfl | exact ret_lit rfl)
theorem made1_ok (id : Ab.Id) (c : Coin) : Tells P 189 [.val coinT c, .rptr idT id] (.val boolT (decide (c.inn.tx = id))) := by
 refine fn_of_aw Tryz.func189 rfl rfl rfl (fun ext w hext => ?_)
 refine CQR ?_; refine aw_box rfl rfl rfl rfl rfl ?_; refine A0 aV ?_; refine CNQR ?_; refine A0 (oFp fd_123_0) ?_; refine A0 (oFp fd_119_0) ?_; refine A0 (oLb (L_Coin_inn.comp L_In_tx) ty_23) ?_; refine A0 (g_load_r rfl rfl ty_23) ?_
 refine A0 (g_eqlS rfl rfl rfl (eqt_23)) ?_; refine A0 aV ?_; refine CN ?_
 exact aw_ret1 rfl rfl (by first | exact ret_val rfl | exact ret_own rfl rfl | exact ret_nil rfl | exact ret_fresh rfl rfl | exact ret_fresh_nil rfl | exact ret_lit rfl)
theorem made2_ok (a b : Coin) : Tells P 191 [.val coinT a, .val coinT b] (.val i64T (ordIn a.inn b.inn)) := by
 refine fn_of_aw Tryz.func191 rfl rfl rfl (fun ext w hext => ?_)
 refine CQR ?_; refine aw_box rfl rfl rfl rfl rfl ?_; refine aw_box rfl rfl rfl rfl rfl ?_; refine A0 aV ?_; refine CNQR ?_; refine A0 (oFp fd_123_0) ?_; refine A0 (oLb L_Coin_inn ty_119) ?_; refine A0 (oFp fd_123_0) ?_
 refine A0 (oLb L_Coin_inn ty_119) ?_; refine A0 (oCl (order_ok _ _) rfl fn_132 ⟨(arg_v rfl), (arg_v rfl), trivial⟩) ?_; refine A0 aV ?_; refine CN ?_
 exact aw_ret1 rfl rfl (by first | exact ret_val rfl | exact ret_own rfl rfl | exact ret_nil rfl | exact ret_fresh rfl rfl | exact ret_fresh_nil rfl | exact ret_lit rfl)
theorem place1_ok (c : Coin) (x : In) : Tells P 211 [.val coinT c, .val inT x] (.val i64T (ordIn c.inn x)) := by
 refine fn_of_aw Tryz.func211 rfl rfl rfl (fun ext w hext => ?_)
 refine CQR ?_; refine aw_box rfl rfl rfl rfl rfl ?_; refine aw_box rfl rfl rfl rfl rfl ?_; refine A0 aV ?_; refine CNQR ?_; refine A0 (oFp fd_123_0) ?_; refine A0 (oLb L_Coin_inn ty_119) ?_; refine A0 (oLs rfl rfl rfl ty_119) ?_
 refine A0 (oCl (order_ok _ _) rfl fn_132 ⟨(arg_v rfl), (arg_v rfl), trivial⟩) ?_; refine A0 aV ?_; refine CN ?_
 exact aw_ret1 rfl rfl (by first | exact ret_val rfl | exact ret_own rfl rfl | exact ret_nil rfl | exact ret_fresh rfl rfl | exact ret_fresh_nil rfl | exact ret_lit rfl)
theorem indexIn (l : List In) (v : In) : Tells P 212 [.val (bsl inT) l, .val inT v] (.val i64T (idx (fun c => decide (v = c)) l)) := by
 refine fn_of_aw Tryz.func212 rfl rfl rfl (fun ext w hext => ?_)
 refine aw_fact (d := 0) rfl fact_sl (fun hsl0 => ?_)
 refine CQR ?_; refine aw_box rfl rfl rfl rfl rfl ?_; refine A0 aV ?_; refine CNQQR ?_; refine A0 mV ?_; refine A0 (g_len rfl rfl isl_96) ?_; refine A0 mV ?_; refine CNB ?_
 refine Lp (ι := Nat) 1 (fun (k : Nat) => (((((Fr.none).set 0 (.val (bsl inT) l)).set 3 (.ptr 0 0)).set 6 (.val (bsl inT) l)).set 7 (.val i64T (l.length : Int))).set 8 (.val i64T (k : Int))) (fun (k : Nat) => (Hp.none).set 0 (.box 119 inT v)) (fun (k : Nat) => k ≤ l.length ∧ idx (fun c => decide (v = c)) l = shift k (idx (fun c => decide (v = c)) (l.drop k))) (fun (k : Nat) => l.length - k) (0) (⟨Nat.zero_le _, shift_zero _ l⟩) ?_
 intro k hinv
 refine CQR ?_; refine A0 o_lss ?_; refine CNQ ?_
 refine Cf (p := k < l.length) (fun ht9 => ?_) (fun ht9 => ?_)
 ·
  obtain ⟨x, hx⟩ : ∃ x, l[k]? = some x := ⟨_, List.getElem?_eq_getElem ht9⟩
  refine CSQBQR ?_; refine A0 mV ?_; refine A0 aV ?_; refine CNQ ?_; refine CD mixed ?_; refine G0 (oLs rfl rfl rfl ty_119) ?_; refine G0 mV ?_; refine G0 mV ?_; refine G0 (g_ia_n rfl rfl rfl sl_96 (by assumption)) ?_
  refine G0 (g_load_r rfl rfl ty_119) ?_; refine G0 (g_eqlS rfl rfl rfl (eqt_119)) ?_; refine GK.nil ?_
  refine aw_ifc (p := decide (v = x) = true) rfl (by simp) (fun ht16 => ?_) (fun ht16 => ?_)
  ·
   refine CQR ?_; refine A0 mV ?_; refine A0 aV ?_; refine CN ?_
   exact aw_ret1 rfl rfl (ret_eq rfl (hinv.2.trans (idx_yes hx ht16)).symm)
  ·
   refine CSIR ?_; refine A0 o_add ?_; refine A0 mV ?_; refine CN ?_
   exact Nx (k + 1) (⟨by omega, hinv.2.trans (idx_no hx ht16)⟩) (by omega)
 ·
  refine CE ?_; refine CQR ?_; refine A0 aV ?_; refine CN ?_
  exact aw_ret1 rfl rfl (ret_eq rfl (hinv.2.trans (idx_end (by omega))).symm)
theorem containsIn (l : List In) (v : In) : Tells P 185 [.val (bsl inT) l, .val inT v] (.val boolT (l.any fun c => decide (v = c))) := by
 refine fn_of_aw Tryz.func185 rfl rfl rfl (fun ext w hext => ?_)
 refine aw_fact (d := 0) rfl fact_sl (fun hsl0 => ?_)
 refine CQR ?_; refine aw_box rfl rfl rfl rfl rfl ?_; refine A0 aV ?_; refine CNQR ?_; refine A0 mV ?_; refine A0 (oLs rfl rfl rfl ty_119) ?_; refine A0 (oCl (indexIn _ _) rfl fn_212 ⟨(arg_v rfl), (arg_v rfl), trivial⟩) ?_; refine A0 o_geq ?_
 refine A0 aV ?_; refine CN ?_
 exact aw_ret1 rfl rfl (ret_eq rfl (idx_any _ l))
theorem odd_ok (o : Out) : Tells P 186 [.val outT o] (.val boolT (decide (o.v < 1 ∨ 1099511627776 < o.v ∨ o.to < 0 ∨ 255 < o.to))) := by
 refine fn_of_aw Tryz.func186 rfl rfl rfl (fun ext w hext => ?_)
 refine CQR ?_; refine aw_box rfl rfl rfl rfl rfl ?_; refine A0 aV ?_; refine CNQR ?_; refine A0 (oFp fd_121_0) ?_; refine A0 (oLb L_Out_v ty_3) ?_; refine A0 o_lss ?_; refine A0 mV ?_
 refine Sp (d := 6) (p := o.v < 1) (fun g6 => ?_) (fun g6 => ?_)
 ·
  refine A2 ?_; refine A2 ?_; refine A2 ?_; refine A0 oK ?_; refine A0 mV ?_; refine A2 ?_; refine A2 ?_; refine A2 ?_; refine A0 oK ?_; refine A0 mV ?_; refine A2 ?_; refine A2 ?_; refine A2 ?_; refine A0 oK ?_; refine A0 aV ?_; refine CN ?_
  exact aw_ret1 rfl rfl (ret_eq rfl (by symm; first | (apply decide_eq_true; omega) | (apply decide_eq_false; omega)))
 ·
  refine A1 (oFp fd_121_0) ?_; refine A1 (oLb L_Out_v ty_3) ?_; refine A1 o_gtr ?_; refine A0 oK ?_; refine A0 mV ?_
  refine Sp (d := 11) (p := 1099511627776 < o.v) (fun g11 => ?_) (fun g11 => ?_)
  ·
   refine A2 ?_; refine A2 ?_; refine A2 ?_; refine A0 oK ?_; refine A0 mV ?_; refine A2 ?_; refine A2 ?_; refine A2 ?_; refine A0 oK ?_; refine A0 aV ?_; refine CN ?_
   exact aw_ret1 rfl rfl (ret_eq rfl (by symm; first | (apply decide_eq_true; omega) | (apply decide_eq_false; omega)))
  ·
   refine A1 (oFp fd_121_1) ?_; refine A1 (oLb L_Out_to ty_3) ?_; refine A1 o_lss ?_; refine A0 oK ?_; refine A0 mV ?_
   refine Sp (d := 16) (p := o.to < 0) (fun g16 => ?_) (fun g16 => ?_)
   ·
    refine A2 ?_; refine A2 ?_; refine A2 ?_; refine A0 oK ?_; refine A0 aV ?_; refine CN ?_
    exact aw_ret1 rfl rfl (ret_eq rfl (by symm; first | (apply decide_eq_true; omega) | (apply decide_eq_false; omega)))
   ·
    refine A1 (oFp fd_121_1) ?_; refine A1 (oLb L_Out_to ty_3) ?_; refine A1 o_gtr ?_; refine A0 oK ?_
    refine Sp (d := 20) (p := 255 < o.to) (fun g20 => ?_) (fun g20 => ?_)
    ·
     refine A0 aV ?_; refine CN ?_
     exact aw_ret1 rfl rfl (ret_eq rfl (by symm; first | (apply decide_eq_true; omega) | (apply decide_eq_false; omega)))
    ·
     refine A0 aV ?_; refine CN ?_
     exact aw_ret1 rfl rfl (ret_eq rfl (by symm; first | (apply decide_eq_true; omega) | (apply decide_eq_false; omega)))
end Go.Proofs.YtgoiacajjicjcaaGreat
set_option maxRecDepth 20000
namespace Go.Proofs.YtgoiacajjicjcaaGreat
set_option linter.unusedVariables false
set_option linter.unusedSimpArgs false
open Go.Ab Go.RowKit
def outOdd (o : Out) : Bool := decide (o.v < 1 ∨ 1099511627776 < o.v ∨ o.to < 0 ∨ 255 < o.to)
def inAt (t : Tx) (k : Nat) : Bool := match t.ins[k]? with
  | none => true
  | some x => decide (0 ≤ x.i ∧ x.i < 3) && !((t.ins.take k).any fun c => decide (x = c))
def mayTx (t : Tx) : Bool := (List.range t.ins.length).all (inAt t) && (decide (t.ins.length ≤ 3) && (decide (0 < t.outs.length) && (decide (t.outs.length ≤ 3) && !(t.outs.any outOdd))))
theorem inAt_bad {t : Tx} {k : Nat} {x : In} (h : t.ins[k]? = some x) (hk : k < t.ins.length) (hb : ¬ (0 ≤ x.i ∧ x.i < 3)) : mayTx t = false := by
  unfold mayTx
  rw [all_range_fail hk (by unfold inAt; rw [h]; simp only [decide_eq_false hb, Bool.false_and]), Bool.false_and]
theorem inAt_twice {t : Tx} {k : Nat} {x : In} (h : t.ins[k]? = some x) (hk : k < t.ins.length) (hb : ((t.ins.take k).any fun c => decide (x = c)) = true) : mayTx t = false := by
  unfold mayTx
  rw [all_range_fail hk (by unfold inAt; rw [h]; simp only [hb, Bool.not_true, Bool.and_false]), Bool.false_and]
theorem inAt_good {t : Tx} {k : Nat} {x : In} (h : t.ins[k]? = some x) (hb : 0 ≤ x.i ∧ x.i < 3) (hc : ¬ ((t.ins.take k).any fun c => decide (x = c)) = true) : inAt t k = true := by
  unfold inAt; rw [h]; simp only [decide_eq_true hb, Bool.true_and]
  cases hh : ((t.ins.take k).any fun c => decide (x = c)) with
  | true => exact absurd hh hc
  | false => rfl
theorem mayTx_ok (t : Tx) : Tells P 147 [.val txT t] (.val boolT (mayTx t)) := by
 refine fn_of_aw Tryz.func147 rfl rfl rfl (fun ext w hext => ?_)
 refine CQR ?_; refine aw_box rfl rfl rfl rfl rfl ?_; refine A0 aV ?_; refine CNQQR ?_; refine A0 (oFp fd_99_0) ?_; refine A0 (oLb L_Tx_ins ty_96) ?_; refine A0 (g_len rfl rfl isl_96) ?_; refine A0 mV ?_; refine CNB ?_
 refine Lp (ι := Nat) 1 (fun (k : Nat) => ((((Fr.none).set 1 (.ptr 0 0)).set 7 (.val (sl inT) t.ins)).set 8 (.val i64T (t.ins.length : Int))).set 9 (.val i64T (k : Int))) (fun (k : Nat) => (Hp.none).set 0 (.box 99 txT t)) (fun (k : Nat) => k ≤ t.ins.length ∧ (List.range k).all (inAt t) = true) (fun (k : Nat) => t.ins.length - k) (0) (⟨Nat.zero_le _, rfl⟩) ?_
 intro k hinv
 refine aw_fact (d := 7) rfl fact_sl (fun hsi => ?_)
 refine CQR ?_; refine A0 o_lss ?_; refine CNQ ?_
 refine Cf (p := k < t.ins.length) (fun ht10 => ?_) (fun ht10 => ?_)
 ·
  obtain ⟨x, hx⟩ : ∃ x, t.ins[k]? = some x := ⟨_, List.getElem?_eq_getElem ht10⟩
  refine CSQBQR ?_; refine A0 mV ?_; refine A0 (g_ia_n rfl rfl rfl sl_96 (by assumption)) ?_; refine A0 (g_load_r rfl rfl ty_119) ?_; refine aw_alloc ze_119 rfl rfl rfl rfl ?_; refine A0 aV ?_
  refine aw_store_b rfl rfl rfl rfl rfl (Lens.self _) ty_119 rfl ?_; refine CNQ ?_; refine CD mixed ?_; refine G0 (oFp fd_119_1) ?_; refine G0 (oLb L_In_i ty_3) ?_; refine G0 o_lss ?_; refine G0 mV ?_
  refine GK_splitp (d := 17) (p := x.i < 0) rfl (by first | rfl | (rw [decide_eq_decide]; simp only [IntL.toI, id_eq]; omega) | (simp [IntL.toI]; done) | (simp [IntL.toI]; omega)) (fun g17 => ?_) (fun g17 => ?_)
  ·
   refine G2 ?_; refine G2 ?_; refine G2 ?_; refine G0 oK ?_; refine G0 mV ?_; refine G2 ?_; refine G2 ?_; refine G2 ?_; refine G2 ?_; refine G2 ?_; refine G2 ?_; refine G0 oK ?_; refine GK.nil ?_; refine Ct ?_; refine CQR ?_; refine A0 aV ?_
   refine CN ?_
   exact aw_ret1 rfl rfl (ret_eq rfl (inAt_bad hx ht10 (by omega)).symm)
  ·
   refine G1 (oFp fd_119_1) ?_; refine G1 (oLb L_In_i ty_3) ?_; refine G1 o_geq ?_; refine G0 oK ?_; refine G0 mV ?_
   refine GK_splitp (d := 22) (p := 3 ≤ x.i) rfl (by first | rfl | (rw [decide_eq_decide]; simp only [IntL.toI, id_eq]; omega) | (simp [IntL.toI]; done) | (simp [IntL.toI]; omega)) (fun g22 => ?_) (fun g22 => ?_)
   ·
    refine G2 ?_; refine G2 ?_; refine G2 ?_; refine G2 ?_; refine G2 ?_; refine G2 ?_; refine G0 oK ?_; refine GK.nil ?_; refine Ct ?_; refine CQR ?_; refine A0 aV ?_; refine CN ?_
    exact aw_ret1 rfl rfl (ret_eq rfl (inAt_bad hx ht10 (by omega)).symm)
   ·
    refine G1 (oFp fd_99_0) ?_; refine G1 (oLb L_Tx_ins ty_96) ?_; refine G1 mV ?_
    refine G1 (by first | exact g_sl_nil rfl rfl rfl (by first | rfl | omega) sl_96 | exact g_sl_h rfl rfl rfl sl_96 (by first | assumption | omega | (simp; omega))) ?_; refine G1 (oLs rfl rfl rfl ty_119) ?_
    refine G1 (oCl (containsIn _ _) rfl fn_185 ⟨(arg_v rfl), (arg_v rfl), trivial⟩) ?_; refine G0 oK ?_; refine GK.nil ?_
    refine aw_ifc (p := ((t.ins.take k).any fun c => decide (x = c)) = true) rfl (Bool.decide_eq_true.symm) (fun ht29 => ?_) (fun ht29 => ?_)
    ·
     refine CQR ?_; refine A0 aV ?_; refine CN ?_
     exact aw_ret1 rfl rfl (ret_eq rfl (inAt_twice hx ht10 ht29).symm)
    ·
     refine CSIR ?_; refine A0 o_add ?_; refine A0 mV ?_; refine CN ?_
     exact Nx (k + 1) (⟨by omega, all_range_succ hinv.2 (inAt_good hx (by omega) ht29)⟩) (by omega)
 ·
  refine CE ?_; refine CQR ?_; refine A0 aC ?_; refine CNQR ?_; refine A0 (oFp fd_99_0) ?_; refine A0 (oLb L_Tx_ins ty_96) ?_; refine A0 (g_len rfl rfl isl_96) ?_; refine A0 o_leq ?_; refine A0 mV ?_
  refine Sp (d := 35) (p := t.ins.length ≤ 3) (fun g35 => ?_) (fun g35 => ?_)
  ·
   refine A1 (oFp fd_99_1) ?_; refine A1 (oLb L_Tx_outs ty_97) ?_; refine A1 (g_len rfl rfl isl_97) ?_; refine A1 o_gtr ?_; refine A0 oK ?_; refine A0 mV ?_
   refine Sp (d := 41) (p := 0 < t.outs.length) (fun g41 => ?_) (fun g41 => ?_)
   ·
    refine A1 (oFp fd_99_1) ?_; refine A1 (oLb L_Tx_outs ty_97) ?_; refine A1 (g_len rfl rfl isl_97) ?_; refine A1 o_leq ?_; refine A0 oK ?_; refine A0 mV ?_
    refine Sp (d := 47) (p := t.outs.length ≤ 3) (fun g47 => ?_) (fun g47 => ?_)
    ·
     refine A1 (oFp fd_99_1) ?_; refine A1 (oLb L_Tx_outs ty_97) ?_; refine A1 mC ?_
     refine A1 (oCl (containsFuncOut _ _) rfl fn_187 ⟨(arg_v rfl), (by first | exact arg_fn1 (Cs := []) rfl fn_186 (by intro n hn; cases hn) trivial rfl (fun x => odd_ok _) | exact arg_fn2 (Cs := []) rfl fn_186 (by intro n hn; cases hn) trivial rfl (fun x y => odd_ok _) | exact arg_clo rfl), trivial⟩) ?_
     refine A1 oN ?_; refine A0 oK ?_; refine A0 aV ?_; refine CN ?_
     exact aw_ret1 rfl rfl (ret_eq rfl (by rw [show k = t.ins.length by omega] at hinv; unfold mayTx; rw [hinv.2, decide_eq_true g35, decide_eq_true g41, decide_eq_true g47]; rfl))
    ·
     refine A2 ?_; refine A2 ?_; refine A2 ?_; refine A2 ?_; refine A2 ?_; refine A0 oK ?_; refine A0 aV ?_; refine CN ?_
     exact aw_ret1 rfl rfl (ret_eq rfl (by unfold mayTx; simp only [decide_eq_false g47, Bool.false_and, Bool.and_false]))
   ·
    refine A2 ?_; refine A2 ?_; refine A2 ?_; refine A2 ?_; refine A0 oK ?_; refine A0 mV ?_; refine A2 ?_; refine A2 ?_; refine A2 ?_; refine A2 ?_; refine A2 ?_; refine A0 oK ?_; refine A0 aV ?_; refine CN ?_
    exact aw_ret1 rfl rfl (ret_eq rfl (by unfold mayTx; simp only [decide_eq_false g41, Bool.false_and, Bool.and_false]))
  ·
   refine A2 ?_; refine A2 ?_; refine A2 ?_; refine A2 ?_; refine A0 oK ?_; refine A0 mV ?_; refine A2 ?_; refine A2 ?_; refine A2 ?_; refine A2 ?_; refine A0 oK ?_; refine A0 mV ?_; refine A2 ?_; refine A2 ?_; refine A2 ?_; refine A2 ?_
   refine A2 ?_; refine A0 oK ?_; refine A0 aV ?_; refine CN ?_
   exact aw_ret1 rfl rfl (ret_eq rfl (by unfold mayTx; simp only [decide_eq_false g35, Bool.false_and, Bool.and_false]))
def halves {α : Type} (c : α → Int) (l : List α) (lo hi : Nat) : Nat :=
  if h : lo < hi then
    match l[(lo + hi) / 2]? with
    | none => lo
    | some x => if c x < 0 then halves c l ((lo + hi) / 2 + 1) hi else halves c l lo ((lo + hi) / 2)
  else lo
termination_by hi - lo
theorem halves_lt {α : Type} {c : α → Int} {l : List α} {lo hi : Nat} {x : α} (h : lo < hi) (hx : l[(lo + hi) / 2]? = some x) (hc : c x < 0) : halves c l lo hi = halves c l ((lo + hi) / 2 + 1) hi := by
  rw [halves, dif_pos h]; simp only [hx, if_pos hc]
theorem halves_ge {α : Type} {c : α → Int} {l : List α} {lo hi : Nat} {x : α} (h : lo < hi) (hx : l[(lo + hi) / 2]? = some x) (hc : ¬ c x < 0) : halves c l lo hi = halves c l lo ((lo + hi) / 2) := by
  rw [halves, dif_pos h]; simp only [hx, if_neg hc]
theorem halves_end {α : Type} {c : α → Int} {l : List α} {lo : Nat} : halves c l lo lo = lo := by rw [halves, dif_neg (Nat.lt_irrefl _)]
def foundAt {α : Type} (c : α → Int) (l : List α) (i : Nat) : Bool := match l[i]? with | none => false | some x => decide (c x = 0)
theorem mid_eq {lo hi : Nat} (h : lo + hi < 18446744073709551616) : IntKind.i64.wrap (IntL.toI u64T (shr64 (u64OfI (IntL.toI i64T ((lo : Int) + (hi : Int)))) (IntL.toI u64T (1 : UInt64)).toNat)) = (((lo + hi) / 2 : Nat) : Int) := by
  have e1 : (u64OfI ((lo : Int) + (hi : Int))).toNat = lo + hi := by
    unfold u64OfI
    rw [UInt64.toNat_ofNat_of_lt' (by show (((lo : Int) + hi) % 18446744073709551616).toNat < 18446744073709551616; omega)]; omega
  have e2 : (shr64 (u64OfI ((lo : Int) + (hi : Int))) 1).toNat = (lo + hi) / 2 := by
    unfold shr64
    rw [e1, UInt64.toNat_ofNat_of_lt' (by show (lo + hi) / 2 ^ min 1 64 < 18446744073709551616; rw [show min 1 64 = 1 from rfl]; omega)]
    rfl
  show IntKind.i64.wrap (((shr64 (u64OfI ((lo : Int) + (hi : Int))) 1).toNat : Nat) : Int) = _
  rw [e2]
  exact wrap_eq (by omega)
theorem bsearch (l : List Coin) (y : In) (f : Coin → In → Int) (hl : l.length < 4611686018427387904) : Tells P 210 [.val (bsl coinT) l, .val inT y, .fn2 P coinT inT i64T f] (.tup2 (.val i64T (halves (fun x => f x y) l 0 l.length : Nat)) (.val boolT (foundAt (fun x => f x y) l (halves (fun x => f x y) l 0 l.length)))) := by
 refine fn_of_aw Tryz.func210 rfl rfl rfl (fun ext w hext => ?_)
 refine aw_fact (d := 0) rfl fact_sl (fun hsl0 => ?_)
 refine CQR ?_; refine aw_box rfl rfl rfl rfl rfl ?_; refine A0 aV ?_; refine A0 aV ?_; refine CNQR ?_; refine A0 mV ?_; refine A0 (g_len rfl rfl isl_35) ?_; refine A0 aV ?_; refine CNQR ?_; refine A0 mV ?_; refine A0 aV ?_; refine A0 aV ?_
 refine CNQ ?_; refine CB ?_
 refine Lp (ι := Nat × Nat) 1 (fun (i : Nat × Nat) => match i with | (lo, hi) => ((((((Fr.none).set 0 (.val (bsl coinT) l)).set 2 (.fn2 P coinT inT i64T f)).set 4 (.ptr 0 0)).set 8 (.val i64T (l.length : Int))).set 9 (.val i64T (lo : Int))).set 10 (.val i64T (hi : Int))) (fun (i : Nat × Nat) => match i with | (lo, hi) => (Hp.none).set 0 (.box 119 inT y)) (fun (i : Nat × Nat) => match i with | (lo, hi) => lo ≤ hi ∧ hi ≤ l.length ∧ halves (fun x => f x y) l 0 l.length = halves (fun x => f x y) l lo hi) (fun (i : Nat × Nat) => match i with | (lo, hi) => hi - lo) ((0, l.length)) (⟨Nat.zero_le _, Nat.le_refl _, rfl⟩) ?_
 intro ⟨lo, hi⟩ hinv
 dsimp only at hinv
 refine CQQR ?_; refine A0 mV ?_; refine A0 mV ?_; refine A0 o_lss ?_; refine CN ?_
 refine Cf (p := lo < hi) (fun ht17 => ?_) (fun ht17 => ?_)
 ·
  obtain ⟨x, hx⟩ : ∃ x, l[(lo + hi) / 2]? = some x := ⟨_, List.getElem?_eq_getElem (by omega)⟩
  refine CS ?_; refine CB ?_; refine CQR ?_; refine A0 mV ?_; refine A0 mV ?_; refine A0 o_add ?_; refine A0 (g_cv64 rfl (ui_125) (us_3) rfl) ?_
  refine A0 (g_shr64 rfl rfl rfl (by first | decide | (simp [IntL.toI]; done) | (simp [IntL.toI]; omega)) rfl) ?_; refine A0 (g_cvi rfl (ui_3) (us_125) rfl (mid_eq (by omega))) ?_; refine A0 aV ?_; refine CNQ ?_; refine CD mixed ?_
  refine G0 mH ?_; refine G0 mV ?_; refine G0 mV ?_; refine G0 (g_ia_n rfl rfl rfl sl_35 (by assumption)) ?_; refine G0 (g_load_r rfl rfl ty_123) ?_; refine G0 (oLs rfl rfl rfl ty_119) ?_
  refine G0 (g_callf2 rfl rfl (by first | exact arg_same rfl | exact arg_bsl rfl | exact arg_own rfl rfl | exact arg_nil rfl | exact arg_rptr rfl | exact arg_fn rfl rfl | exact arg_lit rfl) (arg_v rfl)) ?_; refine G0 o_lss ?_; refine GK.nil ?_
  refine Cf (p := f x y < 0) (fun ht31 => ?_) (fun ht31 => ?_)
  ·
   refine CR ?_; refine A0 mV ?_; refine A0 o_add ?_; refine A0 aV ?_; refine CN ?_; refine CI ?_
   exact Nx (((lo + hi) / 2 + 1, hi)) (by first | exact ⟨by omega, by omega, hinv.2.2.trans (halves_lt ht17 hx ht31)⟩ | exact ⟨by omega, by omega, hinv.2.2.trans (halves_ge ht17 hx ht31)⟩) (by show _ < hi - lo; simp only []; omega)
  ·
   refine CR ?_; refine A0 mV ?_; refine A0 aV ?_; refine CN ?_; refine CI ?_
   exact Nx ((lo, (lo + hi) / 2)) (by first | exact ⟨by omega, by omega, hinv.2.2.trans (halves_lt ht17 hx ht31)⟩ | exact ⟨by omega, by omega, hinv.2.2.trans (halves_ge ht17 hx ht31)⟩) (by show _ < hi - lo; simp only []; omega)
 ·
  refine CE ?_; refine CQ ?_; refine CD mixed ?_; refine G0 mV ?_; refine G0 mV ?_; refine G0 mV ?_; refine G0 o_lss ?_; refine G0 mV ?_
  refine GK_splitp (d := 39) (p := lo < l.length) rfl (by first | rfl | (rw [decide_eq_decide]; simp only [IntL.toI, id_eq]; omega) | (simp [IntL.toI]; done) | (simp [IntL.toI]; omega)) (fun g39 => ?_) (fun g39 => ?_)
  ·
   obtain ⟨x, hx⟩ : ∃ x, l[lo]? = some x := ⟨_, List.getElem?_eq_getElem g39⟩
   refine G1 mH ?_; refine G1 mV ?_; refine G1 mV ?_; refine G1 (g_ia_n rfl rfl rfl sl_35 (by assumption)) ?_; refine G1 (g_load_r rfl rfl ty_123) ?_; refine G1 (oLs rfl rfl rfl ty_119) ?_
   refine G1 (g_callf2 rfl rfl (by first | exact arg_same rfl | exact arg_bsl rfl | exact arg_own rfl rfl | exact arg_nil rfl | exact arg_rptr rfl | exact arg_fn rfl rfl | exact arg_lit rfl) (arg_v rfl)) ?_; refine G1 o_eql ?_; refine G0 oK ?_
   refine G0 aV ?_; refine G0 aV ?_; refine GK.nil ?_
   exact aw_ret2 rfl rfl (ret_eq rfl (by rw [hinv.2.2, show hi = lo by omega, halves_end])) (ret_eq rfl (by rw [hinv.2.2, show hi = lo by omega, halves_end]; unfold foundAt; rw [hx]; rfl))
  ·
   refine G2 ?_; refine G2 ?_; refine G2 ?_; refine G2 ?_; refine G2 ?_; refine G2 ?_; refine G2 ?_; refine G2 ?_; refine G0 oK ?_; refine G0 aV ?_; refine G0 aV ?_; refine GK.nil ?_
   exact aw_ret2 rfl rfl (ret_eq rfl (by rw [hinv.2.2, show hi = lo by omega, halves_end])) (ret_eq rfl (by rw [hinv.2.2, show hi = lo by omega, halves_end]; unfold foundAt; rw [List.getElem?_eq_none (by omega)]))
def placeOf (p : List Coin) (x : In) : Nat := halves (fun c => ordIn c.inn x) p 0 p.length
def isThere (p : List Coin) (x : In) : Bool := foundAt (fun c => ordIn c.inn x) p (placeOf p x)
theorem place_ok (p : List Coin) (x : In) (hl : p.length < 4611686018427387904) : Tells P 183 [.val (bsl coinT) p, .val inT x] (.tup2 (.val i64T (placeOf p x : Nat)) (.val boolT (isThere p x))) := by
 refine fn_of_aw Tryz.func183 rfl rfl rfl (fun ext w hext => ?_)
 refine aw_fact (d := 0) rfl fact_sl (fun hsl0 => ?_)
 refine CQR ?_; refine aw_box rfl rfl rfl rfl rfl ?_; refine A0 aV ?_; refine A0 aV ?_; refine CNQR ?_; refine A0 mV ?_; refine A0 (oLs rfl rfl rfl ty_119) ?_
 refine A0 (oCl (bsearch p x (fun c x => ordIn c.inn x) hl) rfl fn_210 ⟨(arg_v rfl), (arg_v rfl), (by first | exact arg_fn1 (Cs := []) rfl fn_211 (by intro n hn; cases hn) trivial rfl (fun x => place1_ok _ _) | exact arg_fn2 (Cs := []) rfl fn_211 (by intro n hn; cases hn) trivial rfl (fun x y => place1_ok _ _) | exact arg_clo rfl), trivial⟩) ?_
 refine A0 (by first | exact g_x20 rfl rfl | exact g_x30 rfl rfl) ?_; refine A0 (by first | exact g_x21 rfl rfl | exact g_x31 rfl rfl) ?_; refine A0 aV ?_; refine A0 aV ?_; refine CN ?_
 exact aw_ret2 rfl rfl (ret_val rfl) (ret_val rfl)
theorem delete_ok (l : List Coin) (i : Nat) (hi : i < l.length) : TellsM P 184 (.row 123 coinT l) [.own 0, .val i64T (i : Int), .val i64T ((i : Int) + 1)] (.fresh 123 coinT (l.take i ++ l.drop (i + 1))) (.none_) := by
 refine fnm_of_aw trivial Tryz.func184 rfl rfl ⟨Nat.one_pos, ⟨trivial, ⟨trivial, trivial⟩⟩⟩ (fun ext pg w hext hgr => ?_)
 refine aw_fact (d := 1) rfl fact_int (fun hin1 => ?_)
 refine aw_fact (d := 2) rfl fact_int (fun hin2 => ?_)
 refine aw_factrow (n := 0) rfl (fun hrl => ?_)
 refine CQR ?_; refine A0 aL ?_; refine CNQR ?_; refine A0 mO ?_; refine A0 mV ?_; refine A0 mV ?_; refine A0 mO ?_; refine A0 (g_len_o rfl rfl rfl isl_35) ?_
 refine A0 (g_os_chk (p := i) (q := i + 1) (r := l.length) rfl rfl rfl rfl rfl rfl sl_35 (by first | omega | rfl) (by first | omega | rfl) (by first | omega | rfl) (by first | assumption | omega | (simp; omega))) ?_; refine CNQQR ?_
 refine A0 mV ?_; refine A0 mV ?_; refine A0 o_eql ?_; refine aw_isf (d := 16) rfl (by simp [IntL.toI]; omega) ?_; refine CN ?_; refine Cg ?_; refine CSQR ?_; refine A0 mO ?_; refine A0 (g_len_o rfl rfl rfl isl_35) ?_; refine A0 aV ?_
 refine CNQ ?_; refine aw_drawx [some 1, some 1, some 1, some 1, some 1, some 1, none, some 1] mixed (by decide +kernel) ?_; refine X0 mO ?_; refine X0 mV ?_
 refine X0 (g_os_h (q := i) rfl rfl rfl rfl sl_35 (by first | omega | rfl) (by first | assumption | omega | (simp; omega))) ?_; refine X0 mO ?_; refine X0 mV ?_
 refine X0 (g_os_l (p := i + 1) rfl rfl rfl rfl sl_35 (by first | omega | rfl) (by first | assumption | omega | (simp; omega))) ?_
 refine XK.e (fun fr' hfr kk H => by exact aw_append_in rfl rfl rfl rfl ((hfr 22 (by decide +kernel)).trans rfl) ((hfr 25 (by decide +kernel)).trans rfl) rfl row_35 (by omega) (aw_nil H)) ?_; refine X0 aS ?_; refine XK.nil' ?_; refine CQR ?_
 refine A0 mS ?_; refine A0 mS ?_; refine A0 (g_len_s rfl rfl (by omega) isl_35) ?_; refine A0 mV ?_
 refine A0 (g_os_lh (p := i + (l.length - (i + 1))) (q := l.length) rfl rfl rfl rfl rfl sl_35 (by first | omega | rfl) (by first | omega | rfl) (by first | assumption | omega | (simp; omega))) ?_
 refine aw_clear rfl rfl rfl rfl rfl row_35 ze_123 (by simp; omega) ?_; refine CNQR ?_; refine A0 mS ?_; refine A0 aS ?_; refine CN ?_
 exact aw_retm1 rfl rfl rfl rfl rfl give_none (retm_fresh_s rfl rfl (by simp; omega) (by rw [List.take_append_of_le_length (by simp; omega), List.take_take, Nat.min_self, List.take_append_of_le_length (by simp; omega)]; exact List.take_of_length_le (by simp; omega)))
end Go.Proofs.YtgoiacajjicjcaaGreat
set_option maxRecDepth 20000
namespace Go.Proofs.YtgoiacajjicjcaaGreat
set_option linter.unusedVariables false
set_option linter.unusedSimpArgs false
open Go.Ab Go.RowKit
def rotl (x : UInt32) (n : Int) : UInt32 := shl32 x ((u64OfI n) &&& 31).toNat ||| shr32 x (32 - ((u64OfI n) &&& 31)).toNat
theorem rotl_ok (x : UInt32) (n : Int) : Tells P 200 [.val u32T x, .val i64T n] (.val u32T (rotl x n)) := by
 refine fn_of_aw Tryz.func200 rfl rfl rfl (fun ext w hext => ?_)
 refine aw_fact (d := 1) rfl fact_int (fun hin1 => ?_)
 refine CQR ?_; refine A0 aV ?_; refine CNQR ?_; refine A0 mV ?_; refine A0 (g_cv64 rfl (ui_125) (us_3) rfl) ?_; refine A0 (g_and64 rfl rfl rfl) ?_; refine A0 aV ?_; refine CNQR ?_; refine A0 mV ?_; refine A0 mV ?_
 refine A0 (g_shl32 rfl rfl rfl (by first | decide | (simp [IntL.toI]; done) | (simp [IntL.toI]; omega)) rfl) ?_; refine A0 mV ?_; refine A0 mV ?_; refine A0 (g_sub64 rfl rfl rfl) ?_
 refine A0 (g_shr32 rfl rfl rfl (by first | decide | (simp [IntL.toI]; done) | (simp [IntL.toI]; omega)) rfl) ?_; refine A0 (g_or32 rfl rfl rfl) ?_; refine A0 aV ?_; refine CN ?_
 exact aw_ret1 rfl rfl (ret_eq rfl rfl)
theorem right_ok (x : UInt32) (n : Int) : Tells P 161 [.val u32T x, .val i64T n] (.val u32T (rotl x (IntKind.i64.wrap (0 - n)))) := by
 refine fn_of_aw Tryz.func161 rfl rfl rfl (fun ext w hext => ?_)
 refine aw_fact (d := 1) rfl fact_int (fun hin1 => ?_)
 refine CQR ?_; refine A0 aV ?_; refine CNQR ?_; refine A0 mV ?_; refine A0 mV ?_; refine A0 (g_neg rfl rfl rfl) ?_; refine A0 (oCl (rotl_ok _ _) rfl fn_200 ⟨(arg_v rfl), (arg_v rfl), trivial⟩) ?_; refine A0 aV ?_; refine CN ?_
 exact aw_ret1 rfl rfl (ret_eq rfl rfl)
def shaK : List UInt32 := [1116352408, 1899447441, 3049323471, 3921009573, 961987163, 1508970993, 2453635748, 2870763221, 3624381080, 310598401, 607225278, 1426881987, 1925078388, 2162078206, 2614888103, 3248222580, 3835390401, 4022224774, 264347078, 604807628, 770255983, 1249150122, 1555081692, 1996064986, 2554220882, 2821834349, 2952996808, 3210313671, 3336571891, 3584528711, 113926993, 338241895, 666307205, 773529912, 1294757372, 1396182291, 1695183700, 1986661051, 2177026350, 2456956037, 2730485921, 2820302411, 3259730800, 3345764771, 3516065817, 3600352804, 4094571909, 275423344, 430227734, 506948616, 659060556, 883997877, 958139571, 1322822218, 1537002063, 1747873779, 1955562222, 2024104815, 2227730452, 2361852424, 2428436474, 2756734187, 3204031479, 3329325298]
def numBytes (n : UInt64) (size : Nat) : List UInt8 := (List.range size).map fun j => u8OfI (IntL.toI u64T (shr64 n (8 * (size - 1 - j))))
theorem numBytes_step {n : UInt64} {size k : Nat} {l : List UInt8} (hk : k < size) (hl : l.length = size) (h : ∀ j, size - k ≤ j → j < size → l[j]? = (numBytes n size)[j]?) : ∀ j, size - (k + 1) ≤ j → j < size → (l.set (size - 1 - k) (u8OfI (IntL.toI u64T (shr64 n (8 * k)))))[j]? = (numBytes n size)[j]? := fun j h1 h2 => by
  rw [List.getElem?_set]
  by_cases c : size - 1 - k = j
  · rw [if_pos c, if_pos (by omega)]
    unfold numBytes
    rw [List.getElem?_map, List.getElem?_range h2, Option.map_some]
    congr 4; omega
  · rw [if_neg c]; exact h j (by omega) h2
theorem numBytes_all {n : UInt64} {size : Nat} {l : List UInt8} (hl : l.length = size) (h : ∀ j, size - size ≤ j → j < size → l[j]? = (numBytes n size)[j]?) : l = numBytes n size := by
  apply List.ext_getElem?
  intro j
  by_cases c : j < size
  · exact h j (by omega) c
  · rw [List.getElem?_eq_none (by omega), List.getElem?_eq_none (by unfold numBytes; simp; omega)]
theorem numbers_ok : Tells P 162 [] (.val (arrT 64 (by decide) u32T) shaK) := by
 refine fn_of_aw Tryz.func162 rfl rfl rfl (fun ext w hext => ?_)
 refine CQR ?_; refine aw_alloc ze_182 rfl rfl rfl rfl ?_; refine CNQR ?_
 refine A0 (g_buildA (T := u32T) (xs := [_, _, _, _, _, _, _, _, _, _, _, _, _, _, _, _, _, _, _, _, _, _, _, _, _, _, _, _, _, _, _, _, _, _, _, _, _, _, _, _, _, _, _, _, _, _, _, _, _, _, _, _, _, _, _, _, _, _, _, _, _, _, _, _]) rfl ar_182 ze_182 ⟨rfl, rfl, rfl, rfl, rfl, rfl, rfl, rfl, rfl, rfl, rfl, rfl, rfl, rfl, rfl, rfl, rfl, rfl, rfl, rfl, rfl, rfl, rfl, rfl, rfl, rfl, rfl, rfl, rfl, rfl, rfl, rfl, rfl, rfl, rfl, rfl, rfl, rfl, rfl, rfl, rfl, rfl, rfl, rfl, rfl, rfl, rfl, rfl, rfl, rfl, rfl, rfl, rfl, rfl, rfl, rfl, rfl, rfl, rfl, rfl, rfl, rfl, rfl, rfl, rfl, rfl, rfl, rfl, rfl, rfl, rfl, rfl, rfl, rfl, rfl, rfl, rfl, rfl, rfl, rfl, rfl, rfl, rfl, rfl, rfl, rfl, rfl, rfl, rfl, rfl, rfl, rfl, rfl, rfl, rfl, rfl, rfl, rfl, rfl, rfl, rfl, rfl, rfl, rfl, rfl, rfl, rfl, rfl, rfl, rfl, rfl, rfl, rfl, rfl, rfl, rfl, rfl, rfl, rfl, rfl, rfl, rfl, rfl, rfl, rfl, rfl, rfl, rfl, trivial⟩ rfl) ?_
 refine aw_store_b rfl rfl rfl rfl rfl (Lens.self _) ty_182 rfl ?_; refine CN ?_
 exact aw_retc1 rfl rfl rfl rfl ty_182 (rfl)
theorem binPut_ok (n : UInt64) (size : Nat) (hs : size ≤ 8) : Tells P 129 [.val u64T n, .val i64T (size : Int)] (.fresh 5 u8T (numBytes n size)) := by
 refine fn_of_aw Tryz.func129 rfl rfl rfl (fun ext w hext => ?_)
 refine aw_fact (d := 1) rfl fact_int (fun hin1 => ?_)
 refine CQR ?_; refine A0 aL ?_; refine CNQQR ?_; refine A0 mV ?_; refine A0 o_lss ?_; refine A0 mV ?_; refine aw_isf (d := 9) rfl (decide_eq_false (by show ¬ ((size : Int) < 0); omega)) ?_; refine A1 mV ?_; refine A1 o_gtr ?_; refine A0 oK ?_
 refine aw_isf (d := 12) rfl (decide_eq_false (by show ¬ ((8 : Int) < (size : Int)); omega)) ?_; refine CN ?_; refine Cg ?_; refine CSQR ?_; refine A0 mV ?_
 refine aw_mks (T := u8T) (n := size) rfl rfl rfl rfl rfl rfl (by first | omega | rfl) (by first | omega | rfl) row_102 ze_5 ⟨by omega, by omega, (show (size) * 1 ≤ 16777216 by omega)⟩ ?_; refine A0 aO ?_; refine CNQQR ?_; refine A0 mV ?_
 refine A0 mV ?_; refine CNB ?_
 refine Lp (ι := Nat × List UInt8) 1 (fun (i : Nat × List UInt8) => match i with | (k, l) => (((((Fr.none).set 0 (.val u64T n)).set 1 (.val i64T (size : Int))).set 5 (.own 0)).set 15 (.val i64T (size : Int))).set 16 (.val i64T (k : Int))) (fun (i : Nat × List UInt8) => match i with | (k, l) => (Hp.none).set 0 (.row 5 u8T l)) (fun (i : Nat × List UInt8) => match i with | (k, l) => k ≤ size ∧ l.length = size ∧ ∀ j, size - k ≤ j → j < size → l[j]? = (numBytes n size)[j]?) (fun (i : Nat × List UInt8) => match i with | (k, l) => size - k) ((0, List.replicate size 0)) (⟨Nat.zero_le _, by simp, fun j h1 h2 => by omega⟩) ?_
 intro ⟨k, l⟩ hinv
 dsimp only at hinv
 refine CQR ?_; refine A0 o_lss ?_; refine CNQ ?_
 refine Cf (p := k < size) (fun ht17 => ?_) (fun ht17 => ?_)
 ·
  obtain ⟨x, hx⟩ : ∃ x, l[size - 1 - k]? = some x := ⟨_, List.getElem?_eq_getElem (by omega)⟩
  refine CSQBQR ?_; refine A0 mV ?_; refine A0 aV ?_; refine CNR ?_; refine A0 mO ?_; refine A0 mV ?_; refine A0 o_sub ?_; refine A0 mV ?_; refine A0 o_sub ?_; refine A0 mV ?_; refine A0 mV ?_; refine A0 o_mul ?_
  refine A0 (g_shr64 rfl rfl rfl (by first | decide | (simp [IntL.toI]; done) | (simp [IntL.toI]; omega)) rfl) ?_; refine A0 (g_cv8 rfl (ui_5) (us_24) rfl) ?_
  refine A0 (g_ia_o (i := size - 1 - k) rfl rfl rfl rfl (by first | omega | rfl) sl_102 (by first | assumption | omega | (simp; omega))) ?_; refine aw_store_e rfl rfl rfl rfl rfl rfl (by assumption) (Lens.self _) ty_5 rfl ?_; refine CNIR ?_
  refine A0 o_add ?_; refine A0 mV ?_; refine CN ?_
  exact Nx ((k + 1, l.set (size - 1 - k) (u8OfI (IntL.toI u64T (shr64 n (8 * k)))))) (⟨by omega, by simp; exact hinv.2.1, numBytes_step ht17 hinv.2.1 hinv.2.2⟩) (by show _ < size - k; simp only []; omega)
 ·
  refine CE ?_; refine CQR ?_; refine A0 mO ?_; refine A0 aO ?_; refine CN ?_
  exact aw_ret1 rfl rfl (ret_fresh_eq rfl rfl (numBytes_all hinv.2.1 (by rw [show k = size by omega] at hinv; exact hinv.2.2)))
end Go.Proofs.YtgoiacajjicjcaaGreat
set_option maxRecDepth 20000
namespace Go.Proofs.YtgoiacajjicjcaaGreat
set_option linter.unusedVariables false
set_option linter.unusedSimpArgs false
open Go.Ab Go.RowKit
theorem growNil (n : Nat) (hn : n ≤ 140737488355328) : Tells P 168 [.lit (.slice none 0 0), .val i64T (n : Int)] (.fresh 5 u8T []) := by
 refine fn_of_aw Tryz.func168 rfl rfl rfl (fun ext w hext => ?_)
 refine aw_fact (d := 1) rfl fact_int (fun hin1 => ?_)
 refine CQR ?_; refine A0 aL ?_; refine CNQQR ?_; refine A0 mV ?_; refine A0 o_lss ?_; refine CN ?_; refine aw_if_f rfl (decide_eq_false (by show ¬ ((n : Int) < 0); omega)) ?_; refine CSQQR ?_; refine A0 mV ?_; refine A0 mL ?_
 refine A0 (g_cap_nil rfl rfl isl_102) ?_; refine A0 mL ?_; refine A0 (by first | exact g_len rfl rfl isl_102 | exact g_len_o rfl rfl rfl isl_102 | exact g_len_nil rfl rfl isl_102) ?_; refine A0 o_sub ?_; refine A0 o_sub ?_; refine A0 aV ?_
 refine CNQR ?_; refine A0 mV ?_; refine A0 o_gtr ?_; refine CN ?_
 refine aw_ifc (p := 0 < n) rfl (by rw [decide_eq_decide]; simp only [IntL.toI, id_eq]; omega) (fun ht16 => ?_) (fun ht16 => ?_)
 ·
  refine CR ?_; refine A0 mL ?_; refine A0 mL ?_; refine A0 (g_cap_nil rfl rfl isl_102) ?_
  refine A0 (by first | exact g_sl_nil rfl rfl rfl (by first | rfl | omega) sl_102 | exact g_sl_h rfl rfl rfl sl_102 (by first | assumption | omega | (simp; omega))) ?_; refine A0 mV ?_
  refine aw_appendz (T := u8T) (n := n) rfl rfl rfl rfl rfl rfl (by first | rfl | omega) row_102 ze_5 (ui_3) (⟨by assumption, by omega, by omega⟩) ?_; refine A0 mL ?_
  refine A0 (by first | exact g_len rfl rfl isl_102 | exact g_len_o rfl rfl rfl isl_102 | exact g_len_nil rfl rfl isl_102) ?_
  refine A0 (g_os_h (q := 0) rfl rfl rfl rfl sl_102 (by first | omega | rfl) (by first | assumption | omega | (simp; omega))) ?_; refine A0 aS ?_; refine CNQR ?_; refine A0 mS ?_; refine A0 aS ?_; refine CN ?_
  exact aw_ret1 rfl rfl (ret_fresh_s rfl rfl (by simp; omega) rfl)
 ·
  refine CSQR ?_; refine A0 mL ?_; refine A0 aL ?_; refine CN ?_
  exact aw_ret1 rfl rfl (ret_fresh_nil rfl)
theorem flat_take_succ {α : Type} {ls : List (List α)} {k : Nat} {x : List α} (h : ls[k]? = some x) : (ls.take (k + 1)).flatten = (ls.take k).flatten ++ x := by
  rw [List.take_add_one, h]; simp
theorem flat_take_le {α : Type} (ls : List (List α)) (k : Nat) : (ls.take k).flatten.length ≤ ls.flatten.length := by
  conv => rhs; rw [← List.take_append_drop k ls, List.flatten_append, List.length_append]
  omega
theorem concat_ok (ls : List (List UInt8)) (hl : ls.flatten.length ≤ 140737488355328) : Tells P 128 [.val (bsl (bsl u8T)) ls] (.fresh 5 u8T ls.flatten) := by
 refine fn_of_aw Tryz.func128 rfl rfl rfl (fun ext w hext => ?_)
 refine aw_fact (d := 0) rfl fact_sl (fun hsl0 => ?_)
 refine CQR ?_; refine A0 aL ?_; refine CNQR ?_; refine A0 aV ?_; refine CNQQR ?_; refine A0 mV ?_; refine A0 (g_len rfl rfl isl_150) ?_; refine A0 mV ?_; refine CNB ?_
 refine Lp (ι := Nat) 0 (fun (k : Nat) => (((((Fr.none).set 0 (.val (bsl (bsl u8T)) ls)).set 3 (.val i64T ((ls.take k).flatten.length : Int))).set 9 (.val (bsl (bsl u8T)) ls)).set 10 (.val i64T (ls.length : Int))).set 11 (.val i64T (k : Int))) (fun (k : Nat) => Hp.none) (fun (k : Nat) => k ≤ ls.length) (fun (k : Nat) => ls.length - k) (0) (Nat.zero_le _) ?_
 intro k hinv
 refine CQR ?_; refine A0 o_lss ?_; refine CNQ ?_
 refine Cf (p := k < ls.length) (fun ht12 => ?_) (fun ht12 => ?_)
 ·
  obtain ⟨x, hx⟩ : ∃ x, ls[k]? = some x := ⟨_, List.getElem?_eq_getElem ht12⟩
  have hle := flat_take_le ls (k + 1)
  rw [flat_take_succ hx, List.length_append] at hle
  refine CSQBQR ?_; refine A0 (g_ia_n rfl rfl rfl sl_150 (by assumption)) ?_; refine A0 (g_load_r rfl rfl ty_102) ?_; refine A0 aX ?_; refine CNQR ?_; refine A0 mV ?_; refine A0 mX ?_
  refine A0 (by first | exact g_len rfl rfl isl_102 | exact g_len_o rfl rfl rfl isl_102 | exact g_len_nil rfl rfl isl_102) ?_; refine A0 o_add ?_; refine A0 aV ?_; refine CNQR ?_; refine A0 mV ?_; refine A0 o_lss ?_; refine CN ?_
  refine aw_if_f rfl (decide_eq_false (by simp only [IntL.toI, id_eq]; omega)) ?_; refine CSIR ?_; refine A0 o_add ?_; refine A0 mV ?_; refine CN ?_
  refine aw_reval (d := 3) (y := ((ls.take (k + 1)).flatten.length : Int)) rfl (by rw [flat_take_succ hx, List.length_append]; omega) ?_
  exact Nx (k + 1) (by omega) (by omega)
 ·
  refine aw_reval (d := 3) (y := ((ls.flatten.length : Nat) : Int)) rfl (by rw [List.take_of_length_le (by omega)]) ?_; refine CE ?_; refine CQR ?_; refine A0 mV ?_
  refine aw_callf (growNil ls.flatten.length hl) rfl fn_168 ⟨(by first | exact arg_same rfl | exact arg_bsl rfl | exact arg_own rfl rfl | exact arg_nil rfl | exact arg_rptr rfl | exact arg_fn rfl rfl | exact arg_lit rfl), (arg_v rfl), trivial⟩ rfl rfl rfl ?_
  refine A0 aO ?_; refine CNQQR ?_; refine A0 mV ?_; refine A0 (g_len rfl rfl isl_150) ?_; refine A0 mV ?_; refine CNB ?_
  refine Lp (ι := Nat) 1 (fun (k : Nat) => ((((Fr.none).set 6 (.own 0)).set 25 (.val (bsl (bsl u8T)) ls)).set 26 (.val i64T (ls.length : Int))).set 27 (.val i64T (k : Int))) (fun (k : Nat) => (Hp.none).set 0 (.row 5 u8T (ls.take k).flatten)) (fun (k : Nat) => k ≤ ls.length) (fun (k : Nat) => ls.length - k) (0) (Nat.zero_le _) ?_
  intro k hinv
  refine CQR ?_; refine A0 o_lss ?_; refine CNQ ?_
  refine Cf (p := k < ls.length) (fun ht28 => ?_) (fun ht28 => ?_)
  ·
   obtain ⟨x, hx⟩ : ∃ x, ls[k]? = some x := ⟨_, List.getElem?_eq_getElem ht28⟩
   have hle := flat_take_le ls (k + 1)
   rw [flat_take_succ hx, List.length_append] at hle
   refine CSQBQR ?_; refine A0 (g_ia_n rfl rfl rfl sl_150 (by assumption)) ?_; refine A0 (g_load_r rfl rfl ty_102) ?_; refine A0 aX ?_; refine CNR ?_; refine A0 mO ?_; refine A0 mX ?_
   refine aw_append rfl rfl rfl rfl rfl rfl rfl row_102 (by omega) ?_; refine A0 aO ?_; refine CNIR ?_; refine A0 o_add ?_; refine A0 mV ?_; refine CN ?_; refine aw_ren 1 0 2 rfl rfl rfl rfl rfl rfl ?_
   refine aw_rerow (n := 0) rfl (flat_take_succ hx).symm ?_
   exact Nx (k + 1) (by omega) (by omega)
  ·
   refine CE ?_; refine CQR ?_; refine A0 mO ?_; refine A0 aO ?_; refine CN ?_
   exact aw_ret1 rfl rfl (ret_fresh_eq rfl rfl (by rw [List.take_of_length_le (by omega)]))
end Go.Proofs.YtgoiacajjicjcaaGreat
set_option maxRecDepth 20000
namespace Go.Proofs.YtgoiacajjicjcaaGreat
set_option linter.unusedVariables false
set_option linter.unusedSimpArgs false
open Go.Ab Go.RowKit
theorem equalId (l m : List Ab.Id) : Tells P 64 [.val (bsl idT) l, .val (bsl idT) m] (.val boolT (decide (l = m))) := by
 refine fn_of_aw Tryz.func64 rfl rfl rfl (fun ext w hext => ?_)
 refine aw_fact (d := 0) rfl fact_sl (fun hsl0 => ?_)
 refine aw_fact (d := 1) rfl fact_sl (fun hsl1 => ?_)
 refine CQR ?_; refine A0 aV ?_; refine CNQQR ?_; refine A0 mV ?_; refine A0 (g_len rfl rfl isl_30) ?_; refine A0 mV ?_; refine A0 (g_len rfl rfl isl_30) ?_; refine A0 o_neq ?_; refine CN ?_
 refine Cf (p := ¬ l.length = m.length) (fun ht10 => ?_) (fun ht10 => ?_)
 ·
  refine CQR ?_; refine A0 aV ?_; refine CN ?_
  exact aw_ret1 rfl rfl (ret_eq rfl (decide_eq_false (fun e => ht10 (by rw [e]))).symm)
 ·
  refine CSQQR ?_; refine A0 mV ?_; refine A0 (g_len rfl rfl isl_30) ?_; refine A0 mV ?_; refine CNB ?_
  refine Lp (ι := Nat) 0 (fun (k : Nat) => ((((Fr.none).set 0 (.val (bsl idT) l)).set 1 (.val (bsl idT) m)).set 12 (.val i64T (l.length : Int))).set 13 (.val i64T (k : Int))) (fun (k : Nat) => Hp.none) (fun (k : Nat) => k ≤ l.length ∧ l.take k = m.take k) (fun (k : Nat) => l.length - k) (0) (⟨Nat.zero_le _, by simp⟩) ?_
  intro k hinv
  refine CQR ?_; refine A0 o_lss ?_; refine CNQ ?_
  refine Cf (p := k < l.length) (fun ht14 => ?_) (fun ht14 => ?_)
  ·
   obtain ⟨x, hx⟩ : ∃ x, l[k]? = some x := ⟨_, List.getElem?_eq_getElem ht14⟩
   obtain ⟨y, hy⟩ : ∃ y, m[k]? = some y := ⟨_, List.getElem?_eq_getElem (by omega)⟩
   refine CSQBQR ?_; refine A0 mV ?_; refine A0 aV ?_; refine CNQ ?_; refine CD mixed ?_; refine G0 mV ?_; refine G0 mV ?_; refine G0 (g_ia_n rfl rfl rfl sl_30 (by assumption)) ?_; refine G0 (g_load_r rfl rfl ty_23) ?_; refine G0 mV ?_
   refine G0 mV ?_; refine G0 (g_ia_n rfl rfl rfl sl_30 (by assumption)) ?_; refine G0 (g_load_r rfl rfl ty_23) ?_; refine G0 (g_neqS rfl rfl rfl (eqt_23)) ?_; refine GK.nil ?_
   refine aw_ifc (p := ¬ x = y) rfl (by simp) (fun ht24 => ?_) (fun ht24 => ?_)
   ·
    refine CQR ?_; refine A0 aV ?_; refine CN ?_
    exact aw_ret1 rfl rfl (ret_eq rfl (decide_eq_false (ne_of_at hx hy ht24)).symm)
   ·
    refine CSIR ?_; refine A0 o_add ?_; refine A0 mV ?_; refine CN ?_
    exact Nx (k + 1) (⟨by omega, beq_all_succ hx hy hinv.2 (by simpa using ht24)⟩) (by omega)
  ·
   refine CE ?_; refine CQR ?_; refine A0 aV ?_; refine CN ?_
   exact aw_ret1 rfl rfl (ret_eq rfl (decide_eq_true (by have h := hinv.2; rw [List.take_of_length_le (by omega), List.take_of_length_le (by omega)] at h; exact h)).symm)
theorem equalIn (l m : List In) : Tells P 117 [.val (bsl inT) l, .val (bsl inT) m] (.val boolT (decide (l = m))) := by
 refine fn_of_aw Tryz.func117 rfl rfl rfl (fun ext w hext => ?_)
 refine aw_fact (d := 0) rfl fact_sl (fun hsl0 => ?_)
 refine aw_fact (d := 1) rfl fact_sl (fun hsl1 => ?_)
 refine CQR ?_; refine A0 aV ?_; refine CNQQR ?_; refine A0 mV ?_; refine A0 (g_len rfl rfl isl_96) ?_; refine A0 mV ?_; refine A0 (g_len rfl rfl isl_96) ?_; refine A0 o_neq ?_; refine CN ?_
 refine Cf (p := ¬ l.length = m.length) (fun ht10 => ?_) (fun ht10 => ?_)
 ·
  refine CQR ?_; refine A0 aV ?_; refine CN ?_
  exact aw_ret1 rfl rfl (ret_eq rfl (decide_eq_false (fun e => ht10 (by rw [e]))).symm)
 ·
  refine CSQQR ?_; refine A0 mV ?_; refine A0 (g_len rfl rfl isl_96) ?_; refine A0 mV ?_; refine CNB ?_
  refine Lp (ι := Nat) 0 (fun (k : Nat) => ((((Fr.none).set 0 (.val (bsl inT) l)).set 1 (.val (bsl inT) m)).set 12 (.val i64T (l.length : Int))).set 13 (.val i64T (k : Int))) (fun (k : Nat) => Hp.none) (fun (k : Nat) => k ≤ l.length ∧ l.take k = m.take k) (fun (k : Nat) => l.length - k) (0) (⟨Nat.zero_le _, by simp⟩) ?_
  intro k hinv
  refine CQR ?_; refine A0 o_lss ?_; refine CNQ ?_
  refine Cf (p := k < l.length) (fun ht14 => ?_) (fun ht14 => ?_)
  ·
   obtain ⟨x, hx⟩ : ∃ x, l[k]? = some x := ⟨_, List.getElem?_eq_getElem ht14⟩
   obtain ⟨y, hy⟩ : ∃ y, m[k]? = some y := ⟨_, List.getElem?_eq_getElem (by omega)⟩
   refine CSQBQR ?_; refine A0 mV ?_; refine A0 aV ?_; refine CNQ ?_; refine CD mixed ?_; refine G0 mV ?_; refine G0 mV ?_; refine G0 (g_ia_n rfl rfl rfl sl_96 (by assumption)) ?_; refine G0 (g_load_r rfl rfl ty_119) ?_; refine G0 mV ?_
   refine G0 mV ?_; refine G0 (g_ia_n rfl rfl rfl sl_96 (by assumption)) ?_; refine G0 (g_load_r rfl rfl ty_119) ?_; refine G0 (g_neqS rfl rfl rfl (eqt_119)) ?_; refine GK.nil ?_
   refine aw_ifc (p := ¬ x = y) rfl (by simp) (fun ht24 => ?_) (fun ht24 => ?_)
   ·
    refine CQR ?_; refine A0 aV ?_; refine CN ?_
    exact aw_ret1 rfl rfl (ret_eq rfl (decide_eq_false (ne_of_at hx hy ht24)).symm)
   ·
    refine CSIR ?_; refine A0 o_add ?_; refine A0 mV ?_; refine CN ?_
    exact Nx (k + 1) (⟨by omega, beq_all_succ hx hy hinv.2 (by simpa using ht24)⟩) (by omega)
  ·
   refine CE ?_; refine CQR ?_; refine A0 aV ?_; refine CN ?_
   exact aw_ret1 rfl rfl (ret_eq rfl (decide_eq_true (by have h := hinv.2; rw [List.take_of_length_le (by omega), List.take_of_length_le (by omega)] at h; exact h)).symm)
theorem equalOut (l m : List Out) : Tells P 118 [.val (bsl outT) l, .val (bsl outT) m] (.val boolT (decide (l = m))) := by
 refine fn_of_aw Tryz.func118 rfl rfl rfl (fun ext w hext => ?_)
 refine aw_fact (d := 0) rfl fact_sl (fun hsl0 => ?_)
 refine aw_fact (d := 1) rfl fact_sl (fun hsl1 => ?_)
 refine CQR ?_; refine A0 aV ?_; refine CNQQR ?_; refine A0 mV ?_; refine A0 (g_len rfl rfl isl_97) ?_; refine A0 mV ?_; refine A0 (g_len rfl rfl isl_97) ?_; refine A0 o_neq ?_; refine CN ?_
 refine Cf (p := ¬ l.length = m.length) (fun ht10 => ?_) (fun ht10 => ?_)
 ·
  refine CQR ?_; refine A0 aV ?_; refine CN ?_
  exact aw_ret1 rfl rfl (ret_eq rfl (decide_eq_false (fun e => ht10 (by rw [e]))).symm)
 ·
  refine CSQQR ?_; refine A0 mV ?_; refine A0 (g_len rfl rfl isl_97) ?_; refine A0 mV ?_; refine CNB ?_
  refine Lp (ι := Nat) 0 (fun (k : Nat) => ((((Fr.none).set 0 (.val (bsl outT) l)).set 1 (.val (bsl outT) m)).set 12 (.val i64T (l.length : Int))).set 13 (.val i64T (k : Int))) (fun (k : Nat) => Hp.none) (fun (k : Nat) => k ≤ l.length ∧ l.take k = m.take k) (fun (k : Nat) => l.length - k) (0) (⟨Nat.zero_le _, by simp⟩) ?_
  intro k hinv
  refine CQR ?_; refine A0 o_lss ?_; refine CNQ ?_
  refine Cf (p := k < l.length) (fun ht14 => ?_) (fun ht14 => ?_)
  ·
   obtain ⟨x, hx⟩ : ∃ x, l[k]? = some x := ⟨_, List.getElem?_eq_getElem ht14⟩
   obtain ⟨y, hy⟩ : ∃ y, m[k]? = some y := ⟨_, List.getElem?_eq_getElem (by omega)⟩
   refine CSQBQR ?_; refine A0 mV ?_; refine A0 aV ?_; refine CNQ ?_; refine CD mixed ?_; refine G0 mV ?_; refine G0 mV ?_; refine G0 (g_ia_n rfl rfl rfl sl_97 (by assumption)) ?_; refine G0 (g_load_r rfl rfl ty_121) ?_; refine G0 mV ?_
   refine G0 mV ?_; refine G0 (g_ia_n rfl rfl rfl sl_97 (by assumption)) ?_; refine G0 (g_load_r rfl rfl ty_121) ?_; refine G0 (g_neqS rfl rfl rfl (eqt_121)) ?_; refine GK.nil ?_
   refine aw_ifc (p := ¬ x = y) rfl (by simp) (fun ht24 => ?_) (fun ht24 => ?_)
   ·
    refine CQR ?_; refine A0 aV ?_; refine CN ?_
    exact aw_ret1 rfl rfl (ret_eq rfl (decide_eq_false (ne_of_at hx hy ht24)).symm)
   ·
    refine CSIR ?_; refine A0 o_add ?_; refine A0 mV ?_; refine CN ?_
    exact Nx (k + 1) (⟨by omega, beq_all_succ hx hy hinv.2 (by simpa using ht24)⟩) (by omega)
  ·
   refine CE ?_; refine CQR ?_; refine A0 aV ?_; refine CN ?_
   exact aw_ret1 rfl rfl (ret_eq rfl (decide_eq_true (by have h := hinv.2; rw [List.take_of_length_le (by omega), List.take_of_length_le (by omega)] at h; exact h)).symm)
theorem cloneId (l : List Ab.Id) (hl : l.length * 32 ≤ 140737488355328 ∧ l.length ≤ 9223372036854775807) : Tells P 115 [.val (bsl idT) l] (.fresh 23 idT l) := by
 refine fn_of_aw Tryz.func115 rfl rfl rfl (fun ext w hext => ?_)
 refine aw_fact (d := 0) rfl fact_sl (fun hsl0 => ?_)
 refine CQR ?_; refine A0 aL ?_; refine CNQQR ?_; refine A0 mV ?_
 refine aw_eqnil rfl rfl rfl rfl rfl isl_30 (fun c4 hc4 => ?_)
 refine CN ?_
 refine aw_ifc (p := c4 = true) rfl (by simp) (fun ht4 => ?_) (fun ht4 => ?_)
 ·
  obtain rfl := hc4 ht4
  refine CQR ?_; refine A0 aL ?_; refine CN ?_
  exact aw_ret1 rfl rfl (ret_fresh_nil rfl)
 ·
  refine CSQR ?_; refine aw_bslice (T := idT) (xs := []) rfl rfl rfl rfl sl_30 row_30 trivial rfl rfl ?_; refine A0 mV ?_; refine aw_append rfl rfl rfl rfl rfl rfl rfl row_30 (by simpa using hl) ?_; refine A0 aO ?_; refine CN ?_
  exact aw_ret1 rfl rfl (ret_fresh_eq rfl rfl (by simp))
theorem cloneTotal (l : List Total) (hl : l.length * 72 ≤ 140737488355328 ∧ l.length ≤ 9223372036854775807) : Tells P 87 [.val (bsl totalT) l] (.fresh 54 totalT l) := by
 refine fn_of_aw Tryz.func87 rfl rfl rfl (fun ext w hext => ?_)
 refine aw_fact (d := 0) rfl fact_sl (fun hsl0 => ?_)
 refine CQR ?_; refine A0 aL ?_; refine CNQQR ?_; refine A0 mV ?_
 refine aw_eqnil rfl rfl rfl rfl rfl isl_34 (fun c4 hc4 => ?_)
 refine CN ?_
 refine aw_ifc (p := c4 = true) rfl (by simp) (fun ht4 => ?_) (fun ht4 => ?_)
 ·
  obtain rfl := hc4 ht4
  refine CQR ?_; refine A0 aL ?_; refine CN ?_
  exact aw_ret1 rfl rfl (ret_fresh_nil rfl)
 ·
  refine CSQR ?_; refine aw_bslice (T := totalT) (xs := []) rfl rfl rfl rfl sl_34 row_34 trivial rfl rfl ?_; refine A0 mV ?_; refine aw_append rfl rfl rfl rfl rfl rfl rfl row_34 (by simpa using hl) ?_; refine A0 aO ?_; refine CN ?_
  exact aw_ret1 rfl rfl (ret_fresh_eq rfl rfl (by simp))
theorem cloneIn (l : List In) (hl : l.length * 40 ≤ 140737488355328 ∧ l.length ≤ 9223372036854775807) : Tells P 102 [.val (bsl inT) l] (.fresh 119 inT l) := by
 refine fn_of_aw Tryz.func102 rfl rfl rfl (fun ext w hext => ?_)
 refine aw_fact (d := 0) rfl fact_sl (fun hsl0 => ?_)
 refine CQR ?_; refine A0 aL ?_; refine CNQQR ?_; refine A0 mV ?_
 refine aw_eqnil rfl rfl rfl rfl rfl isl_96 (fun c4 hc4 => ?_)
 refine CN ?_
 refine aw_ifc (p := c4 = true) rfl (by simp) (fun ht4 => ?_) (fun ht4 => ?_)
 ·
  obtain rfl := hc4 ht4
  refine CQR ?_; refine A0 aL ?_; refine CN ?_
  exact aw_ret1 rfl rfl (ret_fresh_nil rfl)
 ·
  refine CSQR ?_; refine aw_bslice (T := inT) (xs := []) rfl rfl rfl rfl sl_96 row_96 trivial rfl rfl ?_; refine A0 mV ?_; refine aw_append rfl rfl rfl rfl rfl rfl rfl row_96 (by simpa using hl) ?_; refine A0 aO ?_; refine CN ?_
  exact aw_ret1 rfl rfl (ret_fresh_eq rfl rfl (by simp))
theorem cloneOut (l : List Out) (hl : l.length * 16 ≤ 140737488355328 ∧ l.length ≤ 9223372036854775807) : Tells P 103 [.val (bsl outT) l] (.fresh 121 outT l) := by
 refine fn_of_aw Tryz.func103 rfl rfl rfl (fun ext w hext => ?_)
 refine aw_fact (d := 0) rfl fact_sl (fun hsl0 => ?_)
 refine CQR ?_; refine A0 aL ?_; refine CNQQR ?_; refine A0 mV ?_
 refine aw_eqnil rfl rfl rfl rfl rfl isl_97 (fun c4 hc4 => ?_)
 refine CN ?_
 refine aw_ifc (p := c4 = true) rfl (by simp) (fun ht4 => ?_) (fun ht4 => ?_)
 ·
  obtain rfl := hc4 ht4
  refine CQR ?_; refine A0 aL ?_; refine CN ?_
  exact aw_ret1 rfl rfl (ret_fresh_nil rfl)
 ·
  refine CSQR ?_; refine aw_bslice (T := outT) (xs := []) rfl rfl rfl rfl sl_97 row_97 trivial rfl rfl ?_; refine A0 mV ?_; refine aw_append rfl rfl rfl rfl rfl rfl rfl row_97 (by simpa using hl) ?_; refine A0 aO ?_; refine CN ?_
  exact aw_ret1 rfl rfl (ret_fresh_eq rfl rfl (by simp))
theorem cloneTx (l : List Tx) (hl : l.length * 48 ≤ 140737488355328 ∧ l.length ≤ 9223372036854775807) : Tells P 101 [.val (bsl txT) l] (.fresh 99 txT l) := by
 refine fn_of_aw Tryz.func101 rfl rfl rfl (fun ext w hext => ?_)
 refine aw_fact (d := 0) rfl fact_sl (fun hsl0 => ?_)
 refine CQR ?_; refine A0 aL ?_; refine CNQQR ?_; refine A0 mV ?_
 refine aw_eqnil rfl rfl rfl rfl rfl isl_31 (fun c4 hc4 => ?_)
 refine CN ?_
 refine aw_ifc (p := c4 = true) rfl (by simp) (fun ht4 => ?_) (fun ht4 => ?_)
 ·
  obtain rfl := hc4 ht4
  refine CQR ?_; refine A0 aL ?_; refine CN ?_
  exact aw_ret1 rfl rfl (ret_fresh_nil rfl)
 ·
  refine CSQR ?_; refine aw_bslice (T := txT) (xs := []) rfl rfl rfl rfl sl_31 row_31 trivial rfl rfl ?_; refine A0 mV ?_; refine aw_append rfl rfl rfl rfl rfl rfl rfl row_31 (by simpa using hl) ?_; refine A0 aO ?_; refine CN ?_
  exact aw_ret1 rfl rfl (ret_fresh_eq rfl rfl (by simp))
theorem equalFTx (l m : List Tx) : Tells P 65 [.val (bsl txT) l, .val (bsl txT) m, .fn2 P txT txT boolT (fun x y => decide (x = y))] (.val boolT (decide (l = m))) := by
 refine fn_of_aw Tryz.func65 rfl rfl rfl (fun ext w hext => ?_)
 refine aw_fact (d := 0) rfl fact_sl (fun hsl0 => ?_)
 refine aw_fact (d := 1) rfl fact_sl (fun hsl1 => ?_)
 refine CQR ?_; refine A0 aV ?_; refine CNQQR ?_; refine A0 mV ?_; refine A0 (g_len rfl rfl isl_31) ?_; refine A0 mV ?_; refine A0 (g_len rfl rfl isl_31) ?_; refine A0 o_neq ?_; refine CN ?_
 refine Cf (p := ¬ l.length = m.length) (fun ht14 => ?_) (fun ht14 => ?_)
 ·
  refine CQR ?_; refine A0 aV ?_; refine CN ?_
  exact aw_ret1 rfl rfl (ret_eq rfl (decide_eq_false (fun e => ht14 (by rw [e]))).symm)
 ·
  refine CSQQR ?_; refine A0 mV ?_; refine A0 (g_len rfl rfl isl_31) ?_; refine A0 mV ?_; refine CNB ?_
  refine Lp (ι := Nat) 0 (fun (k : Nat) => ((((((Fr.none).set 0 (.val (bsl txT) l)).set 1 (.val (bsl txT) m)).set 2 (.fn2 P txT txT boolT (fun x y => decide (x = y)))).set 15 (.val (bsl txT) l)).set 16 (.val i64T (l.length : Int))).set 17 (.val i64T (k : Int))) (fun (k : Nat) => Hp.none) (fun (k : Nat) => k ≤ l.length ∧ l.take k = m.take k) (fun (k : Nat) => l.length - k) (0) (⟨Nat.zero_le _, by simp⟩) ?_
  intro k hinv
  refine CQR ?_; refine A0 o_lss ?_; refine CNQ ?_
  refine Cf (p := k < l.length) (fun ht18 => ?_) (fun ht18 => ?_)
  ·
   obtain ⟨x, hx⟩ : ∃ x, l[k]? = some x := ⟨_, List.getElem?_eq_getElem ht18⟩
   obtain ⟨y, hy⟩ : ∃ y, m[k]? = some y := ⟨_, List.getElem?_eq_getElem (by omega)⟩
   refine CSQBQR ?_; refine A0 mV ?_; refine A0 (g_ia_n rfl rfl rfl sl_31 (by assumption)) ?_; refine A0 (g_load_r rfl rfl ty_99) ?_; refine aw_alloc ze_99 rfl rfl rfl rfl ?_; refine A0 aV ?_
   refine aw_store_b rfl rfl rfl rfl rfl (Lens.self _) ty_99 rfl ?_; refine CNQR ?_; refine A0 mV ?_; refine A0 mV ?_; refine A0 (g_ia_n rfl rfl rfl sl_31 (by assumption)) ?_; refine A0 (g_load_r rfl rfl ty_99) ?_
   refine aw_alloc ze_99 rfl rfl rfl rfl ?_; refine aw_store_b rfl rfl rfl rfl rfl (Lens.self _) ty_99 rfl ?_; refine CNQR ?_; refine A0 mH ?_; refine A0 (oLs rfl rfl rfl ty_99) ?_; refine A0 (oLs rfl rfl rfl ty_99) ?_
   refine A0 (g_callf2 rfl rfl (arg_v rfl) (arg_v rfl)) ?_; refine A0 oN ?_; refine CN ?_
   refine aw_ifc (p := ¬ x = y) rfl (by simp) (fun ht30 => ?_) (fun ht30 => ?_)
   ·
    refine CQR ?_; refine A0 aV ?_; refine CN ?_
    exact aw_ret1 rfl rfl (ret_eq rfl (decide_eq_false (ne_of_at hx hy ht30)).symm)
   ·
    refine CSIR ?_; refine A0 o_add ?_; refine A0 mV ?_; refine CN ?_
    exact Nx (k + 1) (⟨by omega, beq_all_succ hx hy hinv.2 (by simpa using ht30)⟩) (by omega)
  ·
   refine CE ?_; refine CQR ?_; refine A0 aV ?_; refine CN ?_
   exact aw_ret1 rfl rfl (ret_eq rfl (decide_eq_true (by have h := hinv.2; rw [List.take_of_length_le (by omega), List.take_of_length_le (by omega)] at h; exact h)).symm)
theorem coinSame_ok (a b : Tx) : Tells P 66 [.val txT a, .val txT b] (.val boolT (decide (a = b))) := by
 refine fn_of_aw Tryz.func66 rfl rfl rfl (fun ext w hext => ?_)
 refine CQR ?_; refine aw_box rfl rfl rfl rfl rfl ?_; refine aw_box rfl rfl rfl rfl rfl ?_; refine A0 aV ?_; refine CNQR ?_; refine A0 (oFp fd_99_0) ?_; refine A0 (oLb L_Tx_ins ty_96) ?_; refine A0 (oFp fd_99_0) ?_
 refine A0 (oLb L_Tx_ins ty_96) ?_; refine A0 (oCl (equalIn _ _) rfl fn_117 ⟨(arg_v rfl), (arg_v rfl), trivial⟩) ?_
 refine Sp (d := 9) (p := a.ins = b.ins) (fun g9 => ?_) (fun g9 => ?_)
 ·
  refine A0 mV ?_; refine A1 (oFp fd_99_1) ?_; refine A1 (oLb L_Tx_outs ty_97) ?_; refine A1 (oFp fd_99_1) ?_; refine A1 (oLb L_Tx_outs ty_97) ?_; refine A1 (oCl (equalOut _ _) rfl fn_118 ⟨(arg_v rfl), (arg_v rfl), trivial⟩) ?_; refine A0 oK ?_
  refine A0 aV ?_; refine CN ?_
  exact aw_ret1 rfl rfl (ret_eq rfl (by rw [decide_eq_decide]; exact ⟨fun h => by cases a; cases b; simp_all, fun h => by rw [h]⟩))
 ·
  refine A0 mV ?_; refine A2 ?_; refine A2 ?_; refine A2 ?_; refine A2 ?_; refine A2 ?_; refine A0 oK ?_; refine A0 aV ?_; refine CN ?_
  exact aw_ret1 rfl rfl (ret_eq rfl (by symm; apply decide_eq_false; intro h; exact g9 (by rw [h])))
end Go.Proofs.YtgoiacajjicjcaaGreat
set_option maxRecDepth 20000
namespace Go.Proofs.YtgoiacajjicjcaaGreat
set_option linter.unusedVariables false
set_option linter.unusedSimpArgs false
open Go.Ab Go.RowKit
def padZ (n : Nat) : Nat := (64 - (n + 9) % 64) % 64
def padOf (b : List UInt8) : List UInt8 := (b ++ 128 :: List.replicate (padZ b.length) 0) ++ numBytes (8 * u64OfI (IntL.toI i64T (b.length : Int))) 8
theorem padOf_pre (b : List UInt8) : (b ++ 128 :: List.replicate (padZ b.length) 0).length = b.length + 1 + padZ b.length := by simp; omega
theorem pad_step {b l : List UInt8} {k : Nat} (hk : k < 8) (hl : l.length = b.length + padZ b.length + 9) (h : ∀ j, j < b.length + padZ b.length + 1 ∨ b.length + padZ b.length + 9 - k ≤ j → l[j]? = (padOf b)[j]?) :
    ∀ j, j < b.length + padZ b.length + 1 ∨ b.length + padZ b.length + 9 - (k + 1) ≤ j → (l.set (b.length + padZ b.length + 8 - k) (u8OfI (IntL.toI u64T (shr64 (8 * u64OfI (IntL.toI i64T (b.length : Int))) (8 * k)))))[j]? = (padOf b)[j]? := fun j hj => by
  rw [List.getElem?_set]
  by_cases c : b.length + padZ b.length + 8 - k = j
  · rw [if_pos c, if_pos (by omega)]
    unfold padOf
    rw [List.getElem?_append_right (by rw [padOf_pre]; omega), padOf_pre]
    unfold numBytes
    rw [List.getElem?_map, List.getElem?_range (by omega), Option.map_some]
    congr 4; omega
  · rw [if_neg c]; exact h j (by omega)
theorem pad_start {b : List UInt8} {j : Nat} (hj : j < b.length + padZ b.length + 1 ∨ b.length + padZ b.length + 9 - 0 ≤ j) : ([b, [128], List.replicate (padZ b.length + 8) 0].flatten)[j]? = (padOf b)[j]? := by
  unfold padOf
  have e : [b, [128], List.replicate (padZ b.length + 8) (0 : UInt8)].flatten = (b ++ 128 :: List.replicate (padZ b.length) 0) ++ List.replicate 8 0 := by
    rw [← List.replicate_append_replicate]; simp
  rw [e]
  have hl := padOf_pre b
  generalize b ++ 128 :: List.replicate (padZ b.length) 0 = pre at hl
  rcases hj with hj | hj
  · rw [List.getElem?_append_left (by omega), List.getElem?_append_left (by omega)]
  · rw [List.getElem?_append_right (by omega), List.getElem?_append_right (by omega), hl]
    rw [List.getElem?_eq_none (by simp; omega), List.getElem?_eq_none (by unfold numBytes; simp; omega)]
theorem pad_all {b l : List UInt8} (h : ∀ j, j < b.length + padZ b.length + 1 ∨ b.length + padZ b.length + 9 - 8 ≤ j → l[j]? = (padOf b)[j]?) : l = padOf b := List.ext_getElem? fun j => h j (by omega)
theorem pad_ok (b : List UInt8) (hb : b.length ≤ 70368744177664) : Tells P 122 [.val (sl u8T) b] (.fresh 5 u8T (padOf b)) := by
 have hz : ((padZ b.length : Nat) : Int) = (64 - ((b.length : Int) + 1 + 8) % 64) % 64 := by unfold padZ; omega
 have hz2 : padZ b.length < 64 := by unfold padZ; omega
 refine fn_of_aw Tryz.func122 rfl rfl rfl (fun ext w hext => ?_)
 refine aw_fact (d := 0) rfl fact_sl (fun hsl0 => ?_)
 refine CQR ?_; refine A0 aL ?_; refine CNQR ?_; refine A0 mV ?_; refine A0 (g_len rfl rfl isl_102) ?_; refine A0 o_add ?_; refine A0 o_add ?_; refine A0 (g_rem rfl rfl rfl (by first | omega | assumption) (by first | decide | omega) rfl) ?_
 refine A0 o_sub ?_; refine A0 (g_rem rfl rfl rfl (by first | omega | assumption) (by first | decide | omega) rfl) ?_; refine A0 aV ?_; refine CNQR ?_; refine A0 mV ?_
 refine A0 (g_bslice (T := u8T) (xs := [_]) rfl sl_102 row_102 ⟨rfl, rfl, trivial⟩ rfl rfl) ?_; refine A0 mV ?_; refine A0 o_add ?_
 refine aw_mks (T := u8T) (n := padZ b.length + 8) rfl rfl rfl rfl rfl rfl (by first | omega | rfl) (by first | omega | rfl) row_102 ze_5 ⟨by omega, by omega, (show (padZ b.length + 8) * 1 ≤ 16777216 by omega)⟩ ?_
 refine aw_pub (d := 17) rfl rfl ?_; refine A0 (g_bslice (T := (sl u8T)) (xs := [_, _, _]) rfl sl_150 row_150 ⟨rfl, rfl, rfl, rfl, rfl, rfl, trivial⟩ rfl rfl) ?_
 refine aw_callf (concat_ok [b, [128], List.replicate (padZ b.length + 8) 0] (by simp; omega)) rfl fn_128 ⟨(arg_v rfl), trivial⟩ rfl rfl rfl ?_; refine A0 aO ?_; refine CNQQR ?_; refine A0 mV ?_; refine CNB ?_
 refine Lp (ι := Nat × List UInt8) 2 (fun (i : Nat × List UInt8) => match i with | (k, l) => (((Fr.none).set 0 (.val (sl u8T) b)).set 4 (.own 1)).set 20 (.val i64T (k : Int))) (fun (i : Nat × List UInt8) => match i with | (k, l) => (Hp.none).set 1 (.row 5 u8T l)) (fun (i : Nat × List UInt8) => match i with | (k, l) => k ≤ 8 ∧ l.length = b.length + padZ b.length + 9 ∧ ∀ j, j < b.length + padZ b.length + 1 ∨ b.length + padZ b.length + 9 - k ≤ j → l[j]? = (padOf b)[j]?) (fun (i : Nat × List UInt8) => match i with | (k, l) => 8 - k) ((0, [b, [128], List.replicate (padZ b.length + 8) 0].flatten)) (⟨Nat.zero_le _, by simp; omega, fun j h => pad_start h⟩) ?_
 intro ⟨k, l⟩ hinv
 dsimp only at hinv
 refine CQR ?_; refine A0 o_lss ?_; refine CNQ ?_
 refine Cf (p := k < 8) (fun ht21 => ?_) (fun ht21 => ?_)
 ·
  obtain ⟨x, hx⟩ : ∃ x, l[b.length + padZ b.length + 8 - k]? = some x := ⟨_, List.getElem?_eq_getElem (by omega)⟩
  refine CSQBQR ?_; refine A0 mV ?_; refine A0 aV ?_; refine CNR ?_; refine A0 mO ?_; refine A0 mO ?_; refine A0 (g_len_o rfl rfl rfl isl_102) ?_; refine A0 o_sub ?_; refine A0 mV ?_; refine A0 o_sub ?_; refine A0 mV ?_
  refine A0 (g_len rfl rfl isl_102) ?_; refine A0 (g_cv64 rfl (ui_24) (us_3) rfl) ?_; refine A0 (g_mul64 rfl rfl rfl) ?_; refine A0 mV ?_; refine A0 o_mul ?_
  refine A0 (g_shr64 rfl rfl rfl (by first | decide | (simp [IntL.toI]; done) | (simp [IntL.toI]; omega)) rfl) ?_; refine A0 (g_cv8 rfl (ui_5) (us_24) rfl) ?_
  refine A0 (g_ia_o (i := b.length + padZ b.length + 8 - k) rfl rfl rfl rfl (by first | omega | rfl) sl_102 (by first | assumption | omega | (simp; omega))) ?_; refine aw_store_e rfl rfl rfl rfl rfl rfl (by assumption) (Lens.self _) ty_5 rfl ?_
  refine CNIR ?_; refine A0 o_add ?_; refine A0 mV ?_; refine CN ?_
  exact Nx ((k + 1, l.set (b.length + padZ b.length + 8 - k) (u8OfI (IntL.toI u64T (shr64 (8 * u64OfI (IntL.toI i64T (b.length : Int))) (8 * k)))))) (⟨by omega, by simp; exact hinv.2.1, pad_step ht21 hinv.2.1 hinv.2.2⟩) (by show _ < 8 - k; simp only []; omega)
 ·
  refine CE ?_; refine CQR ?_; refine A0 mO ?_; refine A0 aO ?_; refine CN ?_
  exact aw_ret1 rfl rfl (ret_fresh_eq rfl rfl (pad_all (by rw [show k = 8 by omega] at hinv; exact hinv.2.2)))
end Go.Proofs.YtgoiacajjicjcaaGreat
set_option maxRecDepth 20000
namespace Go.Proofs.YtgoiacajjicjcaaGreat
set_option linter.unusedVariables false
set_option linter.unusedSimpArgs false
open Go.Ab Go.RowKit
def putIn (x : In) : List UInt8 := x.tx ++ [u8OfI (IntL.toI i64T x.i)]
def putOut (o : Out) : List UInt8 := numBytes (u64OfI (IntL.toI i64T o.v)) 6 ++ [u8OfI (IntL.toI i64T o.to)]
def putIns (t : Tx) (k : Nat) : List UInt8 := u8OfI (IntL.toI i64T (t.ins.length : Int)) :: ((t.ins.take k).map putIn).flatten
def putOuts (t : Tx) (k : Nat) : List UInt8 := putIns t t.ins.length ++ [u8OfI (IntL.toI i64T (t.outs.length : Int))] ++ ((t.outs.take k).map putOut).flatten
def putTx (t : Tx) : List UInt8 := putOuts t t.outs.length
theorem putIns_step {t : Tx} {k : Nat} {x : In} (h : t.ins[k]? = some x) : putIns t (k + 1) = putIns t k ++ x.tx ++ [u8OfI (IntL.toI i64T x.i)] := by
  unfold putIns
  rw [List.take_add_one, h]; simp [putIn]
theorem putOuts_step {t : Tx} {k : Nat} {x : Out} (h : t.outs[k]? = some x) : putOuts t (k + 1) = putOuts t k ++ numBytes (u64OfI (IntL.toI i64T x.v)) 6 ++ [u8OfI (IntL.toI i64T x.to)] := by
  unfold putOuts
  rw [List.take_add_one, h]; simp [putOut]
theorem fact_in {U N : Nat → Prop} {w : World} {x : In} {cs : List Value} (h : inT.rel U N w x cs) : x.tx.length = 32 := by
  obtain ⟨c1, c2, _, h1, _⟩ := h
  exact h1.1
theorem fact_txl {t : Tx} {ρ : Nat → Value} {B : Nat → Prop} {U N : Nat → Prop} {w : World} {v : Value} (h : (AV.val txT t).rel ρ B U N w v) : t.ins.length ≤ 9223372036854775807 ∧ t.outs.length ≤ 9223372036854775807 := by
  obtain ⟨cs, ⟨c1, c2, _, ⟨_, cap, _, h1, h2, _⟩, ⟨_, cap', _, h3, h4, _⟩⟩, _⟩ := h
  unfold maxLen at h2 h4
  exact ⟨Nat.le_trans h1 h2, Nat.le_trans h3 h4⟩
theorem numBytes_len (n : UInt64) (s : Nat) : (numBytes n s).length = s := by simp [numBytes]
theorem mayTx_lens {t : Tx} (h : mayTx t = true) : t.ins.length ≤ 3 ∧ 0 < t.outs.length ∧ t.outs.length ≤ 3 := by
  unfold mayTx at h
  simp only [Bool.and_eq_true, decide_eq_true_eq] at h
  exact ⟨h.2.1, h.2.2.1, h.2.2.2.1⟩
theorem put_ok (t : Tx) : Tells P 137 [.val txT t] (.tup2 (.fresh 5 u8T (if mayTx t = true then putTx t else [])) (.val boolT (mayTx t))) := by
 refine fn_of_aw Tryz.func137 rfl rfl rfl (fun ext w hext => ?_)
 refine CQR ?_; refine aw_box rfl rfl rfl rfl rfl ?_; refine A0 aL ?_; refine A0 aV ?_; refine CNQQR ?_; refine A0 (oLs rfl rfl rfl ty_99) ?_; refine A0 (oCl (mayTx_ok _) rfl fn_147 ⟨(arg_v rfl), trivial⟩) ?_; refine A0 oN ?_; refine CN ?_
 refine aw_ifc (p := ¬ mayTx t = true) rfl (by simp) (fun ht11 => ?_) (fun ht11 => ?_)
 ·
  refine CQR ?_; refine A0 aL ?_; refine A0 aV ?_; refine CN ?_
  exact aw_ret2 rfl rfl (by rw [if_neg ht11]; exact ret_fresh_nil rfl) (ret_eq rfl (by simpa using ht11))
 ·
  have hmay := Classical.not_not.1 ht11
  obtain ⟨hmi, hm0, hmo⟩ := mayTx_lens hmay
  refine CSQR ?_; refine A0 (oFp fd_99_0) ?_; refine A0 (oLb L_Tx_ins ty_96) ?_; refine A0 (g_len rfl rfl isl_96) ?_; refine A0 (g_cv8 rfl (ui_5) (us_3) rfl) ?_
  refine aw_bslice (T := u8T) (xs := [_]) rfl rfl rfl rfl sl_102 row_102 ⟨rfl, rfl, trivial⟩ rfl rfl ?_; refine A0 aO ?_; refine CNQQR ?_; refine A0 (oFp fd_99_0) ?_; refine A0 (oLb L_Tx_ins ty_96) ?_; refine A0 (g_len rfl rfl isl_96) ?_
  refine A0 mV ?_; refine CNB ?_
  refine Lp (ι := Nat) 2 (fun (k : Nat) => (((((Fr.none).set 1 (.ptr 0 0)).set 4 (.own 1)).set 18 (.val (sl inT) t.ins)).set 19 (.val i64T (t.ins.length : Int))).set 20 (.val i64T (k : Int))) (fun (k : Nat) => ((Hp.none).set 0 (.box 99 txT t)).set 1 (.row 5 u8T (putIns t k))) (fun (k : Nat) => k ≤ t.ins.length ∧ (putIns t k).length = 33 * k + 1) (fun (k : Nat) => t.ins.length - k) (0) (⟨Nat.zero_le _, by simp [putIns]⟩) ?_
  intro k hinv
  obtain ⟨hk, hpl⟩ := hinv
  have hinv := And.intro hk hpl
  refine CQR ?_; refine A0 o_lss ?_; refine CNQ ?_
  refine Cf (p := k < t.ins.length) (fun ht21 => ?_) (fun ht21 => ?_)
  ·
   obtain ⟨x, hx⟩ : ∃ x, t.ins[k]? = some x := ⟨_, List.getElem?_eq_getElem ht21⟩
   refine CSQBQR ?_; refine A0 (g_ia_n rfl rfl rfl sl_96 (by assumption)) ?_; refine A0 (g_load_r rfl rfl ty_119) ?_; refine aw_alloc ze_119 rfl rfl rfl rfl ?_; refine aw_store_b rfl rfl rfl rfl rfl (Lens.self _) ty_119 rfl ?_; refine CN ?_
   refine aw_factb (n := 2) rfl fact_in (fun hx32 => ?_)
   refine aw_drawx [some 1, some 1, some 1, none, some 2, some 2, some 2, some 2, none, some 1] mixed (by decide +kernel) ?_; refine X0 mO ?_; refine X0 (oFp fd_119_0) ?_; refine X0 (g_slice_b rfl rfl ar_23 rfl rfl) ?_
   refine XK.e (fun fr' hfr kk H => by exact aw_append_v rfl rfl rfl rfl ((hfr 24 (by decide +kernel)).trans rfl) rfl ((hfr 26 (by decide +kernel)).trans rfl) rfl L_In_tx row_102 (by show (_ + x.tx.length) * 1 ≤ _ ∧ _ + x.tx.length ≤ _; omega) (aw_nil H)) ?_
   refine XK.g2 (g_fa_p rfl rfl fd_119_1 rfl) (g_fa_p rfl rfl fd_119_1 rfl) rfl rfl rfl ?_; refine XK.gb (t := 28) rfl rfl (fun _ he => g_load_b rfl rfl he L_In_i ty_3) rfl ⟨rfl, rfl, trivial⟩ rfl rfl rfl ?_
   refine XK.g2 (g_cv8 rfl (ui_5) (us_3) rfl) (g_cv8 rfl (ui_5) (us_3) rfl) rfl rfl rfl ?_
   refine XK.g2 (g_bslice (T := u8T) (xs := [_]) rfl sl_102 row_102 ⟨rfl, rfl, trivial⟩ rfl rfl) (g_bslice (T := u8T) (xs := [_]) rfl sl_102 row_102 ⟨rfl, rfl, trivial⟩ rfl rfl) rfl rfl rfl ?_
   refine XK.e (fun fr' hfr kk H => by exact aw_append rfl rfl rfl rfl ((hfr 27 (by decide +kernel)).trans rfl) rfl ((hfr 31 (by decide +kernel)).trans rfl) row_102 (by simp only [List.length_append, List.length_cons, List.length_nil, hx32]; omega) (aw_nil H)) ?_
   refine X0 aO ?_; refine XK.nil' ?_; refine CI ?_; refine CR ?_; refine A0 o_add ?_; refine A0 mV ?_; refine CN ?_; refine aw_ren 4 1 5 rfl rfl rfl rfl rfl rfl ?_; refine aw_rerow (n := 1) rfl (putIns_step hx).symm ?_
   exact Nx (k + 1) (⟨by omega, by rw [putIns_step hx]; simp only [List.length_append, List.length_cons, List.length_nil, hx32]; omega⟩) (by omega)
  ·
   obtain rfl : k = t.ins.length := (by omega)
   obtain ⟨hli, _⟩ := hinv
   refine CE ?_; refine CQR ?_; refine A0 mO ?_; refine A0 (oFp fd_99_1) ?_; refine A0 (oLb L_Tx_outs ty_97) ?_; refine A0 (g_len rfl rfl isl_97) ?_; refine A0 (g_cv8 rfl (ui_5) (us_3) rfl) ?_
   refine A0 (g_bslice (T := u8T) (xs := [_]) rfl sl_102 row_102 ⟨rfl, rfl, trivial⟩ rfl rfl) ?_; refine aw_append rfl rfl rfl rfl rfl rfl rfl row_102 (by simp only [List.length_append, List.length_cons, List.length_nil]; omega) ?_
   refine A0 aO ?_; refine CNQQR ?_; refine A0 (oFp fd_99_1) ?_; refine A0 (oLb L_Tx_outs ty_97) ?_; refine A0 (g_len rfl rfl isl_97) ?_; refine A0 mV ?_; refine CNB ?_; refine aw_ren 2 1 3 rfl rfl rfl rfl rfl rfl ?_
   refine aw_rerow (y := putOuts t 0) (n := 1) rfl (by simp [putOuts]) ?_
   refine Lp (ι := Nat) 2 (fun (k : Nat) => (((((Fr.none).set 1 (.ptr 0 0)).set 4 (.own 1)).set 42 (.val (sl outT) t.outs)).set 43 (.val i64T (t.outs.length : Int))).set 44 (.val i64T (k : Int))) (fun (k : Nat) => ((Hp.none).set 0 (.box 99 txT t)).set 1 (.row 5 u8T (putOuts t k))) (fun (k : Nat) => k ≤ t.outs.length ∧ (putOuts t k).length = 7 * k + 2 + 33 * t.ins.length) (fun (k : Nat) => t.outs.length - k) (0) (⟨Nat.zero_le _, by simp [putOuts, hpl]; omega⟩) ?_
   intro k hinv
   refine CQR ?_; refine A0 o_lss ?_; refine CNQ ?_
   refine Cf (p := k < t.outs.length) (fun ht45 => ?_) (fun ht45 => ?_)
   ·
    obtain ⟨x, hx⟩ : ∃ x, t.outs[k]? = some x := ⟨_, List.getElem?_eq_getElem ht45⟩
    refine CSQBQR ?_; refine A0 (g_ia_n rfl rfl rfl sl_97 (by assumption)) ?_; refine A0 (g_load_r rfl rfl ty_121) ?_; refine aw_alloc ze_121 rfl rfl rfl rfl ?_; refine aw_store_b rfl rfl rfl rfl rfl (Lens.self _) ty_121 rfl ?_; refine CN ?_
    refine aw_drawx [some 1, some 1, some 1, some 1, some 1, none, some 2, some 2, some 2, some 2, none, some 1] mixed (by decide +kernel) ?_; refine X0 mO ?_; refine X0 (oFp fd_121_0) ?_; refine X0 (oLb L_Out_v ty_3) ?_
    refine X0 (g_cv64 rfl (ui_24) (us_3) rfl) ?_; refine X0 (oCl (tells_pub (binPut_ok _ 6 (by decide))) rfl fn_129 ⟨(arg_v rfl), (arg_v rfl), trivial⟩) ?_
    refine XK.e (fun fr' hfr kk H => by exact aw_append rfl rfl rfl rfl ((hfr 48 (by decide +kernel)).trans rfl) rfl ((hfr 52 (by decide +kernel)).trans rfl) row_102 (by simp only [List.length_append, List.length_cons, List.length_nil, numBytes_len]; omega) (aw_nil H)) ?_
    refine XK.g2 (g_fa_p rfl rfl fd_121_1 rfl) (g_fa_p rfl rfl fd_121_1 rfl) rfl rfl rfl ?_; refine XK.gb (t := 54) rfl rfl (fun _ he => g_load_b rfl rfl he L_Out_to ty_3) rfl ⟨rfl, rfl, trivial⟩ rfl rfl rfl ?_
    refine XK.g2 (g_cv8 rfl (ui_5) (us_3) rfl) (g_cv8 rfl (ui_5) (us_3) rfl) rfl rfl rfl ?_
    refine XK.g2 (g_bslice (T := u8T) (xs := [_]) rfl sl_102 row_102 ⟨rfl, rfl, trivial⟩ rfl rfl) (g_bslice (T := u8T) (xs := [_]) rfl sl_102 row_102 ⟨rfl, rfl, trivial⟩ rfl rfl) rfl rfl rfl ?_
    refine XK.e (fun fr' hfr kk H => by exact aw_append rfl rfl rfl rfl ((hfr 53 (by decide +kernel)).trans rfl) rfl ((hfr 57 (by decide +kernel)).trans rfl) row_102 (by simp only [List.length_append, List.length_cons, List.length_nil, numBytes_len]; omega) (aw_nil H)) ?_
    refine X0 aO ?_; refine XK.nil' ?_; refine CI ?_; refine CR ?_; refine A0 o_add ?_; refine A0 mV ?_; refine CN ?_; refine aw_ren 4 1 5 rfl rfl rfl rfl rfl rfl ?_; refine aw_rerow (n := 1) rfl (putOuts_step hx).symm ?_
    exact Nx (k + 1) (⟨by omega, by rw [putOuts_step hx]; simp only [List.length_append, List.length_cons, List.length_nil, numBytes_len]; omega⟩) (by omega)
   ·
    refine CE ?_; refine CQR ?_; refine A0 mO ?_; refine A0 aO ?_; refine A0 aV ?_; refine CN ?_
    exact aw_ret2 rfl rfl (ret_fresh_eq rfl rfl (by rw [if_pos hmay, show k = t.outs.length by omega]; rfl)) (ret_eq rfl hmay.symm)
end Go.Proofs.YtgoiacajjicjcaaGreat
set_option maxRecDepth 20000
namespace Go.Proofs.YtgoiacajjicjcaaGreat
set_option linter.unusedVariables false
set_option linter.unusedSimpArgs false
open Go.Ab Go.RowKit
def rr (x : UInt32) (n : Int) : UInt32 := rotl x (IntKind.i64.wrap (0 - n))
def beWord (x0 x1 x2 x3 : UInt8) : UInt32 := shl32 (u32OfI (IntL.toI u8T x0)) 24 ||| shl32 (u32OfI (IntL.toI u8T x1)) 16 ||| shl32 (u32OfI (IntL.toI u8T x2)) 8 ||| u32OfI (IntL.toI u8T x3)
def schedWord (a b x y : UInt32) : UInt32 := a + b + (rr x 7 ^^^ rr x 18 ^^^ shr32 x 3) + (rr y 17 ^^^ rr y 19 ^^^ shr32 y 10)
def schedStep (b : List UInt8) (w : List UInt32) (i : Nat) : List UInt32 :=
  if i < 16 then w.set i (beWord (b.getD (4 * i) default) (b.getD (4 * i + 1) default) (b.getD (4 * i + 2) default) (b.getD (4 * i + 3) default))
  else w.set i (schedWord (w.getD (i - 16) default) (w.getD (i - 7) default) (w.getD (i - 15) default) (w.getD (i - 2) default))
def schedN (b : List UInt8) (k : Nat) : List UInt32 := (List.range k).foldl (schedStep b) (List.replicate 64 0)
def roundX (v w : List UInt32) (i : Nat) : UInt32 := v.getD 7 default + (rr (v.getD 4 default) 6 ^^^ rr (v.getD 4 default) 11 ^^^ rr (v.getD 4 default) 25) + ((v.getD 4 default &&& v.getD 5 default) ^^^ (~~~ (v.getD 4 default) &&& v.getD 6 default)) + shaK.getD i default + w.getD i default
def roundY (v : List UInt32) : UInt32 := (rr (v.getD 0 default) 2 ^^^ rr (v.getD 0 default) 13 ^^^ rr (v.getD 0 default) 22) + ((v.getD 0 default &&& v.getD 1 default) ^^^ (v.getD 0 default &&& v.getD 2 default) ^^^ (v.getD 1 default &&& v.getD 2 default))
def roundStep (w v : List UInt32) (i : Nat) : List UInt32 := [roundX v w i + roundY v, v.getD 0 default, v.getD 1 default, v.getD 2 default, v.getD 3 default + roundX v w i, v.getD 4 default, v.getD 5 default, v.getD 6 default]
def roundN (w s : List UInt32) (k : Nat) : List UInt32 := (List.range k).foldl (roundStep w) s
def sumN (v s : List UInt32) (k : Nat) : List UInt32 := (List.range k).foldl (fun s i => s.set i (s.getD i default + v.getD i default)) s
def addOf (s : List UInt32) (b : List UInt8) : List UInt32 := sumN (roundN (schedN b 64) s 64) s 8
theorem fold_succ {α : Type} {f : α → Nat → α} {z : α} {k : Nat} : (List.range (k + 1)).foldl f z = f ((List.range k).foldl f z) k := by rw [List.range_succ, List.foldl_append]; rfl
theorem sched_lo {b : List UInt8} {k : Nat} {x0 x1 x2 x3 : UInt8} (hk : k < 16) (h0 : b[4 * k]? = some x0) (h1 : b[4 * k + 1]? = some x1) (h2 : b[4 * k + 2]? = some x2) (h3 : b[4 * k + 3]? = some x3) : (schedN b k).set k (beWord x0 x1 x2 x3) = schedN b (k + 1) := by
  unfold schedN
  rw [fold_succ]
  unfold schedStep
  rw [if_pos hk]
  simp only [List.getD_eq_getElem?_getD, h0, h1, h2, h3, Option.getD_some]
theorem sched_hi {b : List UInt8} {k : Nat} (hk : ¬ k < 16) : (schedN b k).set k (schedWord ((schedN b k).getD (k - 16) default) ((schedN b k).getD (k - 7) default) ((schedN b k).getD (k - 15) default) ((schedN b k).getD (k - 2) default)) = schedN b (k + 1) := by
  have e : schedN b (k + 1) = schedStep b (schedN b k) k := fold_succ
  rw [e]; unfold schedStep; rw [if_neg hk]
theorem round_succ {w s : List UInt32} {k : Nat} : roundStep w (roundN w s k) k = roundN w s (k + 1) := fold_succ.symm
theorem sum_succ {v s : List UInt32} {k : Nat} {x : UInt32} (h : v[k]? = some x) : (sumN v s k).set k ((sumN v s k).getD k default + x) = sumN v s (k + 1) := by
  have e : sumN v s (k + 1) = _ := fold_succ
  rw [e]
  show _ = (sumN v s k).set k ((sumN v s k).getD k default + v.getD k default)
  rw [List.getD_eq_getElem?_getD (l := v), h]; rfl
theorem roundN_len {w s : List UInt32} (hs : s.length = 8) : ∀ k, (roundN w s k).length = 8
  | 0 => hs
  | k + 1 => by rw [← round_succ]; rfl
theorem add_ok (s : List UInt32) (b : List UInt8) (hb : b.length = 64) (hs : s.length = 8) : TellsM P 123 (.box 153 (arrT 8 (by decide) u32T) s) [.ptr 0 0, .val (bsl u8T) b] (.lit (.tuple #[])) (.box 153 (arrT 8 (by decide) u32T) (addOf s b)) := by
 refine fnm_of_aw trivial Tryz.func123 rfl rfl ⟨Nat.one_pos, ⟨trivial, trivial⟩⟩ (fun ext pg w hext hgr => ?_)
 refine aw_fact (d := 1) rfl fact_sl (fun hsl1 => ?_)
 refine CQR ?_; refine aw_alloc ze_182 rfl rfl rfl rfl ?_; refine CNQQR ?_; refine A0 mV ?_; refine CNB ?_
 refine Lp (ι := Nat) 2 (fun (k : Nat) => ((((Fr.none).set 0 (.ptr 0 0)).set 1 (.val (bsl u8T) b)).set 4 (.ptr 1 0)).set 17 (.val i64T (k : Int))) (fun (k : Nat) => ((Hp.none).set 0 (.box 153 (arrT 8 (by decide) u32T) s)).set 1 (.box 182 (arrT 64 (by decide) u32T) (schedN b k))) (fun (k : Nat) => k ≤ 64) (fun (k : Nat) => 64 - k) (0) (Nat.zero_le _) ?_
 intro k hinv
 refine CQR ?_; refine A0 o_lss ?_; refine CNQ ?_
 refine Cf (p := k < 64) (fun ht18 => ?_) (fun ht18 => ?_)
 ·
  refine CSQBQR ?_; refine A0 mV ?_; refine A0 aV ?_; refine CNQQR ?_; refine A0 mV ?_; refine A0 o_lss ?_; refine CN ?_
  refine Cf (p := k < 16) (fun ht21 => ?_) (fun ht21 => ?_)
  ·
   obtain ⟨x0, hx0⟩ : ∃ x, b[4 * k]? = some x := ⟨_, List.getElem?_eq_getElem (by omega)⟩
   obtain ⟨x1, hx1⟩ : ∃ x, b[4 * k + 1]? = some x := ⟨_, List.getElem?_eq_getElem (by omega)⟩
   obtain ⟨x2, hx2⟩ : ∃ x, b[4 * k + 2]? = some x := ⟨_, List.getElem?_eq_getElem (by omega)⟩
   obtain ⟨x3, hx3⟩ : ∃ x, b[4 * k + 3]? = some x := ⟨_, List.getElem?_eq_getElem (by omega)⟩
   refine CQ ?_
   refine aw_drawx [some 1, some 1, some 1, some 1, some 1, some 1, some 1, some 1, some 1, some 1, some 1, some 1, some 1, some 1, some 1, some 1, some 1, some 1, some 1, some 1, some 1, some 1, some 1, some 1, some 1, some 1, some 1, some 1, some 1, some 1, some 1, some 1, some 1, some 1, some 1, none] mixed (by decide +kernel) ?_
   refine X0 mV ?_; refine X0 mV ?_; refine X0 mV ?_; refine X0 o_mul ?_; refine X0 (g_ia_i (i := 4 * k) rfl rfl rfl (by omega) sl_102 (by assumption)) ?_; refine X0 (g_load_r rfl rfl ty_5) ?_; refine X0 (g_cv32 rfl (ui_27) (us_5) rfl) ?_
   refine X0 (g_shl32 rfl rfl rfl (by first | decide | (simp [IntL.toI]; done) | (simp [IntL.toI]; omega)) rfl) ?_; refine X0 mV ?_; refine X0 mV ?_; refine X0 o_mul ?_; refine X0 o_add ?_
   refine X0 (g_ia_i (i := 4 * k + 1) rfl rfl rfl (by omega) sl_102 (by assumption)) ?_; refine X0 (g_load_r rfl rfl ty_5) ?_; refine X0 (g_cv32 rfl (ui_27) (us_5) rfl) ?_
   refine X0 (g_shl32 rfl rfl rfl (by first | decide | (simp [IntL.toI]; done) | (simp [IntL.toI]; omega)) rfl) ?_; refine X0 (g_or32 rfl rfl rfl) ?_; refine X0 mV ?_; refine X0 mV ?_; refine X0 o_mul ?_; refine X0 o_add ?_
   refine X0 (g_ia_i (i := 4 * k + 2) rfl rfl rfl (by omega) sl_102 (by assumption)) ?_; refine X0 (g_load_r rfl rfl ty_5) ?_; refine X0 (g_cv32 rfl (ui_27) (us_5) rfl) ?_
   refine X0 (g_shl32 rfl rfl rfl (by first | decide | (simp [IntL.toI]; done) | (simp [IntL.toI]; omega)) rfl) ?_; refine X0 (g_or32 rfl rfl rfl) ?_; refine X0 mV ?_; refine X0 mV ?_; refine X0 o_mul ?_; refine X0 o_add ?_
   refine X0 (g_ia_i (i := 4 * k + 3) rfl rfl rfl (by omega) sl_102 (by assumption)) ?_; refine X0 (g_load_r rfl rfl ty_5) ?_; refine X0 (g_cv32 rfl (ui_27) (us_5) rfl) ?_; refine X0 (g_or32 rfl rfl rfl) ?_
   refine X0 (g_ia_b0 (i := k) rfl rfl rfl (by first | omega | rfl) ar_182 (by omega)) ?_
   refine XK.e (x := .idk) (fun fr' hfr kk H => by exact aw_store_b rfl rfl rfl ((hfr 56 (by decide +kernel)).trans rfl) rfl (Lens.elem (i := k) (by omega) u32T) ty_27 ((hfr 55 (by decide +kernel)).trans rfl) (aw_nil H)) ?_; refine XK.nil' ?_
   refine CE ?_; refine CR ?_; refine A0 o_add ?_; refine A0 mV ?_; refine CN ?_; refine aw_reheap (n := 1) rfl (sched_lo ht21 hx0 hx1 hx2 hx3) ?_
   exact Nx (k + 1) (by omega) (by omega)
  ·
   refine CS ?_; refine CQ ?_; refine CD mixed ?_; refine G0 mV ?_; refine G0 o_sub ?_; refine G0 (g_ia_b0 (i := k - 15) rfl rfl rfl (by first | omega | rfl) ar_182 (by omega)) ?_
   refine G0 (g_load_b rfl rfl rfl (Lens.elem (i := k - 15) (by omega) u32T) ty_27) ?_; refine G0 mV ?_; refine G0 o_sub ?_; refine G0 (g_ia_b0 (i := k - 2) rfl rfl rfl (by first | omega | rfl) ar_182 (by omega)) ?_
   refine G0 (g_load_b rfl rfl rfl (Lens.elem (i := k - 2) (by omega) u32T) ty_27) ?_; refine G0 aV ?_; refine G0 aV ?_; refine GK.nil ?_
   refine aw_drawx [some 1, some 1, some 1, some 1, some 1, some 1, some 1, some 1, some 1, some 1, some 1, some 1, some 1, some 1, some 1, some 1, some 1, some 1, some 1, some 1, some 1, some 1, some 1, some 1, some 1, some 1, some 1, some 1, some 1, none] mixed (by decide +kernel) ?_
   refine X0 mV ?_; refine X0 mV ?_; refine X0 o_sub ?_; refine X0 (g_ia_b0 (i := k - 16) rfl rfl rfl (by first | omega | rfl) ar_182 (by omega)) ?_; refine X0 (g_load_b rfl rfl rfl (Lens.elem (i := k - 16) (by omega) u32T) ty_27) ?_
   refine X0 mV ?_; refine X0 o_sub ?_; refine X0 (g_ia_b0 (i := k - 7) rfl rfl rfl (by first | omega | rfl) ar_182 (by omega)) ?_; refine X0 (g_load_b rfl rfl rfl (Lens.elem (i := k - 7) (by omega) u32T) ty_27) ?_
   refine X0 (g_add32 rfl rfl rfl) ?_; refine X0 mV ?_; refine X0 (oCl (right_ok _ _) rfl fn_161 ⟨(arg_v rfl), (arg_v rfl), trivial⟩) ?_; refine X0 mV ?_; refine X0 (oCl (right_ok _ _) rfl fn_161 ⟨(arg_v rfl), (arg_v rfl), trivial⟩) ?_
   refine X0 (g_xor32 rfl rfl rfl) ?_; refine X0 mV ?_; refine X0 (g_shr32 rfl rfl rfl (by first | decide | (simp [IntL.toI]; done) | (simp [IntL.toI]; omega)) rfl) ?_; refine X0 (g_xor32 rfl rfl rfl) ?_; refine X0 (g_add32 rfl rfl rfl) ?_
   refine X0 mV ?_; refine X0 (oCl (right_ok _ _) rfl fn_161 ⟨(arg_v rfl), (arg_v rfl), trivial⟩) ?_; refine X0 mV ?_; refine X0 (oCl (right_ok _ _) rfl fn_161 ⟨(arg_v rfl), (arg_v rfl), trivial⟩) ?_; refine X0 (g_xor32 rfl rfl rfl) ?_
   refine X0 mV ?_; refine X0 (g_shr32 rfl rfl rfl (by first | decide | (simp [IntL.toI]; done) | (simp [IntL.toI]; omega)) rfl) ?_; refine X0 (g_xor32 rfl rfl rfl) ?_; refine X0 (g_add32 rfl rfl rfl) ?_
   refine X0 (g_ia_b0 (i := k) rfl rfl rfl (by first | omega | rfl) ar_182 (by omega)) ?_
   refine XK.e (x := .idk) (fun fr' hfr kk H => by exact aw_store_b rfl rfl rfl ((hfr 93 (by decide +kernel)).trans rfl) rfl (Lens.elem (i := k) (by omega) u32T) ty_27 ((hfr 92 (by decide +kernel)).trans rfl) (aw_nil H)) ?_; refine XK.nil' ?_
   refine CI ?_; refine CR ?_; refine A0 o_add ?_; refine A0 mV ?_; refine CN ?_; refine aw_reheap (n := 1) rfl (sched_hi ht21) ?_
   exact Nx (k + 1) (by omega) (by omega)
 ·
  obtain rfl : k = 64 := (by omega)
  refine CE ?_; refine CQR ?_; refine A0 (oCl (numbers_ok) rfl fn_162 trivial) ?_; refine aw_alloc ze_182 rfl rfl rfl rfl ?_; refine aw_store_b rfl rfl rfl rfl rfl (Lens.self _) ty_182 rfl ?_; refine CNQR ?_; refine A0 mP ?_
  refine A0 (g_nc rfl rfl) ?_; refine A0 (oLs rfl rfl rfl ty_153) ?_; refine aw_alloc ze_153 rfl rfl rfl rfl ?_; refine aw_store_b rfl rfl rfl rfl rfl (Lens.self _) ty_153 rfl ?_; refine CNQQR ?_; refine A0 mV ?_; refine CNB ?_
  refine Lp (ι := Nat) 4 (fun (k : Nat) => (((((Fr.none).set 0 (.ptr 0 0)).set 4 (.ptr 1 0)).set 8 (.ptr 2 0)).set 9 (.ptr 3 0)).set 99 (.val i64T (k : Int))) (fun (k : Nat) => ((((Hp.none).set 0 (.box 153 (arrT 8 (by decide) u32T) s)).set 1 (.box 182 (arrT 64 (by decide) u32T) (schedN b 64))).set 2 (.box 182 (arrT 64 (by decide) u32T) shaK)).set 3 (.box 153 (arrT 8 (by decide) u32T) (roundN (schedN b 64) s k))) (fun (k : Nat) => k ≤ 64) (fun (k : Nat) => 64 - k) (0) (Nat.zero_le _) ?_
  intro k hinv
  refine CQR ?_; refine A0 o_lss ?_; refine CNQ ?_
  refine Cf (p := k < 64) (fun ht100 => ?_) (fun ht100 => ?_)
  ·
   refine CSQBQR ?_; refine A0 mV ?_; refine A0 aV ?_; refine CNQ ?_; refine CD mixed ?_; refine G0 (g_ia_b0 (i := 0) rfl rfl rfl (by first | omega | rfl) ar_153 (by omega)) ?_
   refine G0 (g_load_b rfl rfl rfl (Lens.elem (i := 0) (by omega) u32T) ty_27) ?_; refine G0 (g_ia_b0 (i := 4) rfl rfl rfl (by first | omega | rfl) ar_153 (by omega)) ?_
   refine G0 (g_load_b rfl rfl rfl (Lens.elem (i := 4) (by omega) u32T) ty_27) ?_; refine G0 aV ?_; refine G0 aV ?_; refine GK.nil ?_; refine CQ ?_; refine CD mixed ?_
   refine G0 (g_ia_b0 (i := 7) rfl rfl rfl (by first | omega | rfl) ar_153 (by omega)) ?_; refine G0 (g_load_b rfl rfl rfl (Lens.elem (i := 7) (by omega) u32T) ty_27) ?_; refine G0 mV ?_
   refine G0 (oCl (right_ok _ _) rfl fn_161 ⟨(arg_v rfl), (arg_v rfl), trivial⟩) ?_; refine G0 mV ?_; refine G0 (oCl (right_ok _ _) rfl fn_161 ⟨(arg_v rfl), (arg_v rfl), trivial⟩) ?_; refine G0 (g_xor32 rfl rfl rfl) ?_; refine G0 mV ?_
   refine G0 (oCl (right_ok _ _) rfl fn_161 ⟨(arg_v rfl), (arg_v rfl), trivial⟩) ?_; refine G0 (g_xor32 rfl rfl rfl) ?_; refine G0 (g_add32 rfl rfl rfl) ?_; refine G0 mV ?_
   refine G0 (g_ia_b0 (i := 5) rfl rfl rfl (by first | omega | rfl) ar_153 (by omega)) ?_; refine G0 (g_load_b rfl rfl rfl (Lens.elem (i := 5) (by omega) u32T) ty_27) ?_; refine G0 (g_and32 rfl rfl rfl) ?_; refine G0 mV ?_
   refine G0 (g_not32 rfl rfl) ?_; refine G0 (g_ia_b0 (i := 6) rfl rfl rfl (by first | omega | rfl) ar_153 (by omega)) ?_; refine G0 (g_load_b rfl rfl rfl (Lens.elem (i := 6) (by omega) u32T) ty_27) ?_; refine G0 (g_and32 rfl rfl rfl) ?_
   refine G0 (g_xor32 rfl rfl rfl) ?_; refine G0 (g_add32 rfl rfl rfl) ?_; refine G0 mV ?_; refine G0 (g_ia_b0 (i := k) rfl rfl rfl (by first | omega | rfl) ar_182 (by omega)) ?_
   refine G0 (g_load_b rfl rfl rfl (Lens.elem (i := k) (by omega) u32T) ty_27) ?_; refine G0 (g_add32 rfl rfl rfl) ?_; refine G0 mV ?_; refine G0 (g_ia_b0 (i := k) rfl rfl rfl (by first | omega | rfl) ar_182 (by omega)) ?_
   refine G0 (g_load_b rfl rfl rfl (Lens.elem (i := k) (by omega) u32T) ty_27) ?_; refine G0 (g_add32 rfl rfl rfl) ?_; refine G0 aV ?_; refine GK.nil ?_; refine CQ ?_; refine CD mixed ?_; refine G0 mV ?_
   refine G0 (oCl (right_ok _ _) rfl fn_161 ⟨(arg_v rfl), (arg_v rfl), trivial⟩) ?_; refine G0 mV ?_; refine G0 (oCl (right_ok _ _) rfl fn_161 ⟨(arg_v rfl), (arg_v rfl), trivial⟩) ?_; refine G0 (g_xor32 rfl rfl rfl) ?_; refine G0 mV ?_
   refine G0 (oCl (right_ok _ _) rfl fn_161 ⟨(arg_v rfl), (arg_v rfl), trivial⟩) ?_; refine G0 (g_xor32 rfl rfl rfl) ?_; refine G0 mV ?_; refine G0 (g_ia_b0 (i := 1) rfl rfl rfl (by first | omega | rfl) ar_153 (by omega)) ?_
   refine G0 (g_load_b rfl rfl rfl (Lens.elem (i := 1) (by omega) u32T) ty_27) ?_; refine G0 (g_and32 rfl rfl rfl) ?_; refine G0 mV ?_; refine G0 (g_ia_b0 (i := 2) rfl rfl rfl (by first | omega | rfl) ar_153 (by omega)) ?_
   refine G0 (g_load_b rfl rfl rfl (Lens.elem (i := 2) (by omega) u32T) ty_27) ?_; refine G0 (g_and32 rfl rfl rfl) ?_; refine G0 (g_xor32 rfl rfl rfl) ?_; refine G0 (g_ia_b0 (i := 1) rfl rfl rfl (by first | omega | rfl) ar_153 (by omega)) ?_
   refine G0 (g_load_b rfl rfl rfl (Lens.elem (i := 1) (by omega) u32T) ty_27) ?_; refine G0 (g_ia_b0 (i := 2) rfl rfl rfl (by first | omega | rfl) ar_153 (by omega)) ?_
   refine G0 (g_load_b rfl rfl rfl (Lens.elem (i := 2) (by omega) u32T) ty_27) ?_; refine G0 (g_and32 rfl rfl rfl) ?_; refine G0 (g_xor32 rfl rfl rfl) ?_; refine G0 (g_add32 rfl rfl rfl) ?_; refine G0 aV ?_; refine GK.nil ?_; refine CR ?_
   refine A0 mV ?_; refine A0 mV ?_; refine A0 (g_add32 rfl rfl rfl) ?_; refine A0 mV ?_; refine A0 (g_ia_b0 (i := 1) rfl rfl rfl (by first | omega | rfl) ar_153 (by omega)) ?_
   refine A0 (g_load_b rfl rfl rfl (Lens.elem (i := 1) (by omega) u32T) ty_27) ?_; refine A0 (g_ia_b0 (i := 2) rfl rfl rfl (by first | omega | rfl) ar_153 (by omega)) ?_
   refine A0 (g_load_b rfl rfl rfl (Lens.elem (i := 2) (by omega) u32T) ty_27) ?_; refine A0 (g_ia_b0 (i := 3) rfl rfl rfl (by first | omega | rfl) ar_153 (by omega)) ?_
   refine A0 (g_load_b rfl rfl rfl (Lens.elem (i := 3) (by omega) u32T) ty_27) ?_; refine A0 mV ?_; refine A0 (g_add32 rfl rfl rfl) ?_; refine A0 mV ?_; refine A0 (g_ia_b0 (i := 5) rfl rfl rfl (by first | omega | rfl) ar_153 (by omega)) ?_
   refine A0 (g_load_b rfl rfl rfl (Lens.elem (i := 5) (by omega) u32T) ty_27) ?_; refine A0 (g_ia_b0 (i := 6) rfl rfl rfl (by first | omega | rfl) ar_153 (by omega)) ?_
   refine A0 (g_load_b rfl rfl rfl (Lens.elem (i := 6) (by omega) u32T) ty_27) ?_
   refine A0 (g_buildA (T := u32T) (xs := [_, _, _, _, _, _, _, _]) rfl ar_153 ze_153 ⟨rfl, rfl, rfl, rfl, rfl, rfl, rfl, rfl, rfl, rfl, rfl, rfl, rfl, rfl, rfl, rfl, trivial⟩ rfl) ?_
   refine aw_store_b rfl rfl rfl rfl rfl (Lens.self _) ty_153 rfl ?_; refine CNIR ?_; refine A0 o_add ?_; refine A0 mV ?_; refine CN ?_; refine aw_reheap (n := 3) rfl round_succ ?_
   exact Nx (k + 1) (by omega) (by omega)
  ·
   obtain rfl : k = 64 := (by omega)
   refine CE ?_; refine CQR ?_; refine A0 (oLs rfl rfl rfl ty_153) ?_; refine A0 mV ?_; refine CNB ?_
   refine Lp (ι := Nat) 1 (fun (k : Nat) => (((Fr.none).set 0 (.ptr 0 0)).set 179 (.val (arrT 8 (by decide) u32T) (roundN (schedN b 64) s 64))).set 180 (.val i64T (k : Int))) (fun (k : Nat) => (Hp.none).set 0 (.box 153 (arrT 8 (by decide) u32T) (sumN (roundN (schedN b 64) s 64) s k))) (fun (k : Nat) => k ≤ 8) (fun (k : Nat) => 8 - k) (0) (Nat.zero_le _) ?_
   intro k hinv
   refine CQR ?_; refine A0 o_lss ?_; refine CNQ ?_
   refine Cf (p := k < 8) (fun ht181 => ?_) (fun ht181 => ?_)
   ·
    obtain ⟨x, hx⟩ : ∃ x, (roundN (schedN b 64) s 64)[k]? = some x := ⟨_, List.getElem?_eq_getElem (by rw [roundN_len hs]; exact ht181)⟩
    refine CSQBQR ?_; refine A0 mV ?_; refine A0 (g_index rfl rfl rfl rfl ar_153 ty_27 (by assumption)) ?_; refine A0 aV ?_; refine A0 aV ?_; refine CN ?_
    refine aw_drawx [some 1, some 1, some 1, some 1, some 1, some 1, some 1, some 1, some 1, none] mixed (by decide +kernel) ?_; refine X0 mP ?_; refine X0 mV ?_; refine X0 (g_nc rfl rfl) ?_
    refine X0 (g_ia_b0 (i := k) rfl rfl rfl (by first | omega | rfl) ar_153 (by omega)) ?_; refine X0 (g_load_b rfl rfl rfl (Lens.elem (i := k) (by omega) u32T) ty_27) ?_; refine X0 mV ?_; refine X0 (g_add32 rfl rfl rfl) ?_
    refine X0 (g_nc rfl rfl) ?_; refine X0 (g_ia_b0 (i := k) rfl rfl rfl (by first | omega | rfl) ar_153 (by omega)) ?_
    refine XK.e (x := .idk) (fun fr' hfr kk H => by exact aw_store_b rfl rfl rfl ((hfr 192 (by decide +kernel)).trans rfl) rfl (Lens.elem (i := k) (by omega) u32T) ty_27 ((hfr 190 (by decide +kernel)).trans rfl) (aw_nil H)) ?_; refine XK.nil' ?_
    refine CI ?_; refine CR ?_; refine A0 o_add ?_; refine A0 mV ?_; refine CN ?_; refine aw_reheap (n := 0) rfl (sum_succ hx) ?_
    exact Nx (k + 1) (by omega) (by omega)
   ·
    obtain rfl : k = 8 := (by omega)
    refine CE ?_
    exact aw_fallm0 rfl rfl rfl rfl rfl (give_box rfl rfl)
end Go.Proofs.YtgoiacajjicjcaaGreat
set_option maxRecDepth 20000
namespace Go.Proofs.YtgoiacajjicjcaaGreat
set_option linter.unusedVariables false
set_option linter.unusedSimpArgs false
open Go.Ab Go.RowKit
theorem padOf_len (b : List UInt8) : (padOf b).length = 64 * ((b.length + padZ b.length + 9) / 64) := by
  have h : (padOf b).length = b.length + padZ b.length + 9 := by
    unfold padOf
    rw [List.length_append, padOf_pre]
    unfold numBytes
    simp; omega
  rw [h]; unfold padZ; omega
def shaH : List UInt32 := [1779033703, 3144134277, 1013904242, 2773480762, 1359893119, 2600822924, 528734635, 1541459225]
def shaN (p : List UInt8) (n : Nat) : List UInt32 := (List.range n).foldl (fun s i => addOf s ((p.take (64 * i + 64)).drop (64 * i))) shaH
def shaWords (b : List UInt8) : List UInt32 := shaN (padOf b) ((padOf b).length / 64)
def shaByte (v : List UInt32) (i : Nat) : UInt8 := u8OfI (IntL.toI u32T (shr32 (v.getD (i / 4) default) (24 - 8 * (i % 4))))
def shaSum (b : List UInt8) : Ab.Id := (List.range 32).map (shaByte (shaWords b))
def shaOut (v : List UInt32) (k : Nat) : Ab.Id := (List.range k).foldl (fun l i => l.set i (shaByte v i)) zId
theorem fold_set_get {α : Type} (f : Nat → α) (l : List α) : ∀ k j, ((List.range k).foldl (fun l i => l.set i (f i)) l)[j]? = if j < k ∧ j < l.length then some (f j) else l[j]?
  | 0, j => by simp
  | k + 1, j => by
    rw [List.range_succ, List.foldl_append]
    show (List.set _ k (f k))[j]? = _
    have hl : ∀ k, ((List.range k).foldl (fun l i => l.set i (f i)) l).length = l.length := fun k => by
      induction k with
      | zero => rfl
      | succ k ih => rw [List.range_succ, List.foldl_append]; simp only [List.foldl_cons, List.foldl_nil, List.length_set]; exact ih
    rw [List.getElem?_set, fold_set_get f l k j, hl]
    by_cases c : k = j
    · subst c
      by_cases d : k < l.length
      · simp [d]
      · simp [d]
    · rw [if_neg c]
      by_cases d : j < k
      · have : j < k + 1 := by omega
        simp [d, this]
      · have : ¬ j < k + 1 := by omega
        simp [d, this]
theorem shaOut_all (v : List UInt32) : shaOut v 32 = (List.range 32).map (shaByte v) := by
  apply List.ext_getElem?
  intro j
  unfold shaOut
  rw [fold_set_get, List.getElem?_map]
  have hz : zId.length = 32 := rfl
  rw [hz]
  by_cases c : j < 32
  · rw [if_pos ⟨c, c⟩, List.getElem?_range c]; rfl
  · rw [if_neg (fun h => c h.1), List.getElem?_eq_none (by first | (rw [hz]; omega) | (rw [List.length_range]; omega)), List.getElem?_eq_none (by first | (rw [hz]; omega) | (rw [List.length_range]; omega))]; rfl
theorem shaOut_succ {v : List UInt32} {k : Nat} {x : UInt8} (h : x = shaByte v k) : (shaOut v k).set k x = shaOut v (k + 1) := by
  subst h
  unfold shaOut
  rw [List.range_succ, List.foldl_append]; rfl
theorem shaN_succ {p : List UInt8} {k : Nat} : addOf (shaN p k) ((p.take (64 * k + 64)).drop (64 * k)) = shaN p (k + 1) := by
  unfold shaN
  rw [List.range_succ, List.foldl_append]; rfl
theorem sumN_len {v s : List UInt32} : ∀ k, (sumN v s k).length = s.length
  | 0 => rfl
  | k + 1 => by
    unfold sumN
    rw [List.range_succ, List.foldl_append]
    simp only [List.foldl_cons, List.foldl_nil, List.length_set]
    exact sumN_len k
theorem shaN_len (p : List UInt8) : ∀ k, (shaN p k).length = 8
  | 0 => rfl
  | k + 1 => by rw [← shaN_succ]; unfold addOf; rw [sumN_len]; exact shaN_len p k
theorem sum_ok (b : List UInt8) (hb : b.length ≤ 70368744177664) : Tells P 68 [.val (sl u8T) b] (.val idT (shaSum b)) := by
 obtain ⟨m, hm⟩ : ∃ m, m = (b.length + padZ b.length + 9) / 64 := ⟨_, rfl⟩
 have hz2 : padZ b.length < 64 := by unfold padZ; omega
 have hpl : (padOf b).length = 64 * m := by rw [padOf_len, hm]
 have hmb : m ≤ 2000000000000 := by omega
 refine fn_of_aw Tryz.func68 rfl rfl rfl (fun ext w hext => ?_)
 refine aw_fact (d := 0) rfl fact_sl (fun hsl0 => ?_)
 refine CQR ?_; refine aw_alloc ze_23 rfl rfl rfl rfl ?_; refine CNQR ?_
 refine A0 (g_buildA (T := u32T) (xs := [_, _, _, _, _, _, _, _]) rfl ar_153 ze_153 ⟨rfl, rfl, rfl, rfl, rfl, rfl, rfl, rfl, rfl, rfl, rfl, rfl, rfl, rfl, rfl, rfl, trivial⟩ rfl) ?_; refine aw_box rfl rfl rfl rfl rfl ?_
 refine aw_alloc_p zp_151 rfl rfl rfl rfl rfl rfl ?_; refine aw_store_p rfl rfl rfl rfl rfl rfl rfl rfl rfl rfl ty_151 ?_; refine CNQQR ?_; refine A0 mV ?_; refine A0 (oCl (tells_pub (pad_ok b hb)) rfl fn_122 ⟨(arg_v rfl), trivial⟩) ?_
 refine aw_inline rfl rfl rfl rfl Tryz.func121 fn_121 rfl rfl (fun ia2 iok2 => ?_)
 refine CQR ?_; refine aw_box rfl rfl rfl rfl rfl ?_; refine aw_box rfl rfl rfl rfl rfl ?_; refine A0 aL ?_; refine CNQQR ?_; refine A0 (oLs rfl rfl rfl ty_3) ?_; refine A0 o_lss ?_; refine CN ?_; refine aw_if_f rfl (by decide) ?_
 refine CSQR ?_; refine A0 (g_mkf (caps := [_, _]) rfl rfl) ?_; refine A0 aC ?_; refine CN ?_; refine aw_back1 rfl ?_; refine CNB ?_
 refine aw_range rfl rfl rfl Tryz.func160 fn_160 rfl rfl (by intro n hn; simp only [List.mem_cons, List.not_mem_nil, or_false] at hn; rcases hn with rfl | rfl <;> rfl) (fun fid3 ca3 lN3 DN3 cok3 rc3 hrc3 => ?_)
 refine CQR ?_; refine A0 aV ?_; refine CNB ?_
 refine Lp (ι := Nat) 7 (fun (k : Nat) => ((((Fr.none).set 0 (.lit (.func (.yield lN3) #[] #[]))).set 1 (.ptr 3 0)).set 2 (.ptr 4 0)).set 4 (.val i64T ((64 * k : Nat) : Int))) (fun (k : Nat) => (((((((Hp.none).set 0 (.box 23 idT zId)).set 1 (.box 153 (arrT 8 (by decide) u32T) (shaN (padOf b) k))).set 2 (.parts 151 [.ptr 1 0])).set 3 (.box 102 (sl u8T) (padOf b))).set 4 (.box 3 i64T 64)).set 5 (.objAt DN3 (.deferred (some [])))).set 6 (.objAt lN3 (rc3 .ready none))) (fun (k : Nat) => k ≤ m) (fun (k : Nat) => m - k) (0) (Nat.zero_le _) ?_
 intro k hinv
 refine CQQR ?_; refine A0 mV ?_; refine A0 (oLs rfl rfl rfl ty_102) ?_; refine A0 (g_len rfl rfl isl_102) ?_; refine A0 o_lss ?_; refine CN ?_
 refine Cf (p := 64 * k < (padOf b).length) (fun ht9 => ?_) (fun ht9 => ?_)
 ·
  refine CS ?_; refine CQ ?_; refine CB ?_; refine CQ ?_; refine CD mixed ?_; refine G0 (oLs rfl rfl rfl ty_3) ?_; refine G0 (oLs rfl rfl rfl ty_102) ?_; refine G0 mV ?_
  refine G0 (g_sl_l rfl rfl rfl sl_102 (by first | assumption | omega | (simp; omega))) ?_; refine G0 (g_len rfl rfl isl_102) ?_; refine G0 (g_min rfl rfl rfl) ?_; refine G0 aV ?_; refine GK.nil ?_
  refine aw_reval (d := 5) (y := (64 : Int)) rfl (by simp; omega) ?_; refine CQR ?_; refine A0 mL ?_; refine A0 (oLs rfl rfl rfl ty_102) ?_; refine A0 mV ?_; refine A0 mV ?_; refine A0 mV ?_; refine A0 o_add ?_; refine A0 mV ?_; refine A0 mV ?_
  refine A0 o_add ?_; refine A0 (g_sl_lhm rfl rfl rfl rfl rfl sl_102 (by simp; omega)) ?_; refine aw_reval (d := 28) (y := ((padOf b).take (64 * k + 64)).drop (64 * k)) rfl (by congr 1) ?_
  refine aw_yield (nL := 6) rfl rfl rfl rfl rfl hrc3 rfl rfl rfl (fun ya4 yok4 => ?_)
  refine CR ?_; refine A0 aV ?_; refine CN ?_; refine aw_begin (nL := 6) hrc3 rfl ?_; refine CB ?_; refine CR ?_; refine A0 (by first | exact g_load_p rfl rfl rfl rfl rfl ty_151 | exact g_load_pv rfl rfl rfl rfl ty_151) ?_; refine A0 mV ?_
  refine aw_callu (add_ok (shaN (padOf b) k) (((padOf b).take (64 * k + 64)).drop (64 * k)) (by rw [List.length_drop, List.length_take]; omega) (shaN_len _ k)) rfl fn_123 rfl trivial trivial rfl ⟨(by first | exact argm_own rfl | exact argm_ptr rfl | exact argm_same rfl | exact argm_bsl rfl | exact argm_lit rfl | exact argm_clo rfl | exact argm_row rfl rfl (by decide)), (by first | exact argm_own rfl | exact argm_ptr rfl | exact argm_same rfl | exact argm_bsl rfl | exact argm_lit rfl | exact argm_clo rfl | exact argm_row rfl rfl (by decide)), trivial⟩ rfl rfl rfl ?_
  refine CN ?_; refine CI ?_; refine aw_round_end (nL := 6) hrc3 rfl ?_; refine A0 oN ?_; refine CN ?_; refine Cg ?_; refine CSIR ?_; refine A0 mV ?_; refine A0 (oLs rfl rfl rfl ty_3) ?_; refine A0 o_add ?_; refine A0 aV ?_; refine CN ?_
  refine aw_reval (d := 4) (y := ((64 * (k + 1) : Nat) : Int)) rfl (by omega) ?_; refine aw_reheap (n := 1) (y := shaN (padOf b) (k + 1)) rfl shaN_succ ?_
  exact Nx (k + 1) (by omega) (by omega)
 ·
  obtain rfl : m = k := (by omega)
  refine CE ?_; refine aw_iter_fall (nL := 6) rfl hrc3 rfl (by decide) ?_; refine CI ?_; refine CQR ?_; refine aw_alloc ze_23 rfl rfl rfl rfl ?_; refine CNQQR ?_; refine A0 mV ?_; refine CNB ?_
  refine Lp (ι := Nat) 8 (fun (j : Nat) => ((((Fr.none).set 2 (.ptr 0 0)).set 3 (.ptr 2 0)).set 5 (.ptr 7 0)).set 16 (.val i64T (j : Int))) (fun (j : Nat) => (((((Hp.none).set 0 (.box 23 idT zId)).set 1 (.box 153 (arrT 8 (by decide) u32T) (shaN (padOf b) m))).set 2 (.parts 151 [.ptr 1 0])).set 5 (.objAt DN3 (.deferred (some [])))).set 7 (.box 23 idT (shaOut (shaN (padOf b) m) j))) (fun (j : Nat) => j ≤ 32) (fun (j : Nat) => 32 - j) (0) (Nat.zero_le _) ?_
  intro j hinv
  refine CQR ?_; refine A0 o_lss ?_; refine CNQ ?_
  refine Cf (p := j < 32) (fun ht17 => ?_) (fun ht17 => ?_)
  ·
   refine CSQBQR ?_; refine A0 mV ?_; refine A0 aV ?_; refine CNR ?_; refine A0 mV ?_; refine A0 (by first | exact g_load_p rfl rfl rfl rfl rfl ty_151 | exact g_load_pv rfl rfl rfl rfl ty_151) ?_; refine A0 mV ?_
   refine A0 (g_quo rfl rfl rfl (by first | omega | assumption) (by first | decide | omega) rfl) ?_; refine A0 (g_nc rfl rfl) ?_; refine A0 (g_ia_b0 (i := j / 4) rfl rfl rfl (by first | omega | rfl) ar_153 (by omega)) ?_
   refine A0 (g_load_b rfl rfl rfl (Lens.elem (i := j / 4) (by omega) u32T) ty_27) ?_; refine A0 mV ?_; refine A0 (g_rem rfl rfl rfl (by first | omega | assumption) (by first | decide | omega) rfl) ?_; refine A0 o_mul ?_; refine A0 o_sub ?_
   refine A0 (g_shr32 rfl rfl rfl (by first | decide | (simp [IntL.toI]; done) | (simp [IntL.toI]; omega)) rfl) ?_; refine A0 (g_cv8 rfl (ui_5) (us_27) rfl) ?_
   refine A0 (g_ia_b0 (i := j) rfl rfl rfl (by first | omega | rfl) ar_23 (by omega)) ?_; refine aw_store_b rfl rfl rfl rfl rfl (Lens.elem (i := j) (by omega) u8T) ty_5 rfl ?_; refine CNIR ?_; refine A0 o_add ?_; refine A0 mV ?_; refine CN ?_
   refine aw_reheap (n := 7) (y := shaOut (shaN (padOf b) m) (j + 1)) rfl (shaOut_succ (by unfold shaByte; congr 3; simp only [IntL.toI, id_eq]; omega)) ?_
   exact Nx (j + 1) (by omega) (by omega)
  ·
   obtain rfl : j = 32 := (by omega)
   refine CE ?_; refine CQR ?_; refine A0 (oLs rfl rfl rfl ty_23) ?_; refine aw_store_b rfl rfl rfl rfl rfl (Lens.self _) ty_23 rfl ?_; refine CN ?_
   refine aw_of_ar (ar_unmark (nD := 5) rfl rfl rfl ?_)
   exact ar_retc1 rfl rfl rfl rfl ty_23 (by rw [shaOut_all]; unfold shaSum shaWords; rw [hpl, Nat.mul_div_cancel_left m (by decide)])
def idOf (t : Tx) : Ab.Id := if mayTx t = true then shaSum ([6] ++ putTx t) else zId
theorem relAll_mem {α : Type} {T : GoT α} {U N : Nat → Prop} {w : World} : ∀ {l : List α} {cs : List Value}, relAll T U N w l cs → ∀ x ∈ l, ∃ c, T.rel U N w x c
  | [], _, _, x, hx => by cases hx
  | y :: l, _, ⟨c1, c2, _, h1, h2⟩, x, hx => by
    rcases List.mem_cons.1 hx with e | e
    · exact ⟨c1, e ▸ h1⟩
    · exact relAll_mem h2 x e
theorem fact_tx {t : Tx} {ρ : Nat → Value} {B : Nat → Prop} {U N : Nat → Prop} {w : World} {v : Value} (h : (AV.val txT t).rel ρ B U N w v) : ∀ x ∈ t.ins, x.tx.length = 32 := fun x hx => by
  obtain ⟨cs, ⟨c1, c2, _, ⟨ad, cap, _, _, _, h3⟩, _⟩, _⟩ := h
  obtain ⟨_, ds, _, _, hr, _⟩ := h3 (List.ne_nil_of_mem hx)
  obtain ⟨c, hc⟩ := relAll_mem hr x hx
  exact fact_in hc
theorem flat_len {α β : Type} {f : α → List β} {n : Nat} : ∀ {l : List α}, (∀ x ∈ l, (f x).length = n) → (l.map f).flatten.length = l.length * n
  | [], _ => by simp
  | x :: l, h => by
    rw [List.map_cons, List.flatten_cons, List.length_append, h x (by simp), flat_len (fun y hy => h y (by simp [hy])), List.length_cons, Nat.add_mul]; omega
theorem putTx_len {t : Tx} (h : mayTx t = true) (h32 : ∀ x ∈ t.ins, x.tx.length = 32) : (putTx t).length ≤ 200 := by
  obtain ⟨h1, _, h2⟩ := mayTx_lens h
  unfold putTx putOuts putIns
  have e1 := flat_len (f := putIn) (n := 33) (l := t.ins.take t.ins.length) (fun x hx => by
    rw [List.take_length] at hx
    unfold putIn
    rw [List.length_append, h32 x hx]; rfl)
  have e2 := flat_len (f := putOut) (n := 7) (l := t.outs.take t.outs.length) (fun x hx => by
    unfold putOut
    rw [List.length_append, numBytes_len]; rfl)
  rw [List.take_length] at e1 e2
  simp only [List.length_append, List.length_cons, List.length_nil, List.take_length, e1, e2]
  omega
theorem of_ok (ls : List (List UInt8)) (hl : ls.flatten.length ≤ 70368744177664) : Tells P 73 [.val (bsl (bsl u8T)) ls] (.val idT (shaSum ls.flatten)) := by
 refine fn_of_aw Tryz.func73 rfl rfl rfl (fun ext w hext => ?_)
 refine aw_fact (d := 0) rfl fact_sl (fun hsl0 => ?_)
 refine CQR ?_; refine aw_alloc ze_23 rfl rfl rfl rfl ?_; refine CNQR ?_; refine A0 mV ?_; refine A0 (oCl (tells_pub (concat_ok ls (by omega))) rfl fn_128 ⟨(arg_v rfl), trivial⟩) ?_
 refine A0 (oCl (sum_ok ls.flatten hl) rfl fn_68 ⟨(arg_v rfl), trivial⟩) ?_; refine aw_store_b rfl rfl rfl rfl rfl (Lens.self _) ty_23 rfl ?_; refine CN ?_
 exact aw_retc1 rfl rfl rfl rfl ty_23 (rfl)
theorem id_ok (t : Tx) : Tells P 86 [.val txT t] (.val idT (idOf t)) := by
 refine fn_of_aw Tryz.func86 rfl rfl rfl (fun ext w hext => ?_)
 refine aw_fact (d := 0) rfl fact_tx (fun h32 => ?_)
 refine CQR ?_; refine aw_box rfl rfl rfl rfl rfl ?_; refine aw_alloc ze_23 rfl rfl rfl rfl ?_; refine CNQR ?_; refine A0 (oLs rfl rfl rfl ty_99) ?_; refine A0 (oCl (tells_pub2 (put_ok t)) rfl fn_137 ⟨(arg_v rfl), trivial⟩) ?_; refine A0 mX ?_
 refine A0 (by first | exact g_x20 rfl rfl | exact g_x30 rfl rfl) ?_; refine A0 (by first | exact g_x21 rfl rfl | exact g_x31 rfl rfl) ?_; refine A0 aV ?_; refine A0 aV ?_; refine CNQQR ?_; refine A0 mV ?_; refine A0 oN ?_; refine CN ?_
 refine aw_ifc (p := ¬ mayTx t = true) rfl (by simp) (fun ht11 => ?_) (fun ht11 => ?_)
 ·
  refine CQR ?_; refine A0 (g_buildZ rfl ar_23 ze_23 rfl) ?_; refine aw_store_b rfl rfl rfl rfl rfl (Lens.self _) ty_23 rfl ?_; refine CN ?_
  exact aw_retc1 rfl rfl rfl rfl ty_23 (by unfold idOf; rw [if_neg ht11])
 ·
  refine aw_reval (d := 3) rfl (if_pos (Classical.not_not.1 ht11)) ?_; refine CSQR ?_; refine A0 (g_bslice (T := u8T) (xs := [_]) rfl sl_102 row_102 ⟨rfl, rfl, trivial⟩ rfl rfl) ?_; refine A0 mV ?_
  refine A0 (g_bslice (T := (sl u8T)) (xs := [_, _]) rfl sl_150 row_150 ⟨rfl, rfl, rfl, rfl, trivial⟩ rfl rfl) ?_
  refine A0 (oCl (of_ok [[6], putTx t] (by have := putTx_len (Classical.not_not.1 ht11) h32; simp; omega)) rfl fn_73 ⟨(arg_v rfl), trivial⟩) ?_; refine aw_store_b rfl rfl rfl rfl rfl (Lens.self _) ty_23 rfl ?_; refine CN ?_
  exact aw_retc1 rfl rfl rfl rfl ty_23 (by unfold idOf; rw [if_pos (Classical.not_not.1 ht11)]; simp)
end Go.Proofs.YtgoiacajjicjcaaGreat
set_option maxRecDepth 20000
namespace Go.Proofs.YtgoiacajjicjcaaGreat
set_option linter.unusedVariables false
set_option linter.unusedSimpArgs false
open Go.Ab Go.RowKit
def setN {α : Type} (f : Nat → α) (z : List α) (k : Nat) : List α := (List.range k).foldl (fun l i => l.set i (f i)) z
theorem setN_succ {α : Type} {f : Nat → α} {z : List α} {k : Nat} : (setN f z k).set k (f k) = setN f z (k + 1) := (fold_succ (f := fun (l : List α) i => l.set i (f i))).symm
theorem setN_all {α : Type} {f : Nat → α} {z : List α} {k : Nat} (h : z.length = k) : setN f z k = (List.range k).map f := by
  apply List.ext_getElem?
  intro j
  unfold setN
  rw [fold_set_get, List.getElem?_map]
  by_cases c : j < k
  · rw [if_pos ⟨c, by omega⟩, List.getElem?_range c]; rfl
  · rw [if_neg (by omega), List.getElem?_eq_none (by omega), List.getElem?_eq_none (by simp; omega)]; rfl
theorem fact_idL {a : Ab.Id} {ρ : Nat → Value} {B : Nat → Prop} {U N : Nat → Prop} {w : World} {v : Value} (h : (AV.val idT a).rel ρ B U N w v) : a.length = 32 := by
  obtain ⟨cs, h, _⟩ := h
  exact h.1
theorem fact_wide {a : Wide} {ρ : Nat → Value} {B : Nat → Prop} {U N : Nat → Prop} {w : World} {v : Value} (h : (AV.val wideT a).rel ρ B U N w v) : a.length = 4 := by
  obtain ⟨cs, h, _⟩ := h
  exact h.1
def cmpU (x y : UInt64) : Int := if x < y then -1 else if y < x then 1 else 0
def atW (a : Wide) (i : Int) : UInt64 := if i < 0 ∨ 4 ≤ i then 0 else a.getD i.toNat default
def upF (a : Wide) (n : Int) (i : Nat) : UInt64 := shl64 (atW a ((i : Int) - n / 64)) (n % 64).toNat ||| shr64 (shr64 (atW a ((i : Int) - n / 64 - 1)) 1) (63 - n % 64).toNat
def upW (a : Wide) (n : Int) : Wide := if n < 0 then a else if 256 ≤ n then zWide else (List.range 4).map (upF a n)
def downF (a : Wide) (n : Int) (i : Nat) : UInt64 := shr64 (atW a ((i : Int) + n / 64)) (n % 64).toNat ||| shl64 (shl64 (atW a ((i : Int) + n / 64 + 1)) 1) (63 - n % 64).toNat
def downW (a : Wide) (n : Int) : Wide := if n < 0 then a else if 256 ≤ n then zWide else (List.range 4).map (downF a n)
def byteF (a : Wide) (i : Nat) : UInt8 := u8OfI (IntL.toI u64T (shr64 (a.getD (3 - i / 8) default) (56 - 8 * ((i : Int) % 8)).toNat))
def bytesW (a : Wide) : Ab.Id := (List.range 32).map (byteF a)
def of32S (b : Ab.Id) (w : Wide) (i : Nat) : Wide := w.set (3 - i / 8) (shl64 (w.getD (3 - i / 8) default) 8 ||| u64OfI (IntL.toI u8T (b.getD i default)))
def of32N (b : Ab.Id) (k : Nat) : Wide := (List.range k).foldl (of32S b) zWide
def of32W (b : Ab.Id) : Wide := of32N b 32
def cmpW (a b : Wide) : Int := orL [cmpU (a.getD 3 default) (b.getD 3 default), cmpU (a.getD 2 default) (b.getD 2 default), cmpU (a.getD 1 default) (b.getD 1 default), cmpU (a.getD 0 default) (b.getD 0 default)]
theorem isNaNU_ok (x : UInt64) : Tells P 219 [.val u64T x] (.val boolT false) := by
 refine fn_of_aw Tryz.func219 rfl rfl rfl (fun ext w hext => ?_)
 refine CQR ?_; refine A0 aV ?_; refine CNQR ?_; refine A0 mV ?_; refine A0 mV ?_; refine A0 o_neq ?_; refine A0 aV ?_; refine CN ?_
 exact aw_ret1 rfl rfl (ret_val (by simp [Fr.set]))
theorem cmpU_ok (x y : UInt64) : Tells P 201 [.val u64T x, .val u64T y] (.val i64T (cmpU x y)) := by
 refine fn_of_aw Tryz.func201 rfl rfl rfl (fun ext w hext => ?_)
 refine CQR ?_; refine A0 aV ?_; refine CNQR ?_; refine A0 mV ?_; refine A0 (oCl (isNaNU_ok _) rfl fn_219 ⟨(arg_v rfl), trivial⟩) ?_; refine A0 aV ?_; refine CNQR ?_; refine A0 mV ?_
 refine A0 (oCl (isNaNU_ok _) rfl fn_219 ⟨(arg_v rfl), trivial⟩) ?_; refine A0 aV ?_; refine CNQQR ?_; refine A0 mV ?_; refine CN ?_; refine Cg ?_; refine CSQQR ?_; refine A0 mV ?_; refine CN ?_; refine Cg ?_; refine CSQQR ?_; refine A0 mV ?_
 refine A0 mV ?_; refine A0 o_lss ?_; refine CN ?_
 refine aw_ifc (p := x < y) rfl (by simp [IntL.toI, UInt64.lt_iff_toNat_lt]) (fun ht16 => ?_) (fun ht16 => ?_)
 ·
  refine CQR ?_; refine A0 aV ?_; refine CN ?_
  exact aw_ret1 rfl rfl (ret_eq rfl (by unfold cmpU; first | rw [if_neg (by assumption), if_neg (by assumption)] | rw [if_neg (by assumption), if_pos (by assumption)] | rw [if_pos (by assumption)]))
 ·
  refine CSQQR ?_; refine A0 mV ?_; refine A0 mV ?_; refine A0 o_gtr ?_; refine CN ?_
  refine aw_ifc (p := y < x) rfl (by simp [IntL.toI, UInt64.lt_iff_toNat_lt]) (fun ht19 => ?_) (fun ht19 => ?_)
  ·
   refine CQR ?_; refine A0 aV ?_; refine CN ?_
   exact aw_ret1 rfl rfl (ret_eq rfl (by unfold cmpU; first | rw [if_neg (by assumption), if_neg (by assumption)] | rw [if_neg (by assumption), if_pos (by assumption)] | rw [if_pos (by assumption)]))
  ·
   refine CSQR ?_; refine A0 aV ?_; refine CN ?_
   exact aw_ret1 rfl rfl (ret_eq rfl (by unfold cmpU; first | rw [if_neg (by assumption), if_neg (by assumption)] | rw [if_neg (by assumption), if_pos (by assumption)] | rw [if_pos (by assumption)]))
theorem atW_ok (a : Wide) (i : Int) : Tells P 133 [.val wideT a, .val i64T i] (.val u64T (atW a i)) := by
 refine fn_of_aw Tryz.func133 rfl rfl rfl (fun ext w hext => ?_)
 refine aw_fact (d := 1) rfl fact_int (fun hin1 => ?_)
 refine aw_fact (d := 0) rfl fact_wide (fun ha => ?_)
 refine CQR ?_; refine aw_box rfl rfl rfl rfl rfl ?_; refine A0 aV ?_; refine CNQQR ?_; refine A0 mV ?_; refine A0 o_lss ?_
 refine Sp (d := 6) (p := i < 0) (fun g6 => ?_) (fun g6 => ?_)
 ·
  refine A0 mV ?_; refine A2 ?_; refine A2 ?_; refine A0 oK ?_; refine CN ?_; refine Ct ?_; refine CQR ?_; refine A0 aV ?_; refine CN ?_
  exact aw_ret1 rfl rfl (ret_eq rfl (by unfold atW; rw [if_pos (.inl g6)]; rfl))
 ·
  refine A0 mV ?_; refine A1 mV ?_; refine A1 o_geq ?_
  refine Sp (d := 9) (p := 4 ≤ i) (fun g9 => ?_) (fun g9 => ?_)
  ·
   refine A0 oK ?_; refine CN ?_; refine Ct ?_; refine CQR ?_; refine A0 aV ?_; refine CN ?_
   exact aw_ret1 rfl rfl (ret_eq rfl (by unfold atW; rw [if_pos (.inr g9)]; rfl))
  ·
   refine A0 oK ?_; refine CN ?_; refine Cg ?_; refine CSQR ?_; refine A0 mV ?_; refine A0 (g_ia_b0 (i := i.toNat) rfl rfl rfl (by first | omega | rfl) ar_26 (by omega)) ?_
   refine A0 (g_load_b rfl rfl rfl (Lens.elem (i := i.toNat) (by omega) u64T) ty_24) ?_; refine A0 aV ?_; refine CN ?_
   exact aw_ret1 rfl rfl (ret_eq rfl (by unfold atW; rw [if_neg (by omega)]))
theorem upW_ok (a : Wide) (n : Int) : Tells P 82 [.val wideT a, .val i64T n] (.val wideT (upW a n)) := by
 refine fn_of_aw Tryz.func82 rfl rfl rfl (fun ext w hext => ?_)
 refine aw_fact (d := 1) rfl fact_int (fun hin1 => ?_)
 refine aw_fact (d := 0) rfl fact_wide (fun ha => ?_)
 refine CQR ?_; refine aw_box rfl rfl rfl rfl rfl ?_; refine aw_alloc ze_26 rfl rfl rfl rfl ?_; refine CNQQR ?_; refine A0 mV ?_; refine A0 o_lss ?_; refine CN ?_
 refine Cf (p := n < 0) (fun ht10 => ?_) (fun ht10 => ?_)
 ·
  refine CQR ?_; refine A0 (oLs rfl rfl rfl ty_26) ?_; refine aw_store_b rfl rfl rfl rfl rfl (Lens.self _) ty_26 rfl ?_; refine CN ?_
  exact aw_retc1 rfl rfl rfl rfl ty_26 (by unfold upW; rw [if_pos ht10])
 ·
  refine CSQQR ?_; refine A0 mV ?_; refine A0 o_geq ?_; refine CN ?_
  refine Cf (p := 256 ≤ n) (fun ht13 => ?_) (fun ht13 => ?_)
  ·
   refine CQR ?_; refine A0 (g_buildZ rfl ar_26 ze_26 rfl) ?_; refine aw_store_b rfl rfl rfl rfl rfl (Lens.self _) ty_26 rfl ?_; refine CN ?_
   exact aw_retc1 rfl rfl rfl rfl ty_26 (by unfold upW; rw [if_neg ht10, if_pos ht13])
  ·
   refine CSQR ?_; refine aw_alloc ze_26 rfl rfl rfl rfl ?_; refine CNQR ?_; refine A0 mV ?_; refine A0 (g_quo rfl rfl rfl (by first | omega | assumption) (by first | decide | omega) rfl) ?_; refine A0 mV ?_
   refine A0 (g_rem rfl rfl rfl (by first | omega | assumption) (by first | decide | omega) rfl) ?_; refine A0 aV ?_; refine A0 aV ?_; refine CNQQR ?_; refine A0 mV ?_; refine CNB ?_
   refine Lp (ι := Nat) 3 (fun (k : Nat) => ((((((Fr.none).set 2 (.ptr 0 0)).set 4 (.ptr 1 0)).set 5 (.ptr 2 0)).set 6 (.val i64T (n / 64))).set 7 (.val i64T (n % 64))).set 19 (.val i64T (k : Int))) (fun (k : Nat) => (((Hp.none).set 0 (.box 26 wideT a)).set 1 (.box 26 wideT zWide)).set 2 (.box 26 wideT (setN (upF a n) zWide k))) (fun (k : Nat) => k ≤ 4) (fun (k : Nat) => 4 - k) (0) (Nat.zero_le _) ?_
   intro k hinv
   refine CQR ?_; refine A0 o_lss ?_; refine CNQ ?_
   refine Cf (p := k < 4) (fun ht20 => ?_) (fun ht20 => ?_)
   ·
    refine CSQBQR ?_; refine A0 mV ?_; refine A0 aV ?_; refine CN ?_
    refine aw_drawx [some 1, some 1, some 1, some 1, some 1, some 1, some 1, some 1, some 1, some 1, some 1, some 1, some 1, some 1, some 1, some 1, some 1, some 1, some 1, some 1, none] mixed (by decide +kernel) ?_; refine X0 mV ?_
    refine X0 (oLs rfl rfl rfl ty_26) ?_; refine X0 mV ?_; refine X0 mV ?_; refine X0 o_sub ?_; refine X0 (oCl (atW_ok _ _) rfl fn_133 ⟨(arg_v rfl), (arg_v rfl), trivial⟩) ?_; refine X0 mV ?_
    refine X0 (g_shl64 rfl rfl rfl (by first | decide | (simp [IntL.toI]; done) | (simp [IntL.toI]; omega)) rfl) ?_; refine X0 (oLs rfl rfl rfl ty_26) ?_; refine X0 mV ?_; refine X0 mV ?_; refine X0 o_sub ?_; refine X0 o_sub ?_
    refine X0 (oCl (atW_ok _ _) rfl fn_133 ⟨(arg_v rfl), (arg_v rfl), trivial⟩) ?_; refine X0 (g_shr64 rfl rfl rfl (by first | decide | (simp [IntL.toI]; done) | (simp [IntL.toI]; omega)) rfl) ?_; refine X0 mV ?_; refine X0 o_sub ?_
    refine X0 (g_shr64 rfl rfl rfl (by first | decide | (simp [IntL.toI]; done) | (simp [IntL.toI]; omega)) rfl) ?_; refine X0 (g_or64 rfl rfl rfl) ?_; refine X0 (g_ia_b0 (i := k) rfl rfl rfl (by first | omega | rfl) ar_26 (by omega)) ?_
    refine XK.e (x := .idk) (fun fr' hfr kk H => by exact aw_store_b rfl rfl rfl ((hfr 41 (by decide +kernel)).trans rfl) rfl (Lens.elem (i := k) (by omega) u64T) ty_24 ((hfr 40 (by decide +kernel)).trans rfl) (aw_nil H)) ?_; refine XK.nil' ?_
    refine CI ?_; refine CR ?_; refine A0 o_add ?_; refine A0 mV ?_; refine CN ?_; refine aw_reheap (n := 2) (y := setN (upF a n) zWide (k + 1)) rfl setN_succ ?_
    exact Nx (k + 1) (by omega) (by omega)
   ·
    obtain rfl : k = 4 := (by omega)
    refine CE ?_; refine CQR ?_; refine A0 (oLs rfl rfl rfl ty_26) ?_; refine aw_store_b rfl rfl rfl rfl rfl (Lens.self _) ty_26 rfl ?_; refine CN ?_
    exact aw_retc1 rfl rfl rfl rfl ty_26 (by unfold upW; rw [if_neg ht10, if_neg ht13]; exact setN_all rfl)
theorem downW_ok (a : Wide) (n : Int) : Tells P 166 [.val wideT a, .val i64T n] (.val wideT (downW a n)) := by
 refine fn_of_aw Tryz.func166 rfl rfl rfl (fun ext w hext => ?_)
 refine aw_fact (d := 1) rfl fact_int (fun hin1 => ?_)
 refine aw_fact (d := 0) rfl fact_wide (fun ha => ?_)
 refine CQR ?_; refine aw_box rfl rfl rfl rfl rfl ?_; refine aw_alloc ze_26 rfl rfl rfl rfl ?_; refine CNQQR ?_; refine A0 mV ?_; refine A0 o_lss ?_; refine CN ?_
 refine Cf (p := n < 0) (fun ht10 => ?_) (fun ht10 => ?_)
 ·
  refine CQR ?_; refine A0 (oLs rfl rfl rfl ty_26) ?_; refine aw_store_b rfl rfl rfl rfl rfl (Lens.self _) ty_26 rfl ?_; refine CN ?_
  exact aw_retc1 rfl rfl rfl rfl ty_26 (by unfold downW; rw [if_pos ht10])
 ·
  refine CSQQR ?_; refine A0 mV ?_; refine A0 o_geq ?_; refine CN ?_
  refine Cf (p := 256 ≤ n) (fun ht13 => ?_) (fun ht13 => ?_)
  ·
   refine CQR ?_; refine A0 (g_buildZ rfl ar_26 ze_26 rfl) ?_; refine aw_store_b rfl rfl rfl rfl rfl (Lens.self _) ty_26 rfl ?_; refine CN ?_
   exact aw_retc1 rfl rfl rfl rfl ty_26 (by unfold downW; rw [if_neg ht10, if_pos ht13])
  ·
   refine CSQR ?_; refine aw_alloc ze_26 rfl rfl rfl rfl ?_; refine CNQR ?_; refine A0 mV ?_; refine A0 (g_quo rfl rfl rfl (by first | omega | assumption) (by first | decide | omega) rfl) ?_; refine A0 mV ?_
   refine A0 (g_rem rfl rfl rfl (by first | omega | assumption) (by first | decide | omega) rfl) ?_; refine A0 aV ?_; refine A0 aV ?_; refine CNQQR ?_; refine A0 mV ?_; refine CNB ?_
   refine Lp (ι := Nat) 3 (fun (k : Nat) => ((((((Fr.none).set 2 (.ptr 0 0)).set 4 (.ptr 1 0)).set 5 (.ptr 2 0)).set 6 (.val i64T (n / 64))).set 7 (.val i64T (n % 64))).set 19 (.val i64T (k : Int))) (fun (k : Nat) => (((Hp.none).set 0 (.box 26 wideT a)).set 1 (.box 26 wideT zWide)).set 2 (.box 26 wideT (setN (downF a n) zWide k))) (fun (k : Nat) => k ≤ 4) (fun (k : Nat) => 4 - k) (0) (Nat.zero_le _) ?_
   intro k hinv
   refine CQR ?_; refine A0 o_lss ?_; refine CNQ ?_
   refine Cf (p := k < 4) (fun ht20 => ?_) (fun ht20 => ?_)
   ·
    refine CSQBQR ?_; refine A0 mV ?_; refine A0 aV ?_; refine CN ?_
    refine aw_drawx [some 1, some 1, some 1, some 1, some 1, some 1, some 1, some 1, some 1, some 1, some 1, some 1, some 1, some 1, some 1, some 1, some 1, some 1, some 1, some 1, none] mixed (by decide +kernel) ?_; refine X0 mV ?_
    refine X0 (oLs rfl rfl rfl ty_26) ?_; refine X0 mV ?_; refine X0 mV ?_; refine X0 o_add ?_; refine X0 (oCl (atW_ok _ _) rfl fn_133 ⟨(arg_v rfl), (arg_v rfl), trivial⟩) ?_; refine X0 mV ?_
    refine X0 (g_shr64 rfl rfl rfl (by first | decide | (simp [IntL.toI]; done) | (simp [IntL.toI]; omega)) rfl) ?_; refine X0 (oLs rfl rfl rfl ty_26) ?_; refine X0 mV ?_; refine X0 mV ?_; refine X0 o_add ?_; refine X0 o_add ?_
    refine X0 (oCl (atW_ok _ _) rfl fn_133 ⟨(arg_v rfl), (arg_v rfl), trivial⟩) ?_; refine X0 (g_shl64 rfl rfl rfl (by first | decide | (simp [IntL.toI]; done) | (simp [IntL.toI]; omega)) rfl) ?_; refine X0 mV ?_; refine X0 o_sub ?_
    refine X0 (g_shl64 rfl rfl rfl (by first | decide | (simp [IntL.toI]; done) | (simp [IntL.toI]; omega)) rfl) ?_; refine X0 (g_or64 rfl rfl rfl) ?_; refine X0 (g_ia_b0 (i := k) rfl rfl rfl (by first | omega | rfl) ar_26 (by omega)) ?_
    refine XK.e (x := .idk) (fun fr' hfr kk H => by exact aw_store_b rfl rfl rfl ((hfr 41 (by decide +kernel)).trans rfl) rfl (Lens.elem (i := k) (by omega) u64T) ty_24 ((hfr 40 (by decide +kernel)).trans rfl) (aw_nil H)) ?_; refine XK.nil' ?_
    refine CI ?_; refine CR ?_; refine A0 o_add ?_; refine A0 mV ?_; refine CN ?_; refine aw_reheap (n := 2) (y := setN (downF a n) zWide (k + 1)) rfl setN_succ ?_
    exact Nx (k + 1) (by omega) (by omega)
   ·
    obtain rfl : k = 4 := (by omega)
    refine CE ?_; refine CQR ?_; refine A0 (oLs rfl rfl rfl ty_26) ?_; refine aw_store_b rfl rfl rfl rfl rfl (Lens.self _) ty_26 rfl ?_; refine CN ?_
    exact aw_retc1 rfl rfl rfl rfl ty_26 (by unfold downW; rw [if_neg ht10, if_neg ht13]; exact setN_all rfl)
theorem bytesW_ok (a : Wide) : Tells P 127 [.val wideT a] (.val idT (bytesW a)) := by
 refine fn_of_aw Tryz.func127 rfl rfl rfl (fun ext w hext => ?_)
 refine aw_fact (d := 0) rfl fact_wide (fun ha => ?_)
 refine CQR ?_; refine aw_box rfl rfl rfl rfl rfl ?_; refine aw_alloc ze_23 rfl rfl rfl rfl ?_; refine CNQR ?_; refine aw_alloc ze_23 rfl rfl rfl rfl ?_; refine CNQQR ?_; refine A0 mV ?_; refine CNB ?_
 refine Lp (ι := Nat) 3 (fun (k : Nat) => ((((Fr.none).set 1 (.ptr 0 0)).set 2 (.ptr 1 0)).set 3 (.ptr 2 0)).set 5 (.val i64T (k : Int))) (fun (k : Nat) => (((Hp.none).set 0 (.box 26 wideT a)).set 1 (.box 23 idT zId)).set 2 (.box 23 idT (setN (byteF a) zId k))) (fun (k : Nat) => k ≤ 32) (fun (k : Nat) => 32 - k) (0) (Nat.zero_le _) ?_
 intro k hinv
 refine CQR ?_; refine A0 o_lss ?_; refine CNQ ?_
 refine Cf (p := k < 32) (fun ht6 => ?_) (fun ht6 => ?_)
 ·
  refine CSQBQR ?_; refine A0 mV ?_; refine A0 aV ?_; refine CNR ?_; refine A0 mV ?_; refine A0 mV ?_; refine A0 (g_quo rfl rfl rfl (by first | omega | assumption) (by first | decide | omega) rfl) ?_; refine A0 o_sub ?_
  refine A0 (g_ia_b0 (i := 3 - k / 8) rfl rfl rfl (by first | omega | rfl) ar_26 (by omega)) ?_; refine A0 (g_load_b rfl rfl rfl (Lens.elem (i := 3 - k / 8) (by omega) u64T) ty_24) ?_; refine A0 mV ?_
  refine A0 (g_rem rfl rfl rfl (by first | omega | assumption) (by first | decide | omega) rfl) ?_; refine A0 o_mul ?_; refine A0 o_sub ?_
  refine A0 (g_shr64 rfl rfl rfl (by first | decide | (simp [IntL.toI]; done) | (simp [IntL.toI]; omega)) rfl) ?_; refine A0 (g_cv8 rfl (ui_5) (us_24) rfl) ?_
  refine A0 (g_ia_b0 (i := k) rfl rfl rfl (by first | omega | rfl) ar_23 (by omega)) ?_; refine aw_store_b rfl rfl rfl rfl rfl (Lens.elem (i := k) (by omega) u8T) ty_5 rfl ?_; refine CNIR ?_; refine A0 o_add ?_; refine A0 mV ?_; refine CN ?_
  refine aw_reheap (n := 2) (y := setN (byteF a) zId (k + 1)) rfl setN_succ ?_
  exact Nx (k + 1) (by omega) (by omega)
 ·
  obtain rfl : k = 32 := (by omega)
  refine CE ?_; refine CQR ?_; refine A0 (oLs rfl rfl rfl ty_23) ?_; refine aw_store_b rfl rfl rfl rfl rfl (Lens.self _) ty_23 rfl ?_; refine CN ?_
  exact aw_retc1 rfl rfl rfl rfl ty_23 (setN_all rfl)
theorem of32W_ok (b : Ab.Id) : Tells P 163 [.val idT b] (.val wideT (of32W b)) := by
 refine fn_of_aw Tryz.func163 rfl rfl rfl (fun ext w hext => ?_)
 refine aw_fact (d := 0) rfl fact_idL (fun hb => ?_)
 refine CQR ?_; refine aw_box rfl rfl rfl rfl rfl ?_; refine aw_alloc ze_26 rfl rfl rfl rfl ?_; refine CNQR ?_; refine aw_alloc ze_26 rfl rfl rfl rfl ?_; refine CNQQR ?_; refine A0 (oLs rfl rfl rfl ty_23) ?_; refine A0 mV ?_; refine CNB ?_
 refine Lp (ι := Nat) 3 (fun (k : Nat) => ((((Fr.none).set 2 (.ptr 1 0)).set 3 (.ptr 2 0)).set 7 (.val idT b)).set 8 (.val i64T (k : Int))) (fun (k : Nat) => ((Hp.none).set 1 (.box 26 wideT zWide)).set 2 (.box 26 wideT (of32N b k))) (fun (k : Nat) => k ≤ 32) (fun (k : Nat) => 32 - k) (0) (Nat.zero_le _) ?_
 intro k hinv
 refine CQR ?_; refine A0 o_lss ?_; refine CNQ ?_
 refine Cf (p := k < 32) (fun ht9 => ?_) (fun ht9 => ?_)
 ·
  obtain ⟨x, hx⟩ : ∃ x, b[k]? = some x := ⟨_, List.getElem?_eq_getElem (by omega)⟩
  refine CSQBQR ?_; refine A0 mV ?_; refine A0 (g_index rfl rfl rfl rfl ar_23 ty_5 (by assumption)) ?_; refine A0 aV ?_; refine A0 aV ?_; refine CNQR ?_; refine A0 mV ?_
  refine A0 (g_quo rfl rfl rfl (by first | omega | assumption) (by first | decide | omega) rfl) ?_; refine A0 o_sub ?_; refine A0 aV ?_; refine CNR ?_; refine A0 mV ?_; refine A0 mV ?_
  refine A0 (g_ia_b0 (i := 3 - k / 8) rfl rfl rfl (by first | omega | rfl) ar_26 (by omega)) ?_; refine A0 (g_load_b rfl rfl rfl (Lens.elem (i := 3 - k / 8) (by omega) u64T) ty_24) ?_
  refine A0 (g_shl64 rfl rfl rfl (by first | decide | (simp [IntL.toI]; done) | (simp [IntL.toI]; omega)) rfl) ?_; refine A0 mV ?_; refine A0 (g_cv64 rfl (ui_24) (us_5) rfl) ?_; refine A0 (g_or64 rfl rfl rfl) ?_
  refine A0 (g_ia_b0 (i := 3 - k / 8) rfl rfl rfl (by first | omega | rfl) ar_26 (by omega)) ?_; refine aw_store_b rfl rfl rfl rfl rfl (Lens.elem (i := 3 - k / 8) (by omega) u64T) ty_24 rfl ?_; refine CNIR ?_; refine A0 o_add ?_
  refine A0 mV ?_; refine CN ?_; refine aw_reheap (n := 2) (y := of32N b (k + 1)) rfl (by unfold of32N; rw [fold_succ]; unfold of32S; rw [List.getD_eq_getElem?_getD (l := b), hx]; rfl) ?_
  exact Nx (k + 1) (by omega) (by omega)
 ·
  obtain rfl : k = 32 := (by omega)
  refine CE ?_; refine CQR ?_; refine A0 (oLs rfl rfl rfl ty_26) ?_; refine aw_store_b rfl rfl rfl rfl rfl (Lens.self _) ty_26 rfl ?_; refine CN ?_
  exact aw_retc1 rfl rfl rfl rfl ty_26 (rfl)
theorem cmpW_ok (a b : Wide) : Tells P 165 [.val wideT a, .val wideT b] (.val i64T (cmpW a b)) := by
 refine fn_of_aw Tryz.func165 rfl rfl rfl (fun ext w hext => ?_)
 refine CQR ?_; refine aw_box rfl rfl rfl rfl rfl ?_; refine aw_box rfl rfl rfl rfl rfl ?_; refine A0 aV ?_; refine CNQ ?_; refine CD mixed ?_; refine G0 (g_ia_b0 (i := 3) rfl rfl rfl (by first | omega | rfl) ar_26 (by omega)) ?_
 refine G0 (g_load_b rfl rfl rfl (Lens.elem (i := 3) (by omega) u64T) ty_24) ?_; refine G0 (g_ia_b0 (i := 3) rfl rfl rfl (by first | omega | rfl) ar_26 (by omega)) ?_
 refine G0 (g_load_b rfl rfl rfl (Lens.elem (i := 3) (by omega) u64T) ty_24) ?_; refine G0 (oCl (cmpU_ok _ _) rfl fn_201 ⟨(arg_v rfl), (arg_v rfl), trivial⟩) ?_
 refine G0 (g_ia_b0 (i := 2) rfl rfl rfl (by first | omega | rfl) ar_26 (by omega)) ?_; refine G0 (g_load_b rfl rfl rfl (Lens.elem (i := 2) (by omega) u64T) ty_24) ?_
 refine G0 (g_ia_b0 (i := 2) rfl rfl rfl (by first | omega | rfl) ar_26 (by omega)) ?_; refine G0 (g_load_b rfl rfl rfl (Lens.elem (i := 2) (by omega) u64T) ty_24) ?_
 refine G0 (oCl (cmpU_ok _ _) rfl fn_201 ⟨(arg_v rfl), (arg_v rfl), trivial⟩) ?_; refine G0 (g_ia_b0 (i := 1) rfl rfl rfl (by first | omega | rfl) ar_26 (by omega)) ?_
 refine G0 (g_load_b rfl rfl rfl (Lens.elem (i := 1) (by omega) u64T) ty_24) ?_; refine G0 (g_ia_b0 (i := 1) rfl rfl rfl (by first | omega | rfl) ar_26 (by omega)) ?_
 refine G0 (g_load_b rfl rfl rfl (Lens.elem (i := 1) (by omega) u64T) ty_24) ?_; refine G0 (oCl (cmpU_ok _ _) rfl fn_201 ⟨(arg_v rfl), (arg_v rfl), trivial⟩) ?_
 refine G0 (g_ia_b0 (i := 0) rfl rfl rfl (by first | omega | rfl) ar_26 (by omega)) ?_; refine G0 (g_load_b rfl rfl rfl (Lens.elem (i := 0) (by omega) u64T) ty_24) ?_
 refine G0 (g_ia_b0 (i := 0) rfl rfl rfl (by first | omega | rfl) ar_26 (by omega)) ?_; refine G0 (g_load_b rfl rfl rfl (Lens.elem (i := 0) (by omega) u64T) ty_24) ?_
 refine G0 (oCl (cmpU_ok _ _) rfl fn_201 ⟨(arg_v rfl), (arg_v rfl), trivial⟩) ?_; refine G0 (g_bslice (T := i64T) (xs := [_, _, _, _]) rfl sl_221 row_221 ⟨rfl, rfl, rfl, rfl, rfl, rfl, rfl, rfl, trivial⟩ rfl rfl) ?_
 refine G0 (oCl (orInt _) rfl fn_171 ⟨(arg_v rfl), trivial⟩) ?_; refine G0 aV ?_; refine GK.nil ?_
 exact aw_ret1 rfl rfl (ret_eq rfl rfl)
def ofW (n : UInt64) : Wide := [n, 0, 0, 0]
def tgtM (bits : UInt32) : UInt64 := u64OfI (IntL.toI u32T (bits &&& 16777215))
def tgtE (bits : UInt32) : Int := IntL.toI u32T (shr32 bits 24)
def tgtOk (bits : UInt32) : Bool := decide (3 ≤ tgtE bits ∧ tgtE bits ≤ 32 ∧ 32768 ≤ (tgtM bits).toNat ∧ (tgtM bits).toNat < 8388608)
def tgtW (bits : UInt32) : Wide := if tgtOk bits = true then upW (ofW (tgtM bits)) (8 * (tgtE bits - 3)) else zWide
theorem ofW_ok (n : UInt64) : Tells P 32 [.val u64T n] (.val wideT (ofW n)) := by
 refine fn_of_aw Tryz.func32 rfl rfl rfl (fun ext w hext => ?_)
 refine CQR ?_; refine aw_alloc ze_26 rfl rfl rfl rfl ?_; refine CNQR ?_; refine A0 mV ?_; refine A0 (g_buildP (T := u64T) (xs := [_]) rfl ar_26 ze_26 ⟨rfl, rfl, trivial⟩ rfl rfl) ?_
 refine aw_store_b rfl rfl rfl rfl rfl (Lens.self _) ty_26 rfl ?_; refine CN ?_
 exact aw_retc1 rfl rfl rfl rfl ty_26 (rfl)
theorem target_ok (bits : UInt32) : Tells P 33 [.val u32T bits] (.tup2 (.val wideT (tgtW bits)) (.val boolT (tgtOk bits))) := by
 have he0 : 0 ≤ tgtE bits := Int.natCast_nonneg _
 have heL : tgtE bits < 4294967296 := by have : (shr32 bits 24).toNat < 4294967296 := (shr32 bits 24).toNat_lt; show ((shr32 bits 24).toNat : Int) < 4294967296; omega
 refine fn_of_aw Tryz.func33 rfl rfl rfl (fun ext w hext => ?_)
 refine CQR ?_; refine aw_alloc ze_26 rfl rfl rfl rfl ?_; refine A0 aV ?_; refine CNQR ?_; refine A0 mV ?_; refine A0 (g_shr32 rfl rfl rfl (by first | decide | (simp [IntL.toI]; done) | (simp [IntL.toI]; omega)) rfl) ?_
 refine A0 (g_cvi rfl (ui_3) (us_27) rfl (wrap_eq (by show -9223372036854775808 ≤ tgtE bits ∧ tgtE bits ≤ 9223372036854775807; omega))) ?_; refine aw_reval (d := 8) (y := tgtE bits) rfl rfl ?_; refine A0 mV ?_
 refine A0 (g_and32 rfl rfl rfl) ?_; refine A0 (g_cv64 rfl (ui_24) (us_27) rfl) ?_; refine aw_reval (d := 11) (y := tgtM bits) rfl rfl ?_; refine A0 aV ?_; refine A0 aV ?_; refine CNQQR ?_; refine A0 mV ?_; refine A0 o_lss ?_
 refine Sp (d := 13) (p := tgtE bits < 3) (fun g13 => ?_) (fun g13 => ?_)
 ·
  refine A0 mV ?_; refine A2 ?_; refine A2 ?_; refine A0 oK ?_; refine A0 mV ?_; refine A2 ?_; refine A2 ?_; refine A0 oK ?_; refine A0 mV ?_; refine A2 ?_; refine A2 ?_; refine A0 oK ?_; refine CN ?_; refine Ct ?_; refine CQR ?_
  refine A0 (g_buildZ rfl ar_26 ze_26 rfl) ?_; refine aw_store_b rfl rfl rfl rfl rfl (Lens.self _) ty_26 rfl ?_; refine A0 aV ?_; refine CN ?_
  exact aw_retr2 rfl rfl (rv_cell rfl rfl ty_26 (by unfold tgtW; rw [if_neg (by unfold tgtOk; rw [decide_eq_true_eq]; omega)])) (rv_tmp (ret_eq rfl (by unfold tgtOk; symm; apply decide_eq_false; omega)))
 ·
  refine A0 mV ?_; refine A1 mV ?_; refine A1 o_gtr ?_
  refine Sp (d := 16) (p := 32 < tgtE bits) (fun g16 => ?_) (fun g16 => ?_)
  ·
   refine A0 oK ?_; refine A0 mV ?_; refine A2 ?_; refine A2 ?_; refine A0 oK ?_; refine A0 mV ?_; refine A2 ?_; refine A2 ?_; refine A0 oK ?_; refine CN ?_; refine Ct ?_; refine CQR ?_; refine A0 (g_buildZ rfl ar_26 ze_26 rfl) ?_
   refine aw_store_b rfl rfl rfl rfl rfl (Lens.self _) ty_26 rfl ?_; refine A0 aV ?_; refine CN ?_
   exact aw_retr2 rfl rfl (rv_cell rfl rfl ty_26 (by unfold tgtW; rw [if_neg (by unfold tgtOk; rw [decide_eq_true_eq]; omega)])) (rv_tmp (ret_eq rfl (by unfold tgtOk; symm; apply decide_eq_false; omega)))
  ·
   refine A0 oK ?_; refine A0 mV ?_; refine A1 mV ?_; refine A1 o_lss ?_
   refine aw_splitp (d := 20) (p := (tgtM bits).toNat < 32768) rfl (by rw [decide_eq_decide]; show ((tgtM bits).toNat : Int) < (32768 : Int) ↔ _; omega) (fun g20 => ?_) (fun g20 => ?_)
   ·
    refine A0 oK ?_; refine A0 mV ?_; refine A2 ?_; refine A2 ?_; refine A0 oK ?_; refine CN ?_; refine Ct ?_; refine CQR ?_; refine A0 (g_buildZ rfl ar_26 ze_26 rfl) ?_; refine aw_store_b rfl rfl rfl rfl rfl (Lens.self _) ty_26 rfl ?_
    refine A0 aV ?_; refine CN ?_
    exact aw_retr2 rfl rfl (rv_cell rfl rfl ty_26 (by unfold tgtW; rw [if_neg (by unfold tgtOk; rw [decide_eq_true_eq]; omega)])) (rv_tmp (ret_eq rfl (by unfold tgtOk; symm; apply decide_eq_false; omega)))
   ·
    refine A0 oK ?_; refine A0 mV ?_; refine A1 mV ?_; refine A1 o_geq ?_
    refine aw_splitp (d := 24) (p := 8388608 ≤ (tgtM bits).toNat) rfl (by rw [decide_eq_decide]; show (8388608 : Int) ≤ ((tgtM bits).toNat : Int) ↔ _; omega) (fun g24 => ?_) (fun g24 => ?_)
    ·
     refine A0 oK ?_; refine CN ?_; refine Ct ?_; refine CQR ?_; refine A0 (g_buildZ rfl ar_26 ze_26 rfl) ?_; refine aw_store_b rfl rfl rfl rfl rfl (Lens.self _) ty_26 rfl ?_; refine A0 aV ?_; refine CN ?_
     exact aw_retr2 rfl rfl (rv_cell rfl rfl ty_26 (by unfold tgtW; rw [if_neg (by unfold tgtOk; rw [decide_eq_true_eq]; omega)])) (rv_tmp (ret_eq rfl (by unfold tgtOk; symm; apply decide_eq_false; omega)))
    ·
     refine A0 oK ?_; refine CN ?_; refine Cg ?_; refine CSQR ?_; refine A0 mV ?_; refine A0 (oCl (ofW_ok _) rfl fn_32 ⟨(arg_v rfl), trivial⟩) ?_; refine A0 mV ?_; refine A0 o_sub ?_; refine A0 o_mul ?_
     refine A0 (oCl (upW_ok _ _) rfl fn_82 ⟨(arg_v rfl), (arg_v rfl), trivial⟩) ?_; refine aw_store_b rfl rfl rfl rfl rfl (Lens.self _) ty_26 rfl ?_; refine A0 aV ?_; refine CN ?_
     exact aw_retr2 rfl rfl (rv_cell rfl rfl ty_26 (by unfold tgtW; rw [if_pos (by unfold tgtOk; rw [decide_eq_true_eq]; omega)])) (rv_tmp (ret_eq rfl (by unfold tgtOk; symm; apply decide_eq_true; omega)))
end Go.Proofs.YtgoiacajjicjcaaGreat
set_option maxRecDepth 20000
namespace Go.Proofs.YtgoiacajjicjcaaGreat
set_option linter.unusedVariables false
set_option linter.unusedSimpArgs false
open Go.Ab Go.RowKit
def searchN (f : Int → Bool) (lo hi : Nat) : Nat :=
  if h : lo < hi then (if f (((lo + hi) / 2 : Nat) : Int) = true then searchN f lo ((lo + hi) / 2) else searchN f ((lo + hi) / 2 + 1) hi) else lo
termination_by hi - lo
theorem search_no {f : Int → Bool} {lo hi : Nat} (h : lo < hi) (hf : ¬ f (((lo + hi) / 2 : Nat) : Int) = true) : searchN f lo hi = searchN f ((lo + hi) / 2 + 1) hi := by
  rw [searchN, dif_pos h, if_neg hf]
theorem search_yes {f : Int → Bool} {lo hi : Nat} (h : lo < hi) (hf : f (((lo + hi) / 2 : Nat) : Int) = true) : searchN f lo hi = searchN f lo ((lo + hi) / 2) := by
  conv => lhs; rw [searchN, dif_pos h, if_pos hf]
theorem search_end {f : Int → Bool} {lo : Nat} : searchN f lo lo = lo := by rw [searchN, dif_neg (Nat.lt_irrefl _)]
def levelF (n t : Wide) (k : Int) : Bool := decide (0 < cmpW n (downW t k))
def levelW (id : Ab.Id) (t : Wide) : Int := (searchN (levelF (of32W id) t) 0 32 : Nat) - 1
theorem search_le {f : Int → Bool} (lo hi : Nat) (h : lo ≤ hi) : searchN f lo hi ≤ hi := by
  rw [searchN]
  split
  · split
    · have := search_le (f := f) lo ((lo + hi) / 2) (by omega); omega
    · exact search_le _ _ (by omega)
  · exact h
termination_by hi - lo
theorem search_ok (n : Nat) (f : Int → Bool) (hn : n < 4611686018427387904) : Tells P 167 [.val i64T (n : Int), .fn1 P i64T boolT f] (.val i64T (searchN f 0 n : Nat)) := by
 refine fn_of_aw Tryz.func167 rfl rfl rfl (fun ext w hext => ?_)
 refine aw_fact (d := 0) rfl fact_int (fun hin0 => ?_)
 refine CQR ?_; refine A0 aV ?_; refine CNQR ?_; refine A0 mV ?_; refine A0 aV ?_; refine A0 aV ?_; refine CNQ ?_; refine CB ?_
 refine Lp (ι := Nat × Nat) 0 (fun (i : Nat × Nat) => match i with | (lo, hi) => (((Fr.none).set 1 (.fn1 P i64T boolT f)).set 5 (.val i64T (lo : Int))).set 6 (.val i64T (hi : Int))) (fun (i : Nat × Nat) => match i with | (lo, hi) => Hp.none) (fun (i : Nat × Nat) => match i with | (lo, hi) => lo ≤ hi ∧ hi ≤ n ∧ searchN f 0 n = searchN f lo hi) (fun (i : Nat × Nat) => match i with | (lo, hi) => hi - lo) ((0, n)) (⟨Nat.zero_le _, Nat.le_refl _, rfl⟩) ?_
 intro ⟨lo, hi⟩ hinv
 dsimp only at hinv
 refine CQQR ?_; refine A0 mV ?_; refine A0 mV ?_; refine A0 o_lss ?_; refine CN ?_
 refine Cf (p := lo < hi) (fun ht11 => ?_) (fun ht11 => ?_)
 ·
  refine CS ?_; refine CB ?_; refine CQR ?_; refine A0 mV ?_; refine A0 mV ?_; refine A0 o_add ?_; refine A0 (g_cv64 rfl (ui_125) (us_3) rfl) ?_
  refine A0 (g_shr64 rfl rfl rfl (by first | decide | (simp [IntL.toI]; done) | (simp [IntL.toI]; omega)) rfl) ?_; refine A0 (g_cvi rfl (ui_3) (us_125) rfl (mid_eq (by omega))) ?_; refine A0 aV ?_; refine CNQR ?_; refine A0 mF ?_
  refine A0 mV ?_; refine A0 (g_callf1 rfl rfl (arg_v rfl)) ?_; refine A0 oN ?_; refine CN ?_
  refine aw_ifc (p := ¬ f (((lo + hi) / 2 : Nat) : Int) = true) rfl (by simp) (fun ht21 => ?_) (fun ht21 => ?_)
  ·
   refine CR ?_; refine A0 mV ?_; refine A0 o_add ?_; refine A0 aV ?_; refine CN ?_; refine CI ?_
   exact Nx (((lo + hi) / 2 + 1, hi)) (by first | exact ⟨by omega, by omega, hinv.2.2.trans (search_no ht11 ht21)⟩ | exact ⟨by omega, by omega, hinv.2.2.trans (search_yes ht11 (Classical.not_not.1 ht21))⟩) (by show _ < hi - lo; simp only []; omega)
  ·
   refine CR ?_; refine A0 mV ?_; refine A0 aV ?_; refine CN ?_; refine CI ?_
   exact Nx ((lo, (lo + hi) / 2)) (by first | exact ⟨by omega, by omega, hinv.2.2.trans (search_no ht11 ht21)⟩ | exact ⟨by omega, by omega, hinv.2.2.trans (search_yes ht11 (Classical.not_not.1 ht21))⟩) (by show _ < hi - lo; simp only []; omega)
 ·
  obtain rfl : hi = lo := (by omega)
  refine CE ?_; refine CQR ?_; refine A0 mV ?_; refine A0 aV ?_; refine CN ?_
  exact aw_ret1 rfl rfl (ret_eq rfl (by rw [hinv.2.2, search_end]))
theorem level1_ok (n t : Wide) (k : Int) : Tells P 164 [.val i64T k, .rptr wideT n, .rptr wideT t] (.val boolT (levelF n t k)) := by
 refine fn_of_aw Tryz.func164 rfl rfl rfl (fun ext w hext => ?_)
 refine aw_fact (d := 0) rfl fact_int (fun hin0 => ?_)
 refine CQR ?_; refine A0 aV ?_; refine CNQ ?_; refine CD mixed ?_; refine G0 (g_load_r rfl rfl ty_26) ?_; refine G0 (g_load_r rfl rfl ty_26) ?_; refine G0 mV ?_; refine G0 (oCl (downW_ok _ _) rfl fn_166 ⟨(arg_v rfl), (arg_v rfl), trivial⟩) ?_
 refine G0 (oCl (cmpW_ok _ _) rfl fn_165 ⟨(arg_v rfl), (arg_v rfl), trivial⟩) ?_; refine G0 o_gtr ?_; refine G0 aV ?_; refine GK.nil ?_
 exact aw_ret1 rfl rfl (ret_eq rfl rfl)
theorem levelW_ok (id : Ab.Id) (t : Wide) : Tells P 126 [.val idT id, .val wideT t] (.val i64T (levelW id t)) := by
 refine fn_of_aw Tryz.func126 rfl rfl rfl (fun ext w hext => ?_)
 have hsl := search_le (f := levelF (of32W id) t) 0 32 (by decide)
 refine CQR ?_; refine aw_box rfl rfl rfl rfl rfl ?_; refine aw_box rfl rfl rfl rfl rfl ?_; refine A0 aV ?_; refine CNQR ?_; refine A0 (oLs rfl rfl rfl ty_23) ?_; refine A0 (oCl (of32W_ok _) rfl fn_163 ⟨(arg_v rfl), trivial⟩) ?_
 refine aw_alloc ze_26 rfl rfl rfl rfl ?_; refine aw_store_b rfl rfl rfl rfl rfl (Lens.self _) ty_26 rfl ?_; refine CNQR ?_; refine A0 (g_mkf (caps := [_, _]) rfl rfl) ?_; refine A0 aC ?_; refine CNQR ?_; refine A0 mC ?_
 refine A0 (oCl (search_ok 32 (levelF (of32W id) t) (by decide)) rfl fn_167 ⟨(arg_v rfl), (by first | exact arg_fn1 (Cs := [_, _]) rfl fn_164 (by intro n hn; simp only [List.mem_cons, List.not_mem_nil, or_false] at hn; rcases hn with rfl | rfl <;> exact ⟨_, _, _, _, rfl⟩) ⟨(by exact arg_cap rfl), (by exact arg_cap rfl), trivial⟩ rfl (fun x => level1_ok (of32W id) t x) | exact arg_fn2 (Cs := [_, _]) rfl fn_164 (by intro n hn; simp only [List.mem_cons, List.not_mem_nil, or_false] at hn; rcases hn with rfl | rfl <;> exact ⟨_, _, _, _, rfl⟩) ⟨(by exact arg_cap rfl), (by exact arg_cap rfl), trivial⟩ rfl (fun x y => level1_ok (of32W id) t x) | exact arg_clo rfl), trivial⟩) ?_
 refine A0 o_sub ?_; refine A0 aV ?_; refine CN ?_
 exact aw_ret1 rfl rfl (ret_eq rfl rfl)
end Go.Proofs.YtgoiacajjicjcaaGreat
