/- What the package variables hold that the walks read (two tables), and how it stays; a function without a body as a step of a walk; conditions: none. -/
import Derived.Test.YtgbjojokjekmhaaGreatDoorShelf
import Derived.Laws.CopyOwn
import Derived.Lib.ItoaLen
import Derived.Test.YtgbjojokjekmhaaGreatDoorWLast
import Derived.Test.YtgbjojokjekmhaaGreatDoorWMore
namespace Go.Proofs.YtgbjojokjekmhaaGreatDoor
open Go.RowKit Go.Shelf Go.Proofs.YtgbjojokjekmhaaGreatDoorW.PrintWords Go.Proofs.YtgbjojokjekmhaaGreatDoorW.PrintLast

/-- The tables that the walks read hold what their initialisers lay. (A structure: it is not to be unfolded.) -/
structure GW (w : World) : Prop where
  pow10 : Lib.TabIs Tryz.prog w "internal/strconv.uint64pow10" .u64 Lib.pow10Tab
  deBruijn : TabAt 0 Lib.deBruijn64tab w

theorem below_growN (w : World) (k : Nat) (os : Array Obj) : Below w.heap.size w (Go.Sort.grow (w.drewN k) os) :=
  have hb := pw_below_drewN (Below.refl w.heap.size w) k
  ⟨hb.os, hb.tape, hb.output, by unfold Go.Sort.grow; simp, fun b h => by unfold Go.Sort.grow; simp [Array.getElem?_append, h]⟩
theorem append_nothing (t : ByteArray) : t ++ (⟨#[]⟩ : ByteArray) = t := by
  apply ByteArray.ext; simp
theorem size_lit (a : Array UInt8) : (ByteArray.mk a).size = a.size := rfl
theorem named_pow10 : Tryz.prog.globalNamed "internal/strconv.uint64pow10" = some 7 := by kernel_rfl

theorem GW.below {w w' : World} (h : GW w) (hb : Below w.heap.size w w') : GW w' := by
  obtain ⟨h1, h2⟩ := h; refine ⟨?_, fun j hj => (hb.cell (World.block_lt_of_cell? w _ (h2 j hj))).trans (h2 j hj)⟩; unfold Lib.TabIs World.var? at h1 ⊢; rw [named_pow10] at h1 ⊢; simp only [Option.bind_some] at h1 ⊢; have hlt : 7 < w.heap.size := by
    rcases Nat.lt_or_ge 7 w.heap.size with h' | h'
    · exact h'
    rw [Array.getElem?_eq_none h'] at h1; cases h1
  rw [hb.block 7 hlt]; exact h1
theorem GW.drew {w : World} (h : GW w) : GW w.drew := h.below (Below.refl _ w).drew
theorem GW.drewN {w : World} (h : GW w) (n : Nat) : GW (w.drewN n) := h.below (pw_below_drewN (Below.refl _ w) n)
theorem GW.alloc {w : World} (h : GW w) (o : Obj) : GW (w.alloc o) := h.below ((Below.refl _ w).alloc (Nat.le_refl _) o)

/-! ### a function without a body: the model's entry, as a step -/
section
variable {P : Program} {ops : Array Oper} {Q : Exit → Act → World → Prop}
/-- The call of f ends at once, with a value, the world as it was. -/
def ExtRun (P : Program) (f : FuncId) (args : Array Value) (w : World) (R : Ending → World → Prop) : Prop :=
  ∃ v, (callFunc f args).run P w = .ok (.value v) w ∧ R (.returned v) w
theorem ExtRun.mono {f : FuncId} {args : Array Value} {w : World} {R R' : Ending → World → Prop} (h : ExtRun P f args w R) (hr : ∀ e w', R e w' → R' e w') : ExtRun P f args w R' :=
  let ⟨v, h1, h2⟩ := h; ⟨v, h1, hr _ _ h2⟩
theorem goesX_ {oi : Oper} {N : Option Tmp} {a : Act} {w : World} {K : Act → World → Prop} {f : FuncId} {aos : Array Operand} {ts : Array TypeId} (args : Array Value)
    (hw : Region.wanted oi (yielded ops a.tmps) = true) (hN : oi.dst = N) (hop : oi.op = .call { callee := .value (.func f), args := aos, argTypes := ts }) (hargs : aos.map a.eval = args)
    (h : ExtRun P f args w fun e w' => ∃ v, e = .returned v ∧ K (a.put N v) w') : if Region.wanted oi (yielded ops a.tmps) = true then Oper.wp P oi a w K Q else K (a.put N undef) w := by
  obtain ⟨v, hrun, v', e, hk⟩ := h; cases e
  rw [if_pos hw]; unfold Oper.wp execOp; simp [hop, resolve, Deferred.ofValue, invoke, Act.eval, hargs, hrun, Oper.upon]; subst hN; exact hk
theorem goesU_ {oi : Oper} {a : Act} {w : World} {K : Act → World → Prop} {f : FuncId} {args' : Array Value} {v0 : Value} (args : Array Value) (hargs : args' = args)
    (h : ExtRun P f args w fun e w' => e = .returned v0 ∧ Drawn0 w w') (hk : oi.upon P a K Q (.ok (.value v0) w)) : oi.upon P a K Q ((callFunc f args').run P w) := by
  obtain ⟨v, hrun, e, _⟩ := h; cases e
  rw [hargs, hrun]; exact hk
theorem goesLX_ {rest : List Oper} {oi : Oper} {a : Act} {w : World} (N : Option Tmp) (hd : oi.dst = N) (hg : oi.guard = none) {f : FuncId} {aos : Array Operand} {ts : Array TypeId} (args : Array Value)
    (hop : oi.op = .call { callee := .value (.func f), args := aos, argTypes := ts }) (hargs : aos.map a.eval = args)
    (h : ExtRun P f args w fun e w' => ∃ v, e = .returned v ∧ wpList P ops Q rest (a.put N v) w') : wpList P ops Q (oi :: rest) a w := by
  obtain ⟨v, hrun, v', e, hk⟩ := h; cases e
  refine wpList_plain hg fun K hK => ?_
  unfold Oper.wp execOp; simp [hop, resolve, Deferred.ofValue, invoke, Act.eval, hargs, hrun, Oper.upon]; subst hd; exact hK _ _ hk
end
end Go.Proofs.YtgbjojokjekmhaaGreatDoor
