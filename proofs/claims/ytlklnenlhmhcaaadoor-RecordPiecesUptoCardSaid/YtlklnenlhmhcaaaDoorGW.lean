/- What the walks read of the package variables (internal/bytealg.MaxLen holds some int), and how it stays; conditions: none. -/
import Derived.Test.YtlklnenlhmhcaaaDoorShelf
import Derived.Test.YtlklnenlhmhcaaaDoorWLast
import Derived.Test.YtlklnenlhmhcaaaDoorWMore
namespace Go.Proofs.YtlklnenlhmhcaaaDoor
open Go.RowKit Go.Shelf Go.Proofs.YtlklnenlhmhcaaaDoorW.PrintWords Go.Proofs.YtlklnenlhmhcaaaDoorW.PrintLast

/-- internal/bytealg.MaxLen holds some int. -/
def GW (w : World) : Prop := ∃ m : Int, w.cell? ⟨0, 0, none⟩ = some (.int .i64 m)
theorem GW.below {w w' : World} (h : GW w) (hb : Below w.heap.size w w') : GW w' := by
  obtain ⟨m, hm⟩ := h
  exact ⟨m, (hb.cell (World.block_lt_of_cell? w _ hm)).trans hm⟩
theorem GW.drew {w : World} (h : GW w) : GW w.drew := h.below (Below.refl _ w).drew
theorem GW.drewN {w : World} (h : GW w) (n : Nat) : GW (w.drewN n) := h.below (pw_below_drewN (Below.refl _ w) n)
theorem GW.alloc {w : World} (h : GW w) (o : Obj) : GW (w.alloc o) := h.below ((Below.refl _ w).alloc (Nat.le_refl _) o)
end Go.Proofs.YtlklnenlhmhcaaaDoor
