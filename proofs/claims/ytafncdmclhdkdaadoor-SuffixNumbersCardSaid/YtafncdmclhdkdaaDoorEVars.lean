import Derived.Test.YtafncdmclhdkdaaDoorRows
import Derived.Test.YtafncdmclhdkdaaDoorWMore
import Derived.Lib.LaidTab
import Derived.Lib.SmallJoins
import Derived.Shelf.Strconv.Itoa4
/-! What the package-level variables hold, as far as the functions read them. -/
namespace Go.Proofs.YtafncdmclhdkdaaDoor.PAll
open Go.RowKit
/-- The table's name, as the row lists it. -/
def tabName : String := (Rows.suffixNumbersRow.laid.map (·.1)).getD 2 default
theorem tab_named : Tryd.prog.globalNamed tabName = some 3 := by kernel_rfl
/-- The table of powers; and the two errors, whatever they be. -/
structure Vars (w : World) : Prop where
  tab : Lib.TabIs Tryd.prog w tabName .u64 Lib.pow10Tab
  syn : ∃ t p, w.cell? ⟨1, 0, none⟩ = some (.iface t p)
  ran : ∃ t p, w.cell? ⟨2, 0, none⟩ = some (.iface t p)
theorem Vars_below {w W : World} (h : Vars w) (hb : Below w.heap.size w W) : Vars W :=
  ⟨Go.Joins.tab_stays tab_named h.tab hb (Nat.le_refl _), let ⟨t, p, e⟩ := h.syn; ⟨t, p, (hb.cell (World.block_lt_of_cell? w _ e)).trans e⟩, let ⟨t, p, e⟩ := h.ran; ⟨t, p, (hb.cell (World.block_lt_of_cell? w _ e)).trans e⟩⟩
end Go.Proofs.YtafncdmclhdkdaaDoor.PAll
