import Derived.Test.YtafncdmclhdkdaaDoorRows
import Derived.Test.YtafncdmclhdkdaaDoorEVars
import Derived.LaidLaws
import Derived.LaidHandle
import Derived.ChangeSame
import Derived.ChangeVars
import Derived.ProofKit
import Derived.RowKit
/-! A world that meets the rows' condition: the package-level variables as their initialisers lay them. -/
namespace Go.Proofs.YtafncdmclhdkdaaDoor.PAll
open Go.RowKit
theorem laidH_iff {w : World} : laidMetH Tryd.prog Rows.suffixNumbersRow.laid w ↔ laidMet Tryd.prog Rows.suffixNumbersRow.laid w := by
  have e : (Rows.suffixNumbersRow.laid.filter fun x => x.2.handleName?.isSome) = [] := by kernel_rfl
  unfold laidMetH
  rw [e]
def textSyntax : ByteArray := { data := #[105, 110, 118, 97, 108, 105, 100, 32, 115, 121, 110, 116, 97, 120] }
def textRange : ByteArray := { data := #[118, 97, 108, 117, 101, 32, 111, 117, 116, 32, 111, 102, 32, 114, 97, 110, 103, 101] }
noncomputable def low : Nat := (World.holding Tryd.prog default ⟨#[], #[], []⟩).heap.size
def layCells (c : Array Value) : Obj → Obj
  | .cells _ t frozen => .cells c t frozen
  | o => o
/-- The integers of a table's datum. -/
def tabCells : DataW Unit → Array Value
  | .agg l => (l.flatMap fun | .lit (.int k n) => [.int k n] | .agg l2 => l2.filterMap (fun | .lit (.int k n) => some (.int k n) | _ => none) | _ => []).toArray
  | _ => #[]
noncomputable def laidWorld (os : Os) : World :=
  let w0 := World.holding Tryd.prog os ⟨#[.cells #[.string textSyntax] 115, .cells #[.string textRange] 115], #[], []⟩
  { w0 with heap := ((((((w0.heap.modify 1 (layCells #[.iface 113 (.pointer (some ⟨low, 0, none⟩))])).modify 2 (layCells #[.iface 113 (.pointer (some ⟨low + 1, 0, none⟩))])).modify 3
      (layCells (tabCells Rows.laid_internal_strconv_uint64pow10))).modify 4 (layCells (tabCells Rows.laid_math_bits_deBruijn32tab))).modify 5 (layCells (tabCells Rows.laid_math_bits_deBruijn64tab))).modify 6
      (layCells (tabCells Rows.laid_unicode_utf8_first))).modify 7 (layCells (tabCells Rows.laid_unicode_utf8_acceptRanges)) }
set_option maxRecDepth 100000 in
theorem laid_met (os : Os) (args : Array Value) : laidMet Tryd.prog Rows.suffixNumbersRow.laid ((laidWorld os).forCall (fun _ _ => 0) ⟨#[], args, []⟩).memory :=
  laidMet_of_run' 8 (by kernel_rfl) (by kernel_rfl)
theorem laidH_met (os : Os) (args : Array Value) : laidMetH Tryd.prog Rows.suffixNumbersRow.laid ((laidWorld os).forCall (fun _ _ => 0) ⟨#[], args, []⟩).memory :=
  laidH_iff.2 (laid_met os args)
/-! ### what the condition says -/
theorem laidMet_tail {P : Program} {W : World} : ∀ {x : String × DataW Unit} {rest : List (String × DataW Unit)}, laidMet P (x :: rest) W → laidMet P rest W
  | (n, d), rest, ⟨ps, ⟨g, t, cs, fuel, p, q, _, _, _, _, hr, hp⟩, hn, hc⟩ => by
    subst hp
    exact ⟨q, hr, (List.nodup_append.1 hn).2.1, fun b off hb => hc b off (List.mem_append_right _ hb)⟩
theorem iface_of_trod {H : Type} {enc : TypeId × Value → H} {P : Program} {w : World} {base : Nat} {sp : Nat → Bool} {held : Bool} {fuel : Nat} {t : TypeId} {m : _} {cs : List Value} {s : String} {d : DataW H} {p : List MemPlace}
    (ht : P.underlying t = some (.interface m)) (h : DataW.trod enc P w base sp held fuel t cs = some (.iface s d, p)) : ∃ u v, cs = [.iface u v] := by
  cases fuel with
  | zero => simp [DataW.trod] at h
  | succ fuel =>
    simp only [DataW.trod, ht] at h
    split at h <;> first
      | exact ⟨_, _, rfl⟩
      | (simp_all; done)
theorem cell_of_head {P : Program} {W : World} {n : String} {s : String} {d : DataW Unit} {rest : List (String × DataW Unit)} {g : Nat} {t : TypeId} {m : _}
    (hg : P.globalNamed n = some g) (hty : (P.globals[g]?).map (·.type) = some t) (ht : P.underlying t = some (.interface m)) (h : laidMet P ((n, .iface s d) :: rest) W) : ∃ u v, W.cell? ⟨g, 0, none⟩ = some (.iface u v) := by
  obtain ⟨ps, ⟨g', t', cs, fuel, p, q, hg', ht', hvar, hd, _, _⟩, _⟩ := h
  obtain rfl := Option.some.inj (hg.symm.trans hg')
  obtain rfl := Option.some.inj (hty.symm.trans ht')
  obtain ⟨u, v, e⟩ := iface_of_trod ht hd
  have e' : cs = #[.iface u v] := Array.ext' e
  subst e'
  exact ⟨u, v, by simpa using World.var?_cell hg hvar 0⟩
theorem Vars_of_laid {W : World} (h : laidMetH Tryd.prog Rows.suffixNumbersRow.laid W) : Vars W := by
  have h0 := laidH_iff.1 h
  have h2 := laidMet_tail (laidMet_tail h0)
  have h3 := laidMet_tail h2
  have h4 := laidMet_tail h3
  have h5 := laidMet_tail h4
  exact ⟨Lib.tabIs_of_head (zs := Lib.pow10Tab) (t := 107) (e := 41) (n := 20) tab_named (by kernel_rfl) (by kernel_rfl) (by kernel_rfl) (by kernel_rfl) (by kernel_rfl) h2,
    cell_of_head (t := 43) (g := 1) (by kernel_rfl) (by kernel_rfl) Tryd.underlying43 h5, cell_of_head (t := 43) (g := 2) (by kernel_rfl) (by kernel_rfl) Tryd.underlying43 h4⟩
end Go.Proofs.YtafncdmclhdkdaaDoor.PAll
