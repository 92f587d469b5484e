import Derived.Test.YtafncdmclhdkdaaDoorSDig
import Derived.Test.YtafncdmclhdkdaaDoorEShelf
namespace Go.Proofs.YtafncdmclhdkdaaDoor.PAll
open Go.RowKit Go.Proofs.YtafncdmclhdkdaaDoorW.PrintWords
/-- TrimRight, of noughts. -/
def strings_TrimRight.f (a0 : ByteArray) (a1 : ByteArray) : Option ByteArray := if a0.size ≤ 281474976710656 ∧ a1 = ⟨#[48]⟩ then some ⟨(Lib.trimRightB a0.data.toList 48).toArray⟩ else none
theorem strings_TrimRight.calls (a0 : ByteArray) (a1 : ByteArray) (r : ByteArray) (w : World) (h : strings_TrimRight.f a0 a1 = some r) :
    Calls Tryd.prog 30 #[.string a0, .string a1] w fun e w' => e = .returned (.string r) ∧ Below w.heap.size w w' := by
  unfold strings_TrimRight.f at h
  split at h
  · rename_i hc
    obtain ⟨h0, rfl⟩ := hc
    obtain rfl := Option.some.inj h
    refine (Tryd.strings_TrimRight_one a0 48 (by decide) w (by omega)).mono fun e w' ⟨he, hw⟩ => ⟨he, ?_⟩
    subst hw
    exact Below.refl _ _
  · cases h
end Go.Proofs.YtafncdmclhdkdaaDoor.PAll
