import Derived.Test.YtmankbhlgjgnbaaMWa
import Derived.SizedLaws
import Derived.ChangeArms
import Derived.ChangeSlices
import Derived.OpenShut
/-! From a reading (DataW.trod) to the kinds' words: what came in is a row, a record, a number, as the walks want it. -/
set_option linter.unusedVariables false
set_option linter.unusedSimpArgs false
namespace Go.Proofs.Ytmankbhlgjgnbaa.Row
open Go.RowKit Go.Proofs.YtmankbhlgjgnbaaW.PrintWords Go.ChangeShapes Go.WideShapes

/-- What a reading at this type says: the kind's word of the cells; and, where its weights are in reach, G. -/
def Opens (P : Program) (t : TypeId) {α : Type} (d : Kd α) (G : α → Prop) : Prop :=
  ∀ {H : Type} (enc : TypeId × Value → H) (w : World) (base : Nat) (sp : Nat → Bool) (held : Bool) (fuel : Nat) (cs : List Value) (x : DataW H × List MemPlace),
    DataW.trod enc P w base sp held fuel t cs = some x → ∃ a, d.K w a cs ∧ ((∀ n ∈ DataW.weights P t x.1, n ≤ reachBytes) → G a)
variable {P : Program} {t e : TypeId} {α β : Type}
theorem Opens.weaken {d : Kd α} {G G' : α → Prop} (h : Opens P t d G) (hG : ∀ a, G a → G' a) : Opens P t d G' := fun enc w base sp held fuel cs x hx => by
  obtain ⟨a, k, g⟩ := h enc w base sp held fuel cs x hx
  exact ⟨a, k, fun hw => hG a (g hw)⟩
theorem opens_int {k : IntKind} (ht : P.underlying t = some (.int k)) : Opens P t (Kd.int k) (fun a => (Lit.int k a).wf = true) := fun enc w base sp held fuel cs x hx => by
  obtain ⟨n, rfl, rfl, hw⟩ := DataW.trod_int ht hx
  exact ⟨n, rfl, fun _ => hw⟩
theorem opens_bool (ht : P.underlying t = some .bool) : Opens P t Kd.bool (fun _ => True) := fun enc w base sp held fuel cs x hx => by
  obtain ⟨n, rfl, rfl⟩ := DataW.trod_bool ht hx
  exact ⟨n, rfl, fun _ => trivial⟩
theorem opens_string (ht : P.underlying t = some .string) : Opens P t Kd.string (fun s => s.size ≤ 140737488351232) := fun enc w base sp held fuel cs x hx => by
  obtain ⟨s, rfl, rfl, hs⟩ := DataW.trod_string ht hx
  exact ⟨s, rfl, fun hw => by
    have := hw s.data.toList.length (by simp [DataW.weights])
    have h2 : reachBytes = 140737488351232 := rfl
    rw [h2] at this
    simpa using this⟩
theorem weights_all {H : Type} {e : TypeId} : ∀ {l : List (DataW H)} {d : DataW H}, d ∈ l → ∀ n ∈ DataW.weights P e d, n ∈ DataW.weightsAll P e l
  | y :: r, d, hd, n, hn => by
    simp only [DataW.weightsAll, List.mem_append]
    rcases List.mem_cons.1 hd with rfl | hd
    · exact .inl hn
    · exact .inr (weights_all hd n hn)
theorem opens_slice {d : Kd α} {G : α → Prop} {B : Nat} (ht : P.underlying t = some (.slice e)) (hs : P.cellsOf e = d.sz) (hB : P.bytesOf e = B) (h : Opens P e d G) :
    Opens P t (Kd.slice e d) (fun l => l.length * B ≤ 140737488351232 ∧ ∀ x ∈ l, G x) := fun enc w base sp held fuel cs x hx => by
  rcases DataW.trod_slice ht hx with ⟨rfl, rfl⟩ | ⟨a, len, cap, elems, rest, n, _, rfl, rfl, hb, hl, hm, hlen, hel, _, _⟩
  · exact ⟨[], ⟨none, 0, rfl, Nat.le_refl _, rfl, by simp, fun h => absurd h (by simp)⟩, fun _ => ⟨by simp, fun x hx => by cases hx⟩⟩
  · have hev : ∀ i, i < len → ∃ (p : α), ∃ (y : DataW _ × List MemPlace) (c : List Value), elems[i]? = some y ∧ w.cells? base (a.add (i * P.cellsOf e)) (P.cellsOf e) = some c ∧ d.K w p c ∧ ((∀ n ∈ DataW.weights P e y.1, n ≤ reachBytes) → G p) := by
      intro i hi
      have h1 := hel i hi
      have hy : elems[i]? = some (elems[i]'(by omega)) := List.getElem?_eq_getElem (by omega)
      rw [hy] at h1
      obtain ⟨c, hc, htr⟩ := Option.bind_eq_some_iff.1 h1
      obtain ⟨p, hk, hg⟩ := h _ _ _ _ _ _ _ _ htr
      exact ⟨p, _, c, hy, hc, hk, hg⟩
    obtain ⟨p, hp⟩ := Classical.axiomOfChoice (fun i : Fin len => hev i.1 i.2)
    have hlp : (List.ofFn p).length = len := List.length_ofFn
    refine ⟨List.ofFn p, ⟨some a, cap, by rw [hlp], by rw [hlp]; exact hl, rfl, ?_, fun _ => ⟨a, rfl, fun j q hj => ?_⟩⟩, fun hw => ⟨?_, fun q hq => ?_⟩⟩
    · rw [hlp]
      unfold maxLen at hm
      omega
    · have hjl : j < len := by rw [← hlp]; exact (List.getElem?_eq_some_iff.1 hj).1
      rw [List.getElem?_ofFn, dif_pos hjl] at hj
      obtain rfl := Option.some.inj hj
      obtain ⟨y, c, _, hc, hk, _⟩ := hp ⟨j, hjl⟩
      obtain ⟨_, hcl, hcc⟩ := World.cells?_some hc
      refine ⟨c, hcl.trans hs, hk, fun i u hu => ?_⟩
      have hil : i < P.cellsOf e := by rw [← hcl]; exact (List.getElem?_eq_some_iff.1 hu).1
      have := hcc i hil
      rw [hu] at this
      rw [hs] at this
      rw [Addr.add_add] at this
      exact this
    · have := hw ((elems.length + rest.length) * P.bytesOf e) (by simp [DataW.weights, ht])
      rw [hB] at this
      have h2 : reachBytes = 140737488351232 := rfl
      rw [hlp, ← hlen]
      rw [h2] at this
      exact Nat.le_trans (Nat.mul_le_mul_right _ (Nat.le_add_right _ _)) this
    · obtain ⟨j, rfl⟩ := List.mem_ofFn.1 hq
      obtain ⟨y, c, hy, _, _, hg⟩ := hp j
      refine hg (fun n hn => hw n ?_)
      have hmem : y.1 ∈ elems.map (·.1) := List.mem_map.2 ⟨y, List.mem_of_getElem? hy, rfl⟩
      have := weights_all (P := P) (e := e) hmem n hn
      simp only [DataW.weights, ht, List.mem_cons, List.mem_append]
      exact .inr (.inl this)

/-! records: their cells, field by field -/
theorem pair_K {a : Kd α} {b : Kd β} {w : World} {x : α} {y : β} {cs : List Value} {o : Nat} (h0 : a.K w x ((cs.drop o).take a.sz)) (h1 : b.K w y ((cs.drop (o + a.sz)).take b.sz)) :
    (Kd.pair a b).K w (x, y) ((cs.drop o).take (a.sz + b.sz)) := by
  refine ⟨_, _, ?_, h0, h1⟩
  rw [List.take_add, List.drop_drop]
theorem weights_agg {H : Type} {fs : Array Field} {ds : List (DataW H)} (ht : P.underlying t = some (.struct fs)) : DataW.weights P t (.agg ds) = DataW.weightsEach P (fs.toList.map (·.type)) ds := by
  simp [DataW.weights, ht]
/-- At a parameter. -/
theorem top {H : Type} {enc : TypeId × Value → H} {d : Kd α} {G : α → Prop} {W : World} {base : Nat} {sp : Nat → Bool} {held : Bool} {v : Value} {dd : DataW H} {ps : List MemPlace} {ts : List TypeId} {ds : List (DataW H)} {j : Nat}
    (h : Opens P t d G) (hd : DataW.Trod enc P W base sp held t v dd ps) (hsz : (DataW.weightsEach P ts ds).all (· ≤ reachBytes) = true) (ht : ts[j]? = some t) (hj : ds[j]? = some dd) : ∃ a, d.K W a v.cells.toList ∧ G a := by
  obtain ⟨fuel, hf⟩ := hd
  obtain ⟨a, k, g⟩ := h enc W base sp held fuel _ _ hf
  exact ⟨a, k, g (fun n hn => by simpa using List.all_eq_true.1 hsz n (DataW.weights_mem_each ht hj n hn))⟩
end Go.Proofs.Ytmankbhlgjgnbaa.Row
