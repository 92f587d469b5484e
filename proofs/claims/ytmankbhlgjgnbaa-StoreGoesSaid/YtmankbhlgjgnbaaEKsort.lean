import Derived.Test.YtmankbhlgjgnbaaMKb
import Derived.Test.YtmankbhlgjgnbaaEShelf
import Derived.Test.YtmankbhlgjgnbaaECmp
/-! slices.SortFunc over a list of items, by name. -/
namespace Go.Proofs.Ytmankbhlgjgnbaa.PAll
open Go.RowKit Go.Proofs.YtmankbhlgjgnbaaW.PrintWords Go.Proofs.YtmankbhlgjgnbaaW.PrintLast Go.Proofs.YtmankbhlgjgnbaaW.PrintMore Mem
set_option linter.unusedVariables false
set_option linter.unusedSimpArgs false
instance : Inhabited CI := ⟨noItem⟩
theorem cmp_lt : ∀ a b : List UInt8, Lib.compareBytes a b < 0 ↔ a < b
  | [], [] => ⟨fun h => absurd h (by decide), fun h => absurd h (List.lt_irrefl _)⟩
  | [], _ :: _ => ⟨fun _ => List.nil_lt_cons _ _, fun _ => (by decide : (-1 : Int) < 0)⟩
  | _ :: _, [] => ⟨fun h => absurd (show (1 : Int) < 0 from h) (by decide), fun h => absurd h (List.not_lt_nil _)⟩
  | a :: ar, b :: br => by
    have ih := cmp_lt ar br
    unfold Lib.compareBytes
    rw [List.cons_lt_cons_iff]
    by_cases h1 : a < b
    · rw [if_pos h1]
      exact ⟨fun _ => .inl h1, fun _ => by decide⟩
    · rw [if_neg h1]
      by_cases h2 : b < a
      · rw [if_pos h2]
        refine ⟨fun h => absurd h (by decide), fun h => ?_⟩
        rcases h with h | ⟨h, _⟩
        · exact absurd h h1
        · subst h
          exact absurd h2 h1
      · rw [if_neg h2, ih]
        have he : a = b := UInt8.le_antisymm (UInt8.not_lt.1 h2) (UInt8.not_lt.1 h1)
        exact ⟨fun h => .inr ⟨he, h⟩, fun h => h.elim (fun h => absurd h h1) (fun h => h.2)⟩
def cfI (x y : CI) : Int := Lib.compareBytes x.name.data.toList y.name.data.toList
theorem ltOf_cf (x y : CI) : ltOf cfI x y = decide (tlt x.name y.name) := by
  unfold ltOf cfI tlt
  exact decide_eq_decide.2 (cmp_lt _ _)
theorem swo_cf : Go.Sort.SWO (ltOf cfI) where
  irrefl x := by rw [ltOf_cf]; exact decide_eq_false (tlt_irrefl _)
  trans x y z h1 h2 := by
    rw [ltOf_cf] at *
    exact decide_eq_true (tlt_trans (of_decide_eq_true h1) (of_decide_eq_true h2))
  ntrans x y z h1 h2 := by
    rw [ltOf_cf] at *
    refine decide_eq_false fun h => ?_
    have h1' := of_decide_eq_false h1
    have h2' := of_decide_eq_false h2
    by_cases e : x.name = y.name
    · rw [e] at h; exact h2' h
    · exact h2' (tlt_trans (tlt_tri h1' e) h)
theorem strings_Compare.calls2 (a b : ByteArray) (w : World) : Calls Try.prog 47 #[.string a, .string b] w fun e w' => e = .returned (.int .i64 (Lib.compareBytes a.data.toList b.data.toList)) ∧ w' = w := by
  go_enter Try.func47, Try.ntmps47
  go_wp2_with (go_at_call 52; refine (bytealg_CompareString.calls _ _ _).mono ?_; rintro e w' ⟨rfl, rfl⟩)
  go_ret
  exact ⟨rfl, rfl⟩
set_option maxHeartbeats 1000000 in
theorem closure.calls (x y : CI) (W : World) : Calls Try.prog 46 #[.agg x.cells.toArray, .agg y.cells.toArray] W fun e w' => e = .returned (.int .i64 (cfI x y)) ∧ ∃ q os', w' = Go.Sort.grow (W.drewN q) os' := by
  have hcon := fun W' => strings_Compare.calls2 x.name y.name W'
  unfold cfI
  generalize Lib.compareBytes x.name.data.toList y.name.data.toList = r at hcon ⊢
  unfold CI.cells
  go_enter Try.func46, Try.ntmps46
  go_wp2_with (go_at_call 47; refine (hcon _).mono ?_; rintro e w' ⟨rfl, rfl⟩)
  go_ret
  exact ⟨rfl, 0, _, by rw [Go.Sort.alloc_eq_grow, Go.Sort.alloc_eq_grow, Go.Sort.grow_grow]; rfl⟩
/-- An own row of items is held, as the sort wants it. -/
theorem holds_ci {w : World} {base g c n : Nat} {ok : Nat → Prop} {ys : List CI} (h : Kd.R kCI 31 w base ok (.slice (some ⟨g, 0, none⟩) n c) ys) : Go.Sort.HoldsK CI.cells 6 w g 0 ys.toArray := by
  have hn : ys.length = n := (Kd.R_reads' h).1.symm
  intro t ht
  have ht' : t < ys.length * 6 := by simpa using ht
  have hi : t / 6 < ys.length := by omega
  obtain ⟨g', e, hc⟩ := own_ci h (t / 6) hi
  have eg : g = g' := by injection e with e; injection e with e
  subst eg
  obtain ⟨_, _, _, _, hfr⟩ := Kd.R_elem h noItem ((t / 6 : Nat) : Int) (by omega) (by omega)
  have hm : t / 6 * 6 + t % 6 = t := by omega
  rw [Go.Sort.get_flatK _ _ _ _ (by simpa using ht'), Nat.zero_add]
  have hg1 : (ys.toArray)[t / 6]! = ys[t / 6] := by simp [hi]
  have hlen : ys[t / 6].cells.length = 6 := rfl
  have hg2 : (ys[t / 6].cells)[t % 6]? = some (ys[t / 6].cells)[t % 6]! := by
    rw [List.getElem?_eq_getElem (by rw [hlen]; omega), getElem!_pos _ _ (by rw [hlen]; omega)]
  refine ⟨?_, ?_⟩
  · have h1 := hc (t % 6) _ hg2
    rw [hm] at h1
    rw [hg1]
    exact h1
  · have h1 := hfr (t % 6)
    have h2 : ((t / 6 : Nat) : Int).toNat * kCI.sz + t % 6 = t := by show (t / 6) * 6 + t % 6 = t; omega
    rw [h2] at h1
    exact h1
/-- .. and what is held is read. -/
theorem reads_ci {w : World} {g : Nat} {d : Array CI} (h : Go.Sort.HoldsK CI.cells 6 w g 0 d) (hl : d.size ≤ 9223372036854775807) : Kd.C kCI w (some ⟨g, 0, none⟩) d.size d.toList := by
  refine ⟨by simp, hl, fun _ => ⟨_, rfl, fun j p hj => ⟨p.cells, rfl, rfl, fun i u hu => ?_⟩⟩⟩
  have hjl : j < d.size := by have := (List.getElem?_eq_some_iff.1 hj).1; simpa using this
  have hil : i < 6 := (List.getElem?_eq_some_iff.1 hu).1
  have h1 := (h (j * 6 + i) (by simp; omega)).1
  rw [Go.Sort.get_flatK _ _ _ _ (by omega), show (j * 6 + i) / 6 = j by omega, show (j * 6 + i) % 6 = i by omega, Nat.zero_add] at h1
  have hp : d[j]! = p := by
    rw [getElem!_pos d j hjl]
    have := (List.getElem?_eq_some_iff.1 hj).2
    simpa using this
  rw [hp] at h1
  have hu2 : p.cells[i]! = u := by
    rw [getElem!_pos p.cells i hil]
    exact (List.getElem?_eq_some_iff.1 hu).2
  rw [hu2] at h1
  show w.cell? ((⟨g, 0, none⟩ : Addr).add (j * 6 + i)) = some u
  rw [add_plain]
  exact h1
theorem sort_grown {w : World} {g n : Nat} {d : Array CI} {os : Array Obj} : w.grownBy (sortWorldK CI.cells 6 w g 0 n d os) (some g) := by
  refine ⟨rfl, rfl, rfl, ?_, fun i hi hne => ?_⟩
  · unfold sortWorldK Go.Sort.grow Go.Sort.putRowK Go.Sort.putRow Go.Sort.mapBlock Go.Sort.ahead
    simp
  · have hig : g ≠ i := fun e => hne (by rw [e])
    unfold sortWorldK Go.Sort.grow Go.Sort.putRowK Go.Sort.putRow Go.Sort.mapBlock Go.Sort.ahead
    show (w.heap.modify g _ ++ os)[i]? = _
    rw [Array.getElem?_append_left (by simpa using hi), Array.getElem?_modify, if_neg hig]
theorem sort_typed {w : World} {g n : Nat} {d : Array CI} {os : Array Obj} {cells : Array Value} {t : TypeId} (h : w.heap[g]? = some (.cells cells t (0, 0))) : ∃ cells', (sortWorldK CI.cells 6 w g 0 n d os).heap[g]? = some (.cells cells' t (0, 0)) := by
  have hlt : g < w.heap.size := (Array.getElem?_eq_some_iff.1 h).1
  unfold sortWorldK Go.Sort.grow Go.Sort.putRowK Go.Sort.putRow Go.Sort.mapBlock Go.Sort.ahead
  show ∃ cells', (w.heap.modify g _ ++ os)[g]? = _
  rw [Array.getElem?_append_left (by simpa using hlt), Array.getElem?_modify, if_pos rfl, h]
  exact ⟨_, rfl⟩
theorem sort.calls (w : World) (base g c : Nat) (ok : Nat → Prop) (ys : List CI) (h : Kd.R kCI 31 w base ok (.slice (some ⟨g, 0, none⟩) ys.length c) ys) (hl : ys.length ≤ 1000) :
    Calls Try.prog 45 #[.slice (some ⟨g, 0, none⟩) ys.length c, .func (.func 46) #[] #[]] w fun e w' => e = .returned (.tuple #[]) ∧ ∃ zs : List CI, zs.Perm ys ∧ zs.length = ys.length ∧ zs.Pairwise (fun x y => ¬ tlt y.name x.name) ∧ Kd.C kCI w' (some ⟨g, 0, none⟩) zs.length zs ∧ (∃ cells, w'.heap[g]? = some (.cells cells 31 (0, 0))) ∧ w.grownBy w' (some g) := by
  have eg : ∀ args w, (callFunc 46 args).run Try.prog w = .ok (.enter 46 args) w := enters_of Try.func46 (by kernel_rfl) rfl
  have hH := holds_ci h
  obtain ⟨cells, hty⟩ := Kd.R_typed h g (by simp [Value.ownBlock])
  have hblk : g < w.heap.size := (Array.getElem?_eq_some_iff.1 hty).1
  have hcon := AnyQ.slices_SortFunc Try.sortItems 6 Try.isAgg31 Try.sizeOf31 CI.cells (fun _ => rfl) (fun x v hv => cells_one x v hv) cfI swo_cf 46 #[] g 0 c ys.toArray w eg (fun _ _ _ _ x y => closure.calls x y _) hH hblk (by simp; omega)
  have hcon2 : Calls Try.prog 45 #[.slice (some ⟨g, 0, none⟩) ys.length c, .func (.func 46) #[] #[]] w _ := hcon
  refine hcon2.mono ?_
  rintro e w' ⟨rfl, d', n, os, hp, hs, rfl⟩
  have hsz : d'.size = ys.length := by have := hp.1; simpa using this
  have hperm : d'.toList.Perm ys := by
    have h1 := hp.2.2
    rw [show (d'.extract 0 ys.toArray.size) = d' by rw [hp.1.symm]; simp, show (ys.toArray.extract 0 ys.toArray.size) = ys.toArray by simp] at h1
    simpa using h1
  refine ⟨rfl, d'.toList, hperm, by simpa using hsz, ?_, ?_, sort_typed hty, sort_grown⟩
  · rw [List.pairwise_iff_getElem]
    intro i j hi hj hij
    have hi' : i < d'.size := by simpa using hi
    have hj' : j < d'.size := by simpa using hj
    have h1 := hs i j (Nat.zero_le _) hij (by rw [show ys.toArray.size = ys.length from by simp, ← hsz]; exact hj')
    rw [ltOf_cf] at h1
    have h2 := of_decide_eq_false h1
    rw [getElem!_pos d' i hi', getElem!_pos d' j hj'] at h2
    simpa using h2
  · have h1 := reads_ci (holdsK_sortWorldK CI.cells 6 w g 0 n ys.toArray d' os hblk hH hp.1) (by omega)
    rw [show d'.toList.length = d'.size by simp]
    exact h1
end Go.Proofs.Ytmankbhlgjgnbaa.PAll
