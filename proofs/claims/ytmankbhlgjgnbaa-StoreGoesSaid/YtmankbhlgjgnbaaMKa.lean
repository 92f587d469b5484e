import Derived.Test.YtmankbhlgjgnbaaEHst
section
/-! The reference's store: Copy. -/
namespace Go.Proofs.Ytmankbhlgjgnbaa.PAll
open Go.RowKit Go.Proofs.YtmankbhlgjgnbaaW.PrintWords Go.Proofs.YtmankbhlgjgnbaaW.PrintLast Go.Proofs.YtmankbhlgjgnbaaW.PrintMore Mem
set_option linter.unusedVariables false
set_option linter.unusedSimpArgs false
theorem blk_grownN {w w' : World} {g : Nat} {cur : List Value} {t : TypeId} {row : Option Nat} (h : Blk w g cur t) (hg : w.grownBy w' row) (hr : row = none) : Blk w' g cur t := (hg.block g (Blk.lt h) (by rw [hr]; exact fun e => by cases e)).trans h
set_option maxHeartbeats 4000000 in
set_option maxRecDepth 100000 in
theorem rcopy.calls (x : CI) (w : World) (hx : RowOK w x) (hf : Fits x) :
    Calls Try.prog 36 #[itemV x] w fun e w' => ∃ y : CI, e = .returned (itemV y) ∧ RowNew w' w.heap.size y ∧ y.pure = x.pure ∧ Below w.heap.size w w' := by
  have HX := Aside0.mk hx
  have HF := Aside0.mk hf
  clear hx hf
  unfold itemV CI.cells
  obtain ⟨k, nm, vr, ha, hc, H, ba, bc, B, gg⟩ := x
  dsimp only
  go_enter Try.func36, Try.ntmps36
  go_wp2_with (first
    | ((with_reducible refine gate_dst (N := 1) rfl ?_); refine box_at rfl (t := 31) rfl _ (CI.cells ⟨k, nm, vr, ha, hc, H, ba, bc, B, gg⟩) rfl rfl ?_; intro g1 hg w1 hk hb
       have BK1 := Aside0.mk hk; have X1 := Aside0.mk hb; have G1 : Aside0 (g1 = w.heap.size) := Aside0.mk hg; clear hk hb hg)
    | ((with_reducible refine gate_dst (N := 2) rfl ?_); refine new_at rfl (t := 31) rfl noItem.cells (itemV noItem) (fun W => zero_item W) rfl ?_; intro g2 hg w2 hk hb
       have BZ2 := Aside0.mk hk; have BK2 := Aside0.mk (BK1.out.below hb); have X2 := Aside0.mk (below_then X1.out X1.out.size hb); have G2 : Aside0 (g1 < g2 ∧ w.heap.size ≤ g2) := Aside0.mk (by have h1 := BK1.out.lt; have h2 := X1.out.size; omega); clear hk hb hg
       have c3 : w2.cell? ⟨g1, 3, none⟩ = some (.slice ha H.length hc) := BK2.out.cell 3)
    | (at_builtin; refine Kd.R_append_rows Kd.string (w0 := w) (W := w2) (Rr := fun x cs => Kd.K Kd.string w2 x cs) w.heap.size rfl _ _ 29 9 _ 16 rfl Try.underlying29 info9_ rfl (by decide) (by decide) _ [] H ha H.length hc (fun k => w2.heap.size ≤ k) (fun _ => False) rfl rfl (Kd.R_nil _ _ _ _ _) (Kd.C_below HX.out.hr X2.out) (fun _ _ h => h) (fun _ h => h.elim) (fun _ h => h) X2.out X2.out.size (by have := HF.out.1; dsimp only at this; simp; omega) ?_; intro v3 w3 hv hb hg3 _
       obtain ⟨A1, n1, rfl⟩ := Kd.R_slice hv
       have HR3 := Aside0.mk hv; have X3 := Aside0.mk hb; have BK3 := Aside0.mk (blk_grownN BK2.out hg3 rfl); have BZ3 := Aside0.mk (blk_grownN BZ2.out hg3 rfl); have Z3 := Aside0.mk hg3.size; clear hv hb hg3)
    | ((with_reducible refine gate_store (p := 6) rfl ?_); refine store_at rfl (t := 29) rfl rfl g1 3 _ 31 _ rfl rfl BK3.out [.slice A1 H.length n1] rfl size_slice29 (show (4 : Nat) ≤ 6 by decide) (by intro u hu; rw [List.mem_singleton.1 hu]; rfl) ?_; intro w4 hk hg
       have BK4 : Aside0 (Blk w4 g1 (CI.cells ⟨k, nm, vr, A1, n1, H, ba, bc, B, gg⟩) 31) := Aside0.mk hk; have BZ4 := Aside0.mk (BZ3.out.grown hg (by have := G2.out; omega)); have X4 := Aside0.mk (pw_below_grown X3.out (some g1) X3.out.size hg (fun k e => by cases e; exact Nat.le_of_eq G1.out.symm)); have HR4 := Aside0.mk (Kd.R_grown HR3.out hg (fun k (hk : w2.heap.size ≤ k) e => by have h1 := Option.some.inj e; have h2 := BK2.out.lt; omega)); have Z4 := Aside0.mk hg.size; clear hk hg
       have c4 : w4.cell? ⟨g1, 4, none⟩ = some (.slice ba B.length bc) := BK4.out.cell 4)
    | (at_builtin; refine Kd.R_append_rows (Kd.int .u8) (w0 := w) (W := w4) (Rr := fun x cs => Kd.K (Kd.int .u8) w4 x cs) w.heap.size rfl _ _ 26 5 _ 1 rfl Try.underlying26 info5_ rfl (by decide) (by decide) _ [] B ba B.length bc (fun k => w4.heap.size ≤ k) (fun _ => False) rfl rfl (Kd.R_nil _ _ _ _ _) (Kd.C_below HX.out.br X4.out) (fun _ _ h => h) (fun _ h => h.elim) (fun _ h => h) X4.out X4.out.size (by have := HF.out.2; dsimp only at this; simp; omega) ?_; intro v5 w5 hv hb hg5 _
       obtain ⟨A2, n2, rfl⟩ := Kd.R_slice hv
       have HB5 := Aside0.mk hv; have X5 := Aside0.mk hb; have BK5 := Aside0.mk (blk_grownN BK4.out hg5 rfl); have BZ5 := Aside0.mk (blk_grownN BZ4.out hg5 rfl); have HR5 := Aside0.mk (Kd.R_grown HR4.out hg5 (fun k _ e => by cases e)); clear hv hb hg5)
    | ((with_reducible refine gate_store (p := 10) rfl ?_); refine store_at rfl (t := 26) rfl rfl g1 4 _ 31 _ rfl rfl BK5.out [.slice A2 B.length n2] rfl size_slice26 (show (5 : Nat) ≤ 6 by decide) (by intro u hu; rw [List.mem_singleton.1 hu]; rfl) ?_; intro w6 hk hg
       have BK6 : Aside0 (Blk w6 g1 (CI.cells ⟨k, nm, vr, A1, n1, H, A2, n2, B, gg⟩) 31) := Aside0.mk hk; have BZ6 := Aside0.mk (BZ5.out.grown hg (by have := G2.out; omega)); have X6 := Aside0.mk (pw_below_grown X5.out (some g1) X5.out.size hg (fun k e => by cases e; exact Nat.le_of_eq G1.out.symm)); have HR6 := Aside0.mk (Kd.R_grown HR5.out hg (fun k (hk : w2.heap.size ≤ k) e => by have h1 := Option.some.inj e; have h2 := BK2.out.lt; omega)); have HB6 := Aside0.mk (Kd.R_grown HB5.out hg (fun k (hk : w4.heap.size ≤ k) e => by have h1 := Option.some.inj e; have h2 := BK4.out.lt; omega)); clear hk hg)
    | ((with_reducible refine gate_dst (N := 11) rfl ?_); refine load_at rfl (t := 31) rfl g1 _ 31 _ rfl BK6.out Try.underlying31 size_item ?_)
    | ((with_reducible refine gate_store (p := 2) rfl ?_); refine store_at rfl (t := 31) rfl rfl g2 0 _ 31 _ rfl rfl BZ6.out (CI.cells ⟨k, nm, vr, A1, n1, H, A2, n2, B, gg⟩) rfl size_item (show (6 : Nat) ≤ 6 from Nat.le_refl 6) (cells_one _) ?_; intro w7 hk hg
       have BL7 := Aside0.mk hk; have X7 := Aside0.mk (pw_below_grown X6.out (some g2) X6.out.size hg (fun k e => by cases e; exact G2.out.2)); have HR7 := Aside0.mk (Kd.R_grown HR6.out hg (fun k (hk : w2.heap.size ≤ k) e => by have h1 := Option.some.inj e; have h2 := BZ2.out.lt; omega)); have HB7 := Aside0.mk (Kd.R_grown HB6.out hg (fun k (hk : w4.heap.size ≤ k) e => by have h1 := Option.some.inj e; have h2 := BZ4.out.lt; omega)); clear hk hg))
  have BE : Blk w7 g2 (CI.cells ⟨k, nm, vr, A1, n1, H, A2, n2, B, gg⟩) 31 := BL7.out
  (try simp only [Exit.inBlock, Exit.then])
  exact bodyPost_ret (res_item1 rfl _ _ g2 _ rfl BE rfl) rfl ⟨⟨k, nm, vr, A1, n1, H, A2, n2, B, gg⟩, rfl, ⟨R_from HR7.out, R_from HB7.out⟩, rfl, X7.out⟩
end Go.Proofs.Ytmankbhlgjgnbaa.PAll
end
section
/-! The reference's store: New. -/
namespace Go.Proofs.Ytmankbhlgjgnbaa.PAll
open Go.RowKit Go.Proofs.YtmankbhlgjgnbaaW.PrintWords Go.Proofs.YtmankbhlgjgnbaaW.PrintLast Go.Proofs.YtmankbhlgjgnbaaW.PrintMore Mem
set_option linter.unusedVariables false
set_option linter.unusedSimpArgs false
theorem rnew.calls (w : World) : Calls Try.prog 17 #[] w fun e w' => ∃ q, e = .returned (.pointer (some ⟨q, 0, none⟩)) ∧ w.heap.size ≤ q ∧ Blk w' q [.slice none 0 0, .int .i64 0] 65 ∧ Below w.heap.size w w' := by
  go_enter Try.func17, Try.ntmps17
  go_wp2
  go_ret
  exact ⟨w.heap.size, rfl, Nat.le_refl _, Blk.alloc_new w [.slice none 0 0, .int .i64 0] _, below_alloc (Below.refl _ _) _⟩
end Go.Proofs.Ytmankbhlgjgnbaa.PAll
end
section
/-! The reference's store: a list of items, each a row of six cells; what it holds, in memory. -/
namespace Go.Proofs.Ytmankbhlgjgnbaa.PAll
open Go.RowKit Go.Proofs.YtmankbhlgjgnbaaW.PrintWords Go.Proofs.YtmankbhlgjgnbaaW.PrintLast Go.Proofs.YtmankbhlgjgnbaaW.PrintMore Mem
set_option linter.unusedVariables false
set_option linter.unusedSimpArgs false
def kCI : Kd CI where
  sz := 6
  E := []
  K := fun _ x cs => cs = x.cells
  M := fun _ _ _ x cs => cs = x.cells
  K_len := by rintro w x cs rfl; rfl
  K_one := by rintro w x cs rfl; exact cells_one x
  K_below := fun _ h => h
  K_of_M := fun h => h
  M_mono := fun _ h => h
  M_bound := fun h => h
  M_move := fun _ h => h
  M_lower := fun _ h => h
/-- An element that is read, of whichever row. -/
theorem at_ci {w : World} {A : Option Addr} {n : Nat} {xs : List CI} (h : Kd.C kCI w A n xs) (i : Nat) (hi : i < xs.length) :
    ∃ ad, A = some ad ∧ w.cell? (ad.add (i * 6)) = some (.int .i64 xs[i].kind) ∧ w.cell? ⟨(ad.add (i * 6)).block, (ad.add (i * 6)).off + 1, none⟩ = some (.string xs[i].name) ∧ w.cell? ⟨(ad.add (i * 6)).block, (ad.add (i * 6)).off + 2, none⟩ = some (.int .i64 xs[i].ver) ∧ w.cell? ⟨(ad.add (i * 6)).block, (ad.add (i * 6)).off + 3, none⟩ = some (.slice xs[i].ha xs[i].H.length xs[i].hc) ∧ w.cell? ⟨(ad.add (i * 6)).block, (ad.add (i * 6)).off + 4, none⟩ = some (.slice xs[i].ba xs[i].B.length xs[i].bc) ∧ w.cell? ⟨(ad.add (i * 6)).block, (ad.add (i * 6)).off + 5, none⟩ = some (.bool xs[i].going) := by
  have hn : xs.length = n := h.1
  obtain ⟨ad, c, e, _, hK, hc0⟩ := Kd.C_get h noItem (i : Int) (by omega) (by omega)
  have hc : ∀ j u, c[j]? = some u → w.cell? (ad.add (i * 6 + j)) = some u := hc0
  have hK2 : c = (xs.getD i noItem).cells := hK
  rw [List.getD_eq_getElem?_getD, List.getElem?_eq_getElem hi] at hK2
  have hK3 : c = xs[i].cells := hK2
  subst hK3
  exact ⟨ad, e, hc 0 _ rfl, by rw [← add_field _ _ 1 (by omega)]; exact hc 1 _ rfl, by rw [← add_field _ _ 2 (by omega)]; exact hc 2 _ rfl, by rw [← add_field _ _ 3 (by omega)]; exact hc 3 _ rfl, by rw [← add_field _ _ 4 (by omega)]; exact hc 4 _ rfl, by rw [← add_field _ _ 5 (by omega)]; exact hc 5 _ rfl⟩
/-- An element of an own row. -/
theorem own_ci {w : World} {base : Nat} {ok : Nat → Prop} {A : Option Addr} {n c : Nat} {xs : List CI} (h : Kd.R kCI 31 w base ok (.slice A n c) xs) (i : Nat) (hi : i < xs.length) :
    ∃ g, A = some ⟨g, 0, none⟩ ∧ ∀ j u, xs[i].cells[j]? = some u → w.cell? ⟨g, i * 6 + j, none⟩ = some u := by
  have hn : xs.length = n := (Kd.R_reads' h).1.symm
  have h2 := h
  obtain ⟨_, inner, hown, _⟩ := h2
  obtain ⟨g, cap, cur, e, hg, hblk, _⟩ := own_blk hown (by omega)
  have hA : A = some ⟨g, 0, none⟩ := by injection e
  subst hA
  obtain ⟨c', _, hM, hc, _⟩ := Kd.R_elem h noItem (i : Int) (by omega) (by omega)
  have hK2 : c' = (xs.getD i noItem).cells := hM
  rw [List.getD_eq_getElem?_getD, List.getElem?_eq_getElem hi] at hK2
  have hK3 : c' = xs[i].cells := hK2
  subst hK3
  exact ⟨g, rfl, fun j u hu => hc j u hu⟩
/-- What is kept where a call writes blocks of other types. -/
theorem R_keptT {α : Type} {d : Kd α} {e base : Nat} {ok S : Nat → Prop} {w w' : World} {v : Value} {xs : List α} (h : d.R e w base ok v xs) (hE : d.E = []) (hk : Kept w w' S) (hS : ∀ k, S k → ok k → ∀ cells, w.heap[k]? ≠ some (.cells cells e (0, 0))) : d.R e w' base ok v xs := by
  refine Kd.R_mono (Kd.R_kept (Kd.R_bound h) hk ?_) (fun k hk => hk.1)
  rintro k ⟨h1, h2, h3, q, hq, hc⟩ hs
  rw [hE] at hq
  obtain rfl := List.mem_singleton.1 hq
  obtain ⟨cells, hc⟩ := hc
  exact hS k hs h1 cells hc
/-- The rows of an item are rows of the store's own. -/
structure RowR (w : World) (ok : Nat → Prop) (x : CI) : Prop where
  hr : Kd.R Kd.string 9 w 0 ok (.slice x.ha x.H.length x.hc) x.H
  br : Kd.R (Kd.int .u8) 5 w 0 ok (.slice x.ba x.B.length x.bc) x.B
theorem RowR.ok {w : World} {ok : Nat → Prop} {x : CI} (h : RowR w ok x) : RowOK w x := ⟨(Kd.R_reads' h.hr).2.2, (Kd.R_reads' h.hr).2.1, (Kd.R_reads' h.br).2.2, (Kd.R_reads' h.br).2.1⟩
theorem RowR.of_new {w : World} {base : Nat} {ok : Nat → Prop} {x : CI} (h : RowNew w base x) (hf : ∀ k, base ≤ k → ok k) : RowR w ok x := ⟨Kd.R_mono (Kd.R_lower h.hr (Nat.zero_le _)) hf, Kd.R_mono (Kd.R_lower h.br (Nat.zero_le _)) hf⟩
theorem RowR.mono {w : World} {ok ok' : Nat → Prop} {x : CI} (h : RowR w ok x) (hf : ∀ k, ok k → k < w.heap.size → ok' k) : RowR w ok' x := ⟨Kd.R_mono (Kd.R_bound h.hr) (fun k hk => hf k hk.1 hk.2.2.1), Kd.R_mono (Kd.R_bound h.br) (fun k hk => hf k hk.1 hk.2.2.1)⟩
/-- No block of the rows' types. -/
def NoRow (w : World) (k : Nat) : Prop := ∀ cells, w.heap[k]? ≠ some (.cells cells 9 (0, 0)) ∧ w.heap[k]? ≠ some (.cells cells 5 (0, 0))
theorem RowR.kept {w w' : World} {ok S : Nat → Prop} {x : CI} (h : RowR w ok x) (hk : Kept w w' S) (hS : ∀ k, S k → ok k → NoRow w k) : RowR w' ok x :=
  ⟨R_keptT h.hr rfl hk (fun k hs ho cells => (hS k hs ho cells).1), R_keptT h.br rfl hk (fun k hs ho cells => (hS k hs ho cells).2)⟩
theorem Blk.noRow {w : World} {k : Nat} {cur : List Value} {t : TypeId} (h : Blk w k cur t) (h1 : t ≠ 9) (h2 : t ≠ 5) : NoRow w k := fun cells => by
  unfold Blk at h
  rw [h]
  refine ⟨fun e => ?_, fun e => ?_⟩
  · exact h1 (by injection (Option.some.inj e))
  · exact h2 (by injection (Option.some.inj e))
/-- The block of a slice. -/
def ownB (A : Option Addr) (n c : Nat) : Option Nat := (Value.slice A n c).ownBlock
/-- The reference's store at q: its items, how often it was written; ok: where its rows may lie. -/
structure RefB (w : World) (q : Nat) (A : Option Addr) (c : Nat) (n : Int) (Lr : List CI) (ok : Nat → Prop) : Prop where
  blk : Blk w q [.slice A Lr.length c, .int .i64 n] 65
  row : Kd.R kCI 31 w 0 ok (.slice A Lr.length c) Lr
  rows : ∀ x ∈ Lr, RowR w ok x
/-- A block that no row and no list of the store's lies in. -/
def NoRef (w : World) (k : Nat) : Prop := NoRow w k ∧ ∀ cells, w.heap[k]? ≠ some (.cells cells 31 (0, 0))
theorem RefB.kept {w w' : World} {q : Nat} {A : Option Addr} {c : Nat} {n : Int} {Lr : List CI} {ok S : Nat → Prop} (h : RefB w q A c n Lr ok) (hk : Kept w w' S) (hq : ¬ S q) (hS : ∀ k, S k → ok k → NoRef w k) : RefB w' q A c n Lr ok :=
  ⟨(hk.2 q h.blk.lt hq).trans h.blk, R_keptT h.row rfl hk (fun k hs ho => (hS k hs ho).2), fun x hx => (h.rows x hx).kept hk (fun k hs ho => (hS k hs ho).1)⟩
theorem RefB.below {w w' : World} {q : Nat} {A : Option Addr} {c : Nat} {n : Int} {Lr : List CI} {ok : Nat → Prop} (h : RefB w q A c n Lr ok) (hb : Below w.heap.size w w') : RefB w' q A c n Lr ok :=
  h.kept (Kept.of_below hb (fun _ => False)) (fun e => e) (fun k e => e.elim)
theorem RefB.mono {w : World} {q : Nat} {A : Option Addr} {c : Nat} {n : Int} {Lr : List CI} {ok ok' : Nat → Prop} (h : RefB w q A c n Lr ok) (hf : ∀ k, ok k → k < w.heap.size → ok' k) : RefB w q A c n Lr ok' :=
  ⟨h.blk, Kd.R_mono (Kd.R_bound h.row) (fun k hk => hf k hk.1 hk.2.2.1), fun x hx => (h.rows x hx).mono hf⟩
theorem RefB.reads {w : World} {q : Nat} {A : Option Addr} {c : Nat} {n : Int} {Lr : List CI} {ok : Nat → Prop} (h : RefB w q A c n Lr ok) : Kd.C kCI w A Lr.length Lr := (Kd.R_reads' h.row).2.2
/-- What a call of the reference's may write. -/
def RefS (q : Nat) (A : Option Addr) : Nat → Prop := fun k => k = q ∨ ∃ ad, A = some ad ∧ k = ad.block
/-- What a call keeps, all told. -/
structure Keep (w W : World) (S : Nat → Prop) : Prop where
  le : w.heap.size ≤ W.heap.size
  blk : ∀ i, i < w.heap.size → ¬ S i → W.heap[i]? = w.heap[i]?
  os : W.os = w.os
  tape : W.tape = w.tape
  output : W.output = w.output
theorem Keep.kept {w W : World} {S : Nat → Prop} (h : Keep w W S) : Kept w W S := ⟨h.le, h.blk⟩
theorem Keep.refl (w : World) (S : Nat → Prop) : Keep w w S := ⟨Nat.le_refl _, fun _ _ _ => rfl, rfl, rfl, rfl⟩
theorem Keep.of_below {w W : World} (h : Below w.heap.size w W) (S : Nat → Prop) : Keep w W S := ⟨h.size, fun i hi _ => h.block i hi, h.os, h.tape, h.output⟩
theorem Keep.then_ {w W W2 : World} {S S2 : Nat → Prop} (h : Keep w W S) (k : Keep W W2 S2) (hs : ∀ k, S2 k → S k ∨ w.heap.size ≤ k) : Keep w W2 S :=
  ⟨Nat.le_trans h.1 k.1, fun i hi hn => (k.2 i (Nat.lt_of_lt_of_le hi h.1) (fun h2 => (hs i h2).elim hn (fun h3 => by omega))).trans (h.2 i hi hn), k.os.trans h.os, k.tape.trans h.tape, k.output.trans h.output⟩
theorem Keep.of_grown {w W W2 : World} {S : Nat → Prop} {row : Option Nat} (hg : W.grownBy W2 row) (h : Keep w W S) (hr : ∀ k, row = some k → S k ∨ w.heap.size ≤ k) : Keep w W2 S :=
  h.then_ (S2 := fun k => row = some k) ⟨hg.size, fun i hi hn => hg.block i hi (fun he => hn he.symm), hg.os, hg.tape, hg.output⟩ hr
theorem Keep.below {w W W2 : World} {S : Nat → Prop} (h : Keep w W S) (hb : Below W.heap.size W W2) : Keep w W2 S := h.then_ (Keep.of_below hb (fun _ => False)) (fun _ hk => hk.elim)
theorem Keep.drew {w W : World} {S : Nat → Prop} (h : Keep w W S) : Keep w W.drew S := ⟨h.le, h.blk, h.os, h.tape, h.output⟩
theorem Keep.toBelow {w0 w W : World} {S : Nat → Prop} {base : Nat} (h : Keep w W S) (hb : Below base w0 w) (hle : base ≤ w.heap.size) (hS : ∀ k, S k → base ≤ k) : Below base w0 W :=
  ⟨h.os.trans hb.os, h.tape.trans hb.tape, h.output.trans hb.output, Nat.le_trans hb.size h.le, fun i hi => (h.blk i (Nat.lt_of_lt_of_le hi hle) (fun hs => by have := hS i hs; omega)).trans (hb.block i hi)⟩
/-- What a call of the reference's leaves. -/
def RefTo (w w' : World) (q : Nat) (A : Option Addr) (ok : Nat → Prop) (L : List PI) (n : Int) : Prop :=
  ∃ A' c' Lr', RefB w' q A' c' n Lr' ok ∧ Lr'.map CI.pure = L ∧ Keep w w' (RefS q A) ∧ ∀ ad, A' = some ad → RefS q A ad.block ∨ w.heap.size ≤ ad.block
theorem RefB.to {w w' : World} {q : Nat} {A : Option Addr} {c : Nat} {n : Int} {Lr : List CI} {ok : Nat → Prop} (h : RefB w q A c n Lr ok) (hb : Below w.heap.size w w') : RefTo w w' q A ok (Lr.map CI.pure) n :=
  ⟨A, c, Lr, h.below hb, rfl, Keep.of_below hb _, fun ad e => .inl (.inr ⟨ad, e, rfl⟩)⟩
/-! ### the reference's answers -/
def rI (kind : Int) (nm : ByteArray) : List PI → Nat → Int
  | [], _ => -1
  | x :: r, i => if x.kind = kind ∧ x.name.toList = nm.toList then (i : Int) else rI kind nm r (i + 1)
theorem rI_cons (kind : Int) (nm : ByteArray) (x : PI) (r : List PI) (i : Nat) : rI kind nm (x :: r) i = if x.kind = kind ∧ x.name.toList = nm.toList then (i : Int) else rI kind nm r (i + 1) := rfl
theorem rI_cases (kind : Int) (nm : ByteArray) : ∀ (L : List PI) (i : Nat), rI kind nm L i = -1 ∨ ∃ j, ∃ h : j < L.length, rI kind nm L i = ((i + j : Nat) : Int) ∧ L[j].kind = kind ∧ L[j].name.toList = nm.toList
  | [], i => .inl rfl
  | x :: r, i => by
    rw [rI_cons]
    by_cases hc : x.kind = kind ∧ x.name.toList = nm.toList
    · rw [if_pos hc]
      exact .inr ⟨0, by simp, rfl, hc.1, hc.2⟩
    · rw [if_neg hc]
      rcases rI_cases kind nm r (i + 1) with h | ⟨j, hj, h, h1, h2⟩
      · exact .inl h
      · exact .inr ⟨j + 1, by simp; omega, by rw [h]; congr 1; omega, h1, h2⟩
end Go.Proofs.Ytmankbhlgjgnbaa.PAll
end
section
/-! The reference's store: find. -/
namespace Go.Proofs.Ytmankbhlgjgnbaa.PAll
open Go.RowKit Go.Proofs.YtmankbhlgjgnbaaW.PrintWords Go.Proofs.YtmankbhlgjgnbaaW.PrintLast Go.Proofs.YtmankbhlgjgnbaaW.PrintMore Mem
set_option linter.unusedVariables false
set_option linter.unusedSimpArgs false
set_option maxHeartbeats 4000000 in
set_option maxRecDepth 100000 in
theorem rfind.calls (w : World) (q : Nat) (A : Option Addr) (c : Nat) (n : Int) (L : List CI) (kind : Int) (nm : ByteArray) (hq : Blk w q [.slice A L.length c, .int .i64 n] 65) (hr : Kd.C kCI w A L.length L) (hl : L.length ≤ 1000) :
    Calls Try.prog 35 #[.pointer (some ⟨q, 0, none⟩), .int .i64 kind, .string nm] w fun e w' => e = .returned (.int .i64 (rI kind nm (L.map CI.pure) 0)) ∧ Below w.heap.size w w' := by
  have HR := Aside0.mk hr
  have HLEN := Aside0.mk hl
  have c0 : w.cell? ⟨q, 0, none⟩ = some (.slice A L.length c) := hq.cell 0
  clear hq hr hl
  go_enter Try.func35, Try.ntmps35
  go_wp2
  go_loopg [14] (L.length + 1) (fun kq v14 w' => ∃ (i : Nat), v14 = .int .i64 (i : Int) ∧ Aside0 (kq + i = L.length + 1) ∧ Aside0 (i ≤ L.length) ∧ Aside0 (rI kind nm ((L.drop i).map CI.pure) i = rI kind nm (L.map CI.pure) 0) ∧ Aside0 (Below w.heap.size w w'))
  case atStart => exact ⟨0, rfl, ⟨rfl⟩, ⟨Nat.zero_le _⟩, ⟨rfl⟩, ⟨Below.refl _ _⟩⟩
  case round =>
    clear c0
    obtain ⟨i, rfl, HK, HI_, HREF, HB⟩ := hrel
    cases gk with
    | zero => exact absurd HK.out (by have := HI_.out; omega)
    | succ k1 =>
      by_cases c5 : i < L.length
      · have c5' : (i : Int) < (L.length : Int) := by omega
        have p0 : (0 : Int) ≤ (i : Int) := by omega
        obtain ⟨ad, e1, hx0, hx1, hx2, hx3, hx4, hx5⟩ := at_ci HR.out i c5
        cases e1
        replace hx0 := pw_cell_below HB.out hx0
        replace hx1 := pw_cell_below HB.out hx1
        replace hx2 := pw_cell_below HB.out hx2
        replace hx3 := pw_cell_below HB.out hx3
        replace hx4 := pw_cell_below HB.out hx4
        replace hx5 := pw_cell_below HB.out hx5
        have hd : L.drop i = L[i] :: L.drop (i + 1) := List.drop_eq_getElem_cons c5
        have HD := Aside0.mk hd
        clear hd
        generalize L[i] = x at *
        replace p0 := eq_true p0
        have hiw : wrap64 ((i : Int) + 1) = ((i + 1 : Nat) : Int) := w_succ (by have := HLEN.out; omega)
        by_cases k1b : x.kind = kind
        · have q1 : (x.kind == kind) = true := beq_iff_eq.2 k1b
          have K1B := Aside0.mk k1b
          clear k1b
          by_cases k2b : x.name.toList = nm.toList
          · have q2 : (x.name.toList == nm.toList) = true := beq_iff_eq.2 k2b
            have K2B := Aside0.mk k2b
            clear k2b
            go_wp2_with (first
              | ((with_reducible refine gate_dst (N := 8) rfl ?_); refine new_at rfl (t := 31) rfl noItem.cells (itemV noItem) (fun W => zero_item W) rfl ?_; intro g8 hg w1 hk hb
                 have BZ8 := Aside0.mk hk; have XA8 := Aside0.mk hb; have G8 : Aside0 (wr.heap.size ≤ g8) := Aside0.mk (by omega); clear hk hb hg)
              | ((with_reducible refine gate_store (p := 8) rfl ?_); refine store_at rfl (t := 31) rfl rfl g8 0 _ 31 _ rfl rfl BZ8.out x.cells rfl size_item (show (6 : Nat) ≤ 6 from Nat.le_refl 6) (cells_one _) ?_; intro w2 hk hg
                 have BI8 : Aside0 (Blk w2 g8 x.cells 31) := Aside0.mk hk
                 have XB8 := Aside0.mk (pw_below_grown XA8.out (some g8) XA8.out.size hg (fun k e => by cases e; exact G8.out))
                 have y0 : w2.cell? ⟨g8, 0, none⟩ = some (.int .i64 x.kind) := BI8.out.cell 0; have y1 : w2.cell? ⟨g8, 1, none⟩ = some (.string x.name) := BI8.out.cell 1
                 have HB2 := Aside0.mk (below_then HB.out HB.out.size XB8.out); clear hk hg))
            go_ret
            refine ⟨?_, HB2.out⟩
            have h := HREF.out
            rw [HD.out, List.map_cons, rI_cons, if_pos (show x.pure.kind = kind ∧ x.pure.name.toList = nm.toList from ⟨K1B.out, K2B.out⟩)] at h
            rw [← h]
            rfl
          · have q2 : (x.name.toList == nm.toList) = false := beq_eq_false_iff_ne.2 k2b
            have K2B := Aside0.mk k2b
            clear k2b
            go_wp2_with (first
              | ((with_reducible refine gate_dst (N := 8) rfl ?_); refine new_at rfl (t := 31) rfl noItem.cells (itemV noItem) (fun W => zero_item W) rfl ?_; intro g8 hg w1 hk hb
                 have BZ8 := Aside0.mk hk; have XA8 := Aside0.mk hb; have G8 : Aside0 (wr.heap.size ≤ g8) := Aside0.mk (by omega); clear hk hb hg)
              | ((with_reducible refine gate_store (p := 8) rfl ?_); refine store_at rfl (t := 31) rfl rfl g8 0 _ 31 _ rfl rfl BZ8.out x.cells rfl size_item (show (6 : Nat) ≤ 6 from Nat.le_refl 6) (cells_one _) ?_; intro w2 hk hg
                 have BI8 : Aside0 (Blk w2 g8 x.cells 31) := Aside0.mk hk
                 have XB8 := Aside0.mk (pw_below_grown XA8.out (some g8) XA8.out.size hg (fun k e => by cases e; exact G8.out))
                 have y0 : w2.cell? ⟨g8, 0, none⟩ = some (.int .i64 x.kind) := BI8.out.cell 0; have y1 : w2.cell? ⟨g8, 1, none⟩ = some (.string x.name) := BI8.out.cell 1
                 have HB2 := Aside0.mk (below_then HB.out HB.out.size XB8.out); clear hk hg))
            go_roundg k1
            case measure => have := HK.out; omega
            case rel => exact ⟨i + 1, (by first | rfl | (simp; done) | (simp [*]; done)), ⟨by have := HK.out; omega⟩, ⟨by omega⟩, ⟨by have h := HREF.out; rw [HD.out, List.map_cons, rI_cons, if_neg (show ¬ (x.pure.kind = kind ∧ x.pure.name.toList = nm.toList) from fun e => K2B.out e.2)] at h; exact h⟩, HB2⟩
        · have q1 : (x.kind == kind) = false := beq_eq_false_iff_ne.2 k1b
          have K1B := Aside0.mk k1b
          clear k1b
          go_wp2_with (first
            | ((with_reducible refine gate_dst (N := 8) rfl ?_); refine new_at rfl (t := 31) rfl noItem.cells (itemV noItem) (fun W => zero_item W) rfl ?_; intro g8 hg w1 hk hb
               have BZ8 := Aside0.mk hk; have XA8 := Aside0.mk hb; have G8 : Aside0 (wr.heap.size ≤ g8) := Aside0.mk (by omega); clear hk hb hg)
            | ((with_reducible refine gate_store (p := 8) rfl ?_); refine store_at rfl (t := 31) rfl rfl g8 0 _ 31 _ rfl rfl BZ8.out x.cells rfl size_item (show (6 : Nat) ≤ 6 from Nat.le_refl 6) (cells_one _) ?_; intro w2 hk hg
               have BI8 : Aside0 (Blk w2 g8 x.cells 31) := Aside0.mk hk
               have XB8 := Aside0.mk (pw_below_grown XA8.out (some g8) XA8.out.size hg (fun k e => by cases e; exact G8.out))
               have y0 : w2.cell? ⟨g8, 0, none⟩ = some (.int .i64 x.kind) := BI8.out.cell 0; have y1 : w2.cell? ⟨g8, 1, none⟩ = some (.string x.name) := BI8.out.cell 1
               have HB2 := Aside0.mk (below_then HB.out HB.out.size XB8.out); clear hk hg))
          go_roundg k1
          case measure => have := HK.out; omega
          case rel => exact ⟨i + 1, (by first | rfl | (simp; done) | (simp [*]; done)), ⟨by have := HK.out; omega⟩, ⟨by omega⟩, ⟨by have h := HREF.out; rw [HD.out, List.map_cons, rI_cons, if_neg (show ¬ (x.pure.kind = kind ∧ x.pure.name.toList = nm.toList) from fun e => K1B.out e.1)] at h; exact h⟩, HB2⟩
      · have c5' : ¬ (i : Int) < (L.length : Int) := by omega
        go_wp2
        go_ret
        refine ⟨?_, HB.out⟩
        have h := HREF.out
        rw [List.drop_of_length_le (by omega)] at h
        rw [← h]
        rfl
end Go.Proofs.Ytmankbhlgjgnbaa.PAll
end
section
/-! The reference's store: Get. -/
namespace Go.Proofs.Ytmankbhlgjgnbaa.PAll
open Go.RowKit Go.Proofs.YtmankbhlgjgnbaaW.PrintWords Go.Proofs.YtmankbhlgjgnbaaW.PrintLast Go.Proofs.YtmankbhlgjgnbaaW.PrintMore Mem
set_option linter.unusedVariables false
set_option linter.unusedSimpArgs false
set_option maxHeartbeats 4000000 in
set_option maxRecDepth 100000 in
theorem rget_none.calls (w : World) (q : Nat) (A : Option Addr) (c : Nat) (n : Int) (L : List CI) (kind : Int) (nm : ByteArray) (hq : Blk w q [.slice A L.length c, .int .i64 n] 65) (hr : Kd.C kCI w A L.length L) (hl : L.length ≤ 1000) (hI : rI kind nm (L.map CI.pure) 0 = -1) :
    Calls Try.prog 18 #[.pointer (some ⟨q, 0, none⟩), .int .i64 kind, .string nm] w fun e w' => e = .returned (.tuple #[itemV noItem, .int .i64 5]) ∧ Below w.heap.size w w' := by
  have HR := Aside0.mk hr
  have HQ := Aside0.mk hq
  have HII := Aside0.mk hI
  clear hr hq hI
  go_enter Try.func18, Try.ntmps18
  go_wp2_with (first
    | ((with_reducible refine gate_dst (N := 6) rfl ?_); refine new_at rfl (t := 31) rfl noItem.cells (itemV noItem) (fun W => zero_item W) rfl ?_; intro g6 hg w1 hk hb
       have BZ6 := Aside0.mk hk; have X1 := Aside0.mk hb; have HQ1 := Aside0.mk (HQ.out.below hb); have G6 : Aside0 (w.heap.size ≤ g6) := Aside0.mk (by omega); clear hk hb hg)
    | (go_at_call 35; refine (show Calls Try.prog 35 #[.pointer (some ⟨q, 0, none⟩), .int .i64 kind, .string nm] w1 fun e w' => e = .returned (.int .i64 (-1)) ∧ Below w1.heap.size w1 w' from by have h := rfind.calls w1 q A c n L kind nm HQ1.out (Kd.C_below HR.out X1.out) hl; rw [HII.out] at h; exact h).mono ?_; rintro e w2 ⟨rfl, hb⟩
       have BZ2 := Aside0.mk (BZ6.out.below hb); have X2 := Aside0.mk (below_then X1.out X1.out.size hb); have HQ2 := Aside0.mk (HQ1.out.below hb); clear hb
       have c0 : w2.cell? ⟨q, 0, none⟩ = some (.slice A L.length c) := HQ2.out.cell 0)
    | ((with_reducible refine gate_store (p := 6) rfl ?_); refine store_at rfl (t := 31) rfl rfl g6 0 _ 31 _ rfl rfl BZ2.out noItem.cells rfl size_item (show (6 : Nat) ≤ 6 from Nat.le_refl 6) (cells_one _) ?_; intro w9 hk hg
       have BL := Aside0.mk hk; have X9 := Aside0.mk (pw_below_grown X2.out (some g6) X2.out.size hg (fun k e => by cases e; exact G6.out)); clear hk hg))
  have BE : Blk w9 g6 noItem.cells 31 := BL.out
  (try simp only [Exit.inBlock, Exit.then])
  exact bodyPost_ret (res_item2 rfl _ _ g6 _ rfl BE rfl) rfl ⟨rfl, X9.out⟩
set_option maxHeartbeats 4000000 in
set_option maxRecDepth 100000 in
theorem rget_some.calls (w : World) (q : Nat) (A : Option Addr) (c : Nat) (n : Int) (L : List CI) (kind : Int) (nm : ByteArray) (i : Nat) (hi : i < L.length) (hq : Blk w q [.slice A L.length c, .int .i64 n] 65) (hr : Kd.C kCI w A L.length L) (hl : L.length ≤ 1000) (hf : Fits L[i]) (hrow : RowOK w L[i]) (hI : rI kind nm (L.map CI.pure) 0 = (i : Int)) :
    Calls Try.prog 18 #[.pointer (some ⟨q, 0, none⟩), .int .i64 kind, .string nm] w fun e w' => ∃ y : CI, e = .returned (.tuple #[itemV y, .int .i64 0]) ∧ RowNew w' w.heap.size y ∧ y.pure = L[i].pure ∧ Below w.heap.size w w' := by
  have HR := Aside0.mk hr
  have HQ := Aside0.mk hq
  have HII := Aside0.mk hI
  have i0 : (0 : Int) ≤ (i : Int) := by omega
  have i1 : (i : Int) < (L.length : Int) := by omega
  obtain ⟨ad, rfl, hx0, hx1, hx2, hx3, hx4, hx5⟩ := at_ci hr i hi
  clear hr hq hI
  have HROW : Aside0 (RowOK w L[i]) := Aside0.mk hrow
  have HFF : Aside0 (Fits L[i]) := Aside0.mk hf
  clear hf hrow
  have HL := Aside0.mk hl
  generalize L[i] = x at *
  go_enter Try.func18, Try.ntmps18
  go_wp2_with (first
    | ((with_reducible refine gate_dst (N := 6) rfl ?_); refine new_at rfl (t := 31) rfl noItem.cells (itemV noItem) (fun W => zero_item W) rfl ?_; intro g6 hg w1 hk hb
       have BZ6 := Aside0.mk hk; have X1 := Aside0.mk hb; have HQ1 := Aside0.mk (HQ.out.below hb); have G6 : Aside0 (w.heap.size ≤ g6) := Aside0.mk (by omega); clear hk hb hg)
    | (go_at_call 35; refine (show Calls Try.prog 35 #[.pointer (some ⟨q, 0, none⟩), .int .i64 kind, .string nm] w1 fun e w' => e = .returned (.int .i64 ((i : Int))) ∧ Below w1.heap.size w1 w' from by have h := rfind.calls w1 q (some ad) c n L kind nm HQ1.out (Kd.C_below HR.out X1.out) hl; rw [HII.out] at h; exact h).mono ?_; rintro e w2 ⟨rfl, hb⟩
       have BZ2 := Aside0.mk (BZ6.out.below hb); have X2 := Aside0.mk (below_then X1.out X1.out.size hb); have HQ2 := Aside0.mk (HQ1.out.below hb); clear hb
       have c0 : w2.cell? ⟨q, 0, none⟩ = some (.slice (some ad) L.length c) := HQ2.out.cell 0
       have z0 := pw_cell_below X2.out hx0; have z1 := pw_cell_below X2.out hx1; have z2 := pw_cell_below X2.out hx2; have z3 := pw_cell_below X2.out hx3; have z4 := pw_cell_below X2.out hx4; have z5 := pw_cell_below X2.out hx5)
    | (go_at_call 36; refine (rcopy.calls x _ (HROW.out.below X2.out) HFF.out).mono ?_; rintro e w3 ⟨y, rfl, hy, hyp, hb⟩
       have HY3 := Aside0.mk hy; have HYP := Aside0.mk hyp; have BZ3 := Aside0.mk (BZ2.out.below hb); have X3 := Aside0.mk (below_then X2.out X2.out.size hb); clear hy hyp hb)
    | ((with_reducible refine gate_store (p := 6) rfl ?_); refine store_at rfl (t := 31) rfl rfl g6 0 _ 31 _ rfl rfl BZ3.out y.cells rfl size_item (show (6 : Nat) ≤ 6 from Nat.le_refl 6) (cells_one _) ?_; intro w9 hk hg
       have BL := Aside0.mk hk; have X9 := Aside0.mk (pw_below_grown X3.out (some g6) X3.out.size hg (fun k e => by cases e; exact G6.out)); have HY9 := Aside0.mk (HY3.out.grown hg (by have h1 := BZ2.out.lt; omega)); clear hk hg))
  have BE : Blk w9 g6 y.cells 31 := BL.out
  (try simp only [Exit.inBlock, Exit.then])
  exact bodyPost_ret (res_item2 rfl _ _ g6 _ rfl BE rfl) rfl ⟨y, rfl, HY9.out.lower X2.out.size, HYP.out, X9.out⟩
end Go.Proofs.Ytmankbhlgjgnbaa.PAll
end
section
/-! The reference's store: steps. -/
namespace Go.Proofs.Ytmankbhlgjgnbaa.PAll
open Go.RowKit Go.Proofs.YtmankbhlgjgnbaaW.PrintWords Go.Proofs.YtmankbhlgjgnbaaW.PrintLast Go.Proofs.YtmankbhlgjgnbaaW.PrintMore Mem
set_option linter.unusedVariables false
set_option linter.unusedSimpArgs false
theorem infoItem_ : (Try.prog.info? 31).map (fun i => (i.zero, i.size, i.bytes)) = some (some (itemV noItem), 6, 88) := by kernel_rfl
theorem size_slice63 : (Try.prog.info? 63).map (·.size) = some 1 := by kernel_rfl
theorem size_string : (Try.prog.info? 9).map (·.size) = some 1 := by kernel_rfl
section
variable {w w' w2 w3 : World} {q : Nat} {A A' : Option Addr} {c c' : Nat} {n m : Int} {Lr Lr' : List CI} {ok : Nat → Prop}
theorem Kept.of_grown1 {row : Option Nat} {S : Nat → Prop} (hg : w.grownBy w' row) (hr : ∀ k, row = some k → S k) : Kept w w' S := ⟨hg.size, fun i hi hn => hg.block i hi (fun e => hn (hr i e.symm))⟩
/-- A row that the reference holds is not in its own variable's block. -/
theorem RefB.rowq (h : RefB w q A c n Lr ok) : ∀ k, (Value.slice A Lr.length c).ownBlock = some k → k ≠ q := by
  intro k hk e
  subst e
  obtain ⟨cells, hc⟩ := Kd.R_typed h.row k hk
  have := h.blk
  unfold Blk at this
  rw [hc] at this
  cases this
/-- The variable's block is written: its number. -/
theorem RefB.setQ (h : RefB w q A c n Lr ok) (hb : Blk w' q [.slice A Lr.length c, .int .i64 m] 65) (hg : w.grownBy w' (some q)) : RefB w' q A c m Lr ok := by
  have hk : Kept w w' (fun k => k = q) := Kept.of_grown1 hg (fun k e => (Option.some.inj e).symm)
  have hq : NoRef w q := ⟨Blk.noRow h.blk (by decide) (by decide), fun cells e => by have h1 := h.blk; unfold Blk at h1; rw [h1] at e; cases e⟩
  exact ⟨hb, R_keptT h.row rfl hk (fun k e _ => by subst e; exact hq.2), fun x hx => (h.rows x hx).kept hk (fun k e _ => by subst e; exact hq.1)⟩
/-- .. or the list itself, which is made elsewhere. -/
theorem RefB.setL (h : RefB w q A c n Lr ok) (hb : Blk w' q [.slice A' Lr'.length c', .int .i64 m] 65) (hg : w.grownBy w' (some q)) (hrow : Kd.R kCI 31 w 0 ok (.slice A' Lr'.length c') Lr') (hrows : ∀ x ∈ Lr', RowR w ok x) : RefB w' q A' c' m Lr' ok := by
  have hk : Kept w w' (fun k => k = q) := Kept.of_grown1 hg (fun k e => (Option.some.inj e).symm)
  have hq : NoRef w q := ⟨Blk.noRow h.blk (by decide) (by decide), fun cells e => by have h1 := h.blk; unfold Blk at h1; rw [h1] at e; cases e⟩
  exact ⟨hb, R_keptT hrow rfl hk (fun k e _ => by subst e; exact hq.2), fun x hx => (hrows x hx).kept hk (fun k e _ => by subst e; exact hq.1)⟩
theorem RefB.setL' {cur : List Value} (h : Blk w q cur 65) (hb : Blk w' q [.slice A' Lr'.length c', .int .i64 m] 65) (hg : w.grownBy w' (some q)) (hrow : Kd.R kCI 31 w 0 ok (.slice A' Lr'.length c') Lr') (hrows : ∀ x ∈ Lr', RowR w ok x) : RefB w' q A' c' m Lr' ok := by
  have hk : Kept w w' (fun k => k = q) := Kept.of_grown1 hg (fun k e => (Option.some.inj e).symm)
  have hq : NoRef w q := ⟨Blk.noRow h (by decide) (by decide), fun cells e => by have h1 := h; unfold Blk at h1; rw [h1] at e; cases e⟩
  exact ⟨hb, R_keptT hrow rfl hk (fun k e _ => by subst e; exact hq.2), fun x hx => (hrows x hx).kept hk (fun k e _ => by subst e; exact hq.1)⟩
theorem RefS.own {l k : Nat} (e : (Value.slice A l c).ownBlock = some k) : RefS q A k := by
  cases A with
  | none => simp [Value.ownBlock] at e
  | some ad => exact .inr ⟨ad, rfl, by simpa [Value.ownBlock] using e.symm⟩
/-- Bytes that are read are kept where none are written. -/
theorem C_keptB {A0 : Option Addr} {B : List Int} {S : Nat → Prop} (h : (Kd.int .u8).C w A0 B.length B) (hk : Kept w w' S) (hS : B ≠ [] → ∀ ad, A0 = some ad → ¬ S ad.block) : (Kd.int .u8).C w' A0 B.length B :=
  ⟨h.1, h.2.1, fun hn => by
    obtain ⟨ad, e, hc⟩ := h.2.2 hn
    have hne : B ≠ [] := fun e => by rw [e] at hn; exact absurd hn (Nat.lt_irrefl 0)
    refine ⟨ad, e, fun j q hj => ?_⟩
    obtain ⟨c, hcl, hkk, hcell⟩ := hc j q hj
    refine ⟨c, hcl, hkk, fun i u hu => ?_⟩
    have hu2 := hcell i u hu
    have hlt := World.block_lt_of_cell? w _ hu2
    refine (World.cell?_of_block (hk.2 _ hlt ?_)).trans hu2
    rw [add_block]
    exact hS hne ad e⟩
/-- A block of the list's type is no row's. -/
theorem noRow_item {k : Nat} {cells : Array Value} (h : w.heap[k]? = some (.cells cells 31 (0, 0))) : NoRow w k := fun cs => by
  rw [h]
  exact ⟨fun e => (by cases e), fun e => (by cases e)⟩
theorem RowR.grownL {x : CI} {v : Value} {L : List CI} {okl : Nat → Prop} {base : Nat} (h : RowR w ok x) (hrow : Kd.R kCI 31 w base okl v L) (hg : w.grownBy w' v.ownBlock) : RowR w' ok x :=
  h.kept (Kept.of_grown1 (S := fun k => v.ownBlock = some k) hg (fun k e => e)) (fun k hk _ => by obtain ⟨cells, hc⟩ := Kd.R_typed hrow k hk; exact noRow_item hc)
/-- An element of the list is written. -/
theorem RefB.setE {g : Nat} (h : RefB w q (some ⟨g, 0, none⟩) c n Lr ok) (hrow : Kd.R kCI 31 w' 0 ok (.slice (some ⟨g, 0, none⟩) Lr.length c) Lr') (hl : Lr'.length = Lr.length) (hg : w.grownBy w' (some g)) (hrows : ∀ x ∈ Lr', RowR w ok x) : RefB w' q (some ⟨g, 0, none⟩) c n Lr' ok := by
  have hgo : (Value.slice (some ⟨g, 0, none⟩) Lr.length c).ownBlock = some g := by simp [Value.ownBlock]
  have hq : g ≠ q := h.rowq g hgo
  obtain ⟨cells, hc⟩ := Kd.R_typed h.row g hgo
  have hk : Kept w w' (fun k => k = g) := Kept.of_grown1 hg (fun k e => (Option.some.inj e).symm)
  refine ⟨?_, by rw [hl]; exact hrow, fun x hx => (hrows x hx).kept hk (fun k e _ => by subst e; exact noRow_item hc)⟩
  rw [hl]
  exact (hg.block q h.blk.lt (fun e => hq (Option.some.inj e).symm)).trans h.blk
theorem RefB.fresh {x : CI} {base : Nat} (h : RowNew w' base x) (hb : w.heap.size ≤ base) (hf : ∀ k, w.heap.size ≤ k → ok k) : RowR w' ok x := RowR.of_new h (fun k hk => hf k (Nat.le_trans hb hk))
theorem ref_mem_set {i : Nat} {y : CI} {P : CI → Prop} (h : ∀ x ∈ Lr, P x) (hy : P y) : ∀ x ∈ Lr.set i y, P x := fun x hx => by
  rcases List.mem_or_eq_of_mem_set hx with hx | rfl
  · exact h x hx
  · exact hy
theorem map_set_ci (i : Nat) (y : CI) : (Lr.set i y).map CI.pure = (Lr.map CI.pure).set i y.pure := List.map_set
end
theorem RefB.drew {w : World} {q : Nat} {A : Option Addr} {c : Nat} {n : Int} {Lr : List CI} {ok : Nat → Prop} (h : RefB w q A c n Lr ok) : RefB w.drew q A c n Lr ok :=
  h.kept (show Kept w w.drew (fun _ => False) from Kept.refl w _) (fun e => e) (fun k e => e.elim)
theorem cell_al {w : World} {a : Addr} {v : Value} {o : Obj} (h : w.cell? a = some v) : (w.alloc o).cell? a = some v := (World.cell?_alloc_lt _ _ _ (World.block_lt_of_cell? _ _ h)).trans h
section
variable {P : Program} {ops : Array Oper} {o : Oper} {a : Act} {Q : Exit → Act → World → Prop} {K : Act → World → Prop} {w : World}
/-- A store at a step of a region that draws its order. -/
theorem store_reg (hw : Region.wanted o (yielded ops a.tmps) = true) (hN : o.dst = none) {t : TypeId} {p x : Operand} (ho : o.op = .store t p x) (g i : Nat) (cur : List Value) (tt : TypeId) (v : Value) (hp : a.eval p = .pointer (some ⟨g, i, none⟩)) (hx : a.eval x = v)
    (hb : Blk w g cur tt) (cs : List Value) (hcs : v.cells.toList = cs) (hi : (P.info? t).map (·.size) = some cs.length) (hfit : i + cs.length ≤ cur.length) (h1 : ∀ u ∈ cs, u.oneCell' = true)
    (h : ∀ w', Blk w' g (cur.take i ++ cs ++ cur.drop (i + cs.length)) tt → w.grownBy w' (some g) → K a w') : if Region.wanted o (yielded ops a.tmps) = true then Oper.wp P o a w K Q else K (a.put none undef) w := by
  have hst := run_storeCells_at P g i tt cs 0 cur.toArray w hb (by simpa using hfit) h1
  have hv : v.cells.size = cs.length := by rw [← hcs, Array.length_toList]
  have hb2 := Blk.set hb (cur.take i ++ cs ++ cur.drop (i + cs.length))
  have hgr : w.grownBy (w.setRow g (cur.take i ++ cs ++ cur.drop (i + cs.length)).toArray) (some g) :=
    ⟨rfl, rfl, rfl, by simp [World.setRow], fun k _ hk => setRow_other w g k _ (fun e => hk (by rw [e]))⟩
  have hst2 : (storeCells ⟨g, i, none⟩ cs).run P w = .ok () (w.setRow g (cur.take i ++ cs ++ cur.drop (i + cs.length)).toArray) := by simpa using hst
  refine skip_ (w1 := w.setRow g (cur.take i ++ cs ++ cur.drop (i + cs.length)).toArray) hw hN ?_ (h _ hb2 hgr)
  cases hq : P.info? t with
  | none => simp [hq] at hi
  | some inf =>
    have hs : inf.size = cs.length := by simpa [hq] using hi
    simp [execOp, ho, hp, hx, Instr.storeAt, Instr.sureAddr, storeVar, sizeOf, typeInfo, hq, hs, hv, hcs, hst2, Result.andThen]
/-- A field of an element of an own row is written, at such a step. -/
theorem elem_reg (hw : Region.wanted o (yielded ops a.tmps) = true) (hN : o.dst = none) {t : TypeId} {p x : Operand} (ho : o.op = .store t p x) {g n cap o' base : Nat} {ok : Nat → Prop} {xs : List CI} (i j : Nat) (x' : CI) (u : Value) (seg : List Value)
    (haddr : a.eval p = .pointer (some ⟨g, o', none⟩)) (hoff : o' = i * 6 + j) (hx : a.eval x = u) (hu : u.cells.toList = seg) (ht : (P.info? t).map (·.size) = some seg.length) (h1 : ∀ q ∈ seg, q.oneCell' = true)
    (HO : Kd.R kCI 31 w base ok (.slice (some ⟨g, 0, none⟩) n cap) xs) (hi : i < xs.length) (hj : j + seg.length ≤ 6) (hM : x'.cells = xs[i].cells.take j ++ seg ++ xs[i].cells.drop (j + seg.length))
    (h : ∀ w1, Kd.R kCI 31 w1 base ok (.slice (some ⟨g, 0, none⟩) n cap) (xs.set i x') → w.grownBy w1 (some g) → K a w1) : if Region.wanted o (yielded ops a.tmps) = true then Oper.wp P o a w K Q else K (a.put none undef) w := by
  subst hoff
  have hnx : n = xs.length := (Kd.R_reads' HO).1
  obtain ⟨g', eA, hcc⟩ := own_ci HO i hi
  obtain rfl : g = g' := by injection eA with e; injection e with e
  obtain ⟨hrow, hg⟩ := Kd.R_seg (d := kCI) HO (i : Int) (by omega) (by omega) (c := xs[i].cells) (seg := seg) (j := j) (x' := x') (okp := fun _ => False) rfl hcc hj hM.symm (fun _ hk => hk.elim)
  refine skip_ (w1 := w.setCells g (i * 6 + j) seg) hw hN ?_ (h _ hrow hg)
  obtain ⟨_, inner, hown, hr⟩ := HO
  rcases hown.2 with ⟨hv, _⟩ | ⟨g', cap', cur, hv, hb, hh, hnc, hcm, hcs, _⟩
  · cases hv
  injection hv with ha _ hc
  injection ha with ha
  injection ha with hg'
  subst hg'; subst hc
  have h2 : i * 6 + 6 ≤ n * 6 := by omega
  have h3 : n * 6 ≤ cur.size := by rw [hcs]; exact Nat.mul_le_mul_right _ (by rw [hnx]; exact hnc)
  have := run_store_run (P := P) t u seg hh hu ht (o := i * 6 + j) (by omega) h1
  simp [execOp, ho, haddr, hx, this, Result.andThen]
/-- .. and at an operation of a region that does not draw. -/
theorem elem_at {rest : List Oper} (hgd : o.guard = none) (hN : o.dst = none) {t : TypeId} {p : Tmp} {x : Operand} (ho : o.op = .store t (.tmp p) x) {g n cap o' base : Nat} {ok : Nat → Prop} {xs : List CI} (i j : Nat) (x' : CI) (u : Value) (seg : List Value)
    (haddr : a.eval (.tmp p) = .pointer (some ⟨g, o', none⟩)) (hoff : o' = i * 6 + j) (hx : a.eval x = u) (hu : u.cells.toList = seg) (ht : (P.info? t).map (·.size) = some seg.length) (h1 : ∀ q ∈ seg, q.oneCell' = true)
    (HO : Kd.R kCI 31 w base ok (.slice (some ⟨g, 0, none⟩) n cap) xs) (hi : i < xs.length) (hj : j + seg.length ≤ 6) (hM : x'.cells = xs[i].cells.take j ++ seg ++ xs[i].cells.drop (j + seg.length))
    (h : ∀ w1, Kd.R kCI 31 w1 base ok (.slice (some ⟨g, 0, none⟩) n cap) (xs.set i x') → w.grownBy w1 (some g) → wpList P ops Q rest a w1) : wpList P ops Q (o :: rest) a w := by
  subst hoff
  have hnx : n = xs.length := (Kd.R_reads' HO).1
  obtain ⟨g', eA, hcc⟩ := own_ci HO i hi
  obtain rfl : g = g' := by injection eA with e; injection e with e
  obtain ⟨hrow, hg⟩ := Kd.R_seg (d := kCI) HO (i : Int) (by omega) (by omega) (c := xs[i].cells) (seg := seg) (j := j) (x' := x') (okp := fun _ => False) rfl hcc hj hM.symm (fun _ hk => hk.elim)
  refine store_event hgd ho hN (w1 := w.setCells g (i * 6 + j) seg) ?_ (fun w' e => by subst e; exact h _ hrow hg)
  obtain ⟨_, inner, hown, hr⟩ := HO
  rcases hown.2 with ⟨hv, _⟩ | ⟨g', cap', cur, hv, hb, hh, hnc, hcm, hcs, _⟩
  · cases hv
  injection hv with ha _ hc
  injection ha with ha
  injection ha with hg'
  subst hg'; subst hc
  have h2 : i * 6 + 6 ≤ n * 6 := by omega
  have h3 : n * 6 ≤ cur.size := by rw [hcs]; exact Nat.mul_le_mul_right _ (by rw [hnx]; exact hnc)
  have := run_store_run (P := P) t u seg hh hu ht (o := i * 6 + j) (by omega) h1
  simp [execOp, ho, haddr, hx, this, Result.andThen]
end
theorem run_build1 {o : Oper} {a : Act} {x : Operand} (w : World) (y : CI) (ho : o.op = .buildSlice 63 1 #[(0, x)]) (hx : a.eval x = itemV y) :
    (execOp a.eval o).run Try.prog w = .ok (.value (.slice (some ⟨w.heap.size, 0, none⟩) 1 1)) (w.alloc (.cells y.cells.toArray 31)) := by
  simp only [execOp, ho, List.map_toArray, List.map_cons, List.map_nil, hx]
  unfold itemV CI.cells
  go_simp
/-- The cells of an element of an own row. -/
theorem elem_cells {w : World} {base g n c : Nat} {ok : Nat → Prop} {xs : List CI} (h : Kd.R kCI 31 w base ok (.slice (some ⟨g, 0, none⟩) n c) xs) (i : Nat) (hi : i < xs.length) (x : CI) (hx : xs[i] = x) :
    w.cell? ⟨g, i * 6, none⟩ = some (.int .i64 x.kind) ∧ w.cell? ⟨g, i * 6 + 1, none⟩ = some (.string x.name) ∧ w.cell? ⟨g, i * 6 + 2, none⟩ = some (.int .i64 x.ver) ∧ w.cell? ⟨g, i * 6 + 3, none⟩ = some (.slice x.ha x.H.length x.hc) ∧ w.cell? ⟨g, i * 6 + 4, none⟩ = some (.slice x.ba x.B.length x.bc) ∧ w.cell? ⟨g, i * 6 + 5, none⟩ = some (.bool x.going) := by
  obtain ⟨g', e, hc⟩ := own_ci h i hi
  have eg : g = g' := by injection e with e; injection e with e
  subst eg
  subst hx
  exact ⟨hc 0 _ rfl, hc 1 _ rfl, hc 2 _ rfl, hc 3 _ rfl, hc 4 _ rfl, hc 5 _ rfl⟩
theorem RefB.setX {w w' : World} {q g c : Nat} {n : Int} {Lr : List CI} {ok : Nat → Prop} {i : Nat} {x' : CI} (h : RefB w q (some ⟨g, 0, none⟩) c n Lr ok) (hrow : Kd.R kCI 31 w' 0 ok (.slice (some ⟨g, 0, none⟩) Lr.length c) (Lr.set i x')) (hg : w.grownBy w' (some g)) (hx : RowR w ok x') : RefB w' q (some ⟨g, 0, none⟩) c n (Lr.set i x') ok :=
  h.setE hrow (List.length_set) hg (ref_mem_set h.rows hx)
theorem RowNew.grownL {w w' : World} {x : CI} {v : Value} {L : List CI} {okl : Nat → Prop} {base base' : Nat} (h : RowNew w base' x) (hrow : Kd.R kCI 31 w base okl v L) (hg : w.grownBy w' v.ownBlock) : RowNew w' base' x := by
  have hk : Kept w w' (fun k => v.ownBlock = some k) := Kept.of_grown1 hg (fun k e => e)
  refine ⟨R_keptT h.hr rfl hk (fun k e _ cells => ?_), R_keptT h.br rfl hk (fun k e _ cells => ?_)⟩
  · obtain ⟨cs, hc⟩ := Kd.R_typed hrow k e
    exact (noRow_item hc cells).1
  · obtain ⟨cs, hc⟩ := Kd.R_typed hrow k e
    exact (noRow_item hc cells).2
theorem own_refs {w : World} {q : Nat} {A : Option Addr} {l c m c2 N : Nat} {A' : Option Addr} {ad : Addr} (hN : w.heap.size ≤ N) (h : (Value.slice A' m c2).ownBlock = (Value.slice A l c).ownBlock ∨ ∃ b, (Value.slice A' m c2).ownBlock = some b ∧ N ≤ b) (hk : (Value.slice A' m c2).ownBlock = some ad.block) : RefS q A ad.block ∨ w.heap.size ≤ ad.block := by
  rcases h with h | ⟨b, h, hb⟩
  · rw [hk] at h
    exact .inl (RefS.own h.symm)
  · rw [hk] at h
    obtain rfl := Option.some.inj h
    exact .inr (Nat.le_trans hN hb)
theorem own_next {v v' : Value} {N M : Nat} (hv : ∀ k, v.ownBlock = some k → N ≤ k) (hNM : N ≤ M) (h : v'.ownBlock = v.ownBlock ∨ ∃ b, v'.ownBlock = some b ∧ M ≤ b) {k : Nat} (hk : v'.ownBlock = some k) : N ≤ k := by
  rcases h with h | ⟨b, h, hb⟩
  · rw [h] at hk
    exact hv k hk
  · rw [h] at hk
    obtain rfl := Option.some.inj hk
    exact Nat.le_trans hNM hb
/-- What an own row's slice looks like. -/
theorem own_form {w : World} {e base n c : Nat} {ok : Nat → Prop} {A : Option Addr} {xs : List CI} (h : Kd.R kCI e w base ok (.slice A n c) xs) : (A = none ∧ c = 0 ∧ xs = []) ∨ ∃ g, A = some ⟨g, 0, none⟩ := by
  obtain ⟨_, inner, hown, _⟩ := h
  rcases hown.2 with ⟨hv, hn⟩ | ⟨g, cap, cur, hv, _⟩
  · injection hv with h1 h2 h3
    exact .inl ⟨h1, h3, List.eq_nil_of_length_eq_zero hn⟩
  · injection hv with h1 h2 h3
    exact .inr ⟨g, h1⟩
theorem build1_at {ops : Array Oper} {rest : List Oper} {o : Oper} {a : Act} {Q : Exit → Act → World → Prop} {w : World} (hgd : o.guard = none) {x : Operand} (ho : o.op = .buildSlice 63 1 #[(0, x)]) (y : CI) (hx : a.eval x = itemV y)
    (h : wpList Try.prog ops Q rest (a.put o.dst (.slice (some ⟨w.heap.size, 0, none⟩) 1 1)) (w.alloc (.cells y.cells.toArray 31))) : wpList Try.prog ops Q (o :: rest) a w :=
  Kd.event_run hgd (run_build1 w y ho hx) h
end Go.Proofs.Ytmankbhlgjgnbaa.PAll
end
