import Derived.Test.YtmankbhlgjgnbaaEHold
namespace Go.Proofs.Ytmankbhlgjgnbaa.PAll
open Go.RowKit Go.Proofs.YtmankbhlgjgnbaaW.PrintWords Go.Proofs.YtmankbhlgjgnbaaW.PrintLast Go.Proofs.YtmankbhlgjgnbaaW.PrintMore Mem
set_option linter.unusedVariables false
set_option linter.unusedSimpArgs false
section
variable {ops : Array Oper} {rest : List Oper} {o : Oper} {a : Act} {Q : Exit → Act → World → Prop} {w : World}
theorem byte1_at (hgd : o.guard = none) {x : Operand} (ho : o.op = .buildSlice 26 1 #[(0, x)]) (s : Int) (hx : a.eval x = .int .u8 s)
    (h : ∀ g, g = w.heap.size → ∀ w', Blk w' g [.int .u8 s] 5 → Below w.heap.size w w' → wpList Try.prog ops Q rest (a.put o.dst (.slice (some ⟨g, 0, none⟩) 1 1)) w') : wpList Try.prog ops Q (o :: rest) a w := by
  refine Kd.event_run hgd (v := .slice (some ⟨w.heap.size, 0, none⟩) 1 1) (w1 := w.alloc (.cells #[.int .u8 s] 5)) ?_ (h _ rfl _ (Blk.alloc_new w [.int .u8 s] 5) (below_alloc (Below.refl _ _) _))
  simp only [execOp, ho, List.map_toArray, List.map_cons, List.map_nil, hx]
  go_simp
end
theorem C_byte1 {W : World} {g : Nat} {s : Int} (h : Blk W g [.int .u8 s] 5) : (Kd.int .u8).C W (some ⟨g, 0, none⟩) 1 [s] := by
  refine ⟨rfl, by decide, fun _ => ⟨_, rfl, fun j q hj => ?_⟩⟩
  cases j with
  | succ j => simp at hj
  | zero =>
    obtain rfl := Option.some.inj hj
    refine ⟨[.int .u8 s], rfl, rfl, fun i u hu => ?_⟩
    have := h.cell i
    cases i with
    | succ i => simp at hu
    | zero => exact this.trans hu
section
variable {w : World} {p b : Nat} {s s' : St} {kind : Int} {nm who : ByteArray}
theorem Create.to {m e : Int} (A : Option Addr) (c : Nat) (B : List Int) (h : StoreE w p b s) (hn0 : 0 ≤ s.n) (hn1 : s.n < 1000000000) (hr : (Kd.int .u8).C w A B.length B) (hc : B.length ≤ c) (hv : createV s kind nm B = ((m, e), s')) :
    Calls Try.prog 11 #[ptrV p, .int .i64 kind, .string nm, .slice A B.length c] w fun e_ w' => e_ = .returned (.tuple #[.int .i64 m, .int .i64 e]) ∧ StoreE w' p b s' ∧ Chg w w' p b := by
  have := Create.calls w p b s kind nm A c B h hn0 hn1 hr hc
  rw [hv] at this
  exact this
theorem Update.to {m e : Int} {v : Int} (A : Option Addr) (c : Nat) (B : List Int) (h : StoreE w p b s) (hn0 : 0 ≤ s.n) (hn1 : s.n < 1000000000) (hr : (Kd.int .u8).C w A B.length B) (hc : B.length ≤ c) (hv : updateV s kind nm v B = ((m, e), s')) :
    Calls Try.prog 12 #[ptrV p, .int .i64 kind, .string nm, .int .i64 v, .slice A B.length c] w fun e_ w' => e_ = .returned (.tuple #[.int .i64 m, .int .i64 e]) ∧ StoreE w' p b s' ∧ Chg w w' p b := by
  have := Update.calls w p b s kind nm v A c B h hn0 hn1 hr hc
  rw [hv] at this
  exact this
theorem Delete.to {e v : Int} (h : StoreE w p b s) (hn0 : 0 ≤ s.n) (hn1 : s.n < 1000000000) (hv : deleteV s kind nm v = (e, s')) :
    Calls Try.prog 14 #[ptrV p, .int .i64 kind, .string nm, .int .i64 v] w fun e_ w' => e_ = .returned (.int .i64 e) ∧ StoreE w' p b s' ∧ Chg w w' p b := by
  have := Delete.calls w p b s kind nm v h hn0 hn1
  rw [hv] at this
  exact this
theorem Hold.to {e : Int} (h : StoreE w p b s) (hf : StSrt s) (hn0 : 0 ≤ s.n) (hn1 : s.n < 1000000000) (hv : holdV s kind nm who = (e, s')) :
    Calls Try.prog 13 #[ptrV p, .int .i64 kind, .string nm, .string who] w fun e_ w' => e_ = .returned (.int .i64 e) ∧ StoreE w' p b s' ∧ Chg w w' p b := by
  have := Hold.calls w p b s kind nm who h hf hn0 hn1
  rw [hv] at this
  exact this
theorem Release.to {e : Int} (h : StoreE w p b s) (hf : StSrt s) (hn0 : 0 ≤ s.n) (hn1 : s.n < 1000000000) (hv : releaseV s kind nm who = (e, s')) :
    Calls Try.prog 15 #[ptrV p, .int .i64 kind, .string nm, .string who] w fun e_ w' => e_ = .returned (.int .i64 e) ∧ StoreE w' p b s' ∧ Chg w w' p b := by
  have := Release.calls w p b s kind nm who h hf hn0 hn1
  rw [hv] at this
  exact this
theorem Get.to {y : PI} {e : Int} (h : StoreE w p b s) (hf : StFits s) (hv : getV s (kind, nm) = (y, e)) :
    Calls Try.prog 9 #[ptrV p, .int .i64 kind, .string nm] w fun e_ w' => ∃ z : CI, e_ = .returned (.tuple #[itemV z, .int .i64 e]) ∧ RowNew w' w.heap.size z ∧ z.pure = y ∧ Below w.heap.size w w' := by
  have := Get.calls w p s kind nm h.at hf
  rw [hv] at this
  exact this
end
section
variable {w : World} {p b : Nat} {Lc : List (Key × CI)} {s s' : St} {kind : Int} {nm who : ByteArray}
theorem Create.tx {m e : Int} (A : Option Addr) (c : Nat) (B : List Int) (hB : StoreB w p b Lc s.n) (hL : erase Lc = s.L) (hn0 : 0 ≤ s.n) (hn1 : s.n < 1000000000) (hr : (Kd.int .u8).C w A B.length B) (hc : B.length ≤ c) (hv : createV s kind nm B = ((m, e), s')) :
    Calls Try.prog 11 #[ptrV p, .int .i64 kind, .string nm, .slice A B.length c] w fun e_ w' => e_ = .returned (.tuple #[.int .i64 m, .int .i64 e]) ∧ StoreX w w' p b Lc s' ∧ Chg w w' p b := by
  have := Create.calls2 w p b Lc s kind nm A c B hB hL hn0 hn1 hr hc
  rw [hv] at this
  exact this
theorem Update.tx {m e : Int} {v : Int} (A : Option Addr) (c : Nat) (B : List Int) (hB : StoreB w p b Lc s.n) (hL : erase Lc = s.L) (hn0 : 0 ≤ s.n) (hn1 : s.n < 1000000000) (hr : (Kd.int .u8).C w A B.length B) (hc : B.length ≤ c) (hv : updateV s kind nm v B = ((m, e), s')) :
    Calls Try.prog 12 #[ptrV p, .int .i64 kind, .string nm, .int .i64 v, .slice A B.length c] w fun e_ w' => e_ = .returned (.tuple #[.int .i64 m, .int .i64 e]) ∧ StoreX w w' p b Lc s' ∧ Chg w w' p b := by
  have := Update.calls2 w p b Lc s kind nm v A c B hB hL hn0 hn1 hr hc
  rw [hv] at this
  exact this
theorem Delete.tx {e v : Int} (hB : StoreB w p b Lc s.n) (hL : erase Lc = s.L) (hn0 : 0 ≤ s.n) (hn1 : s.n < 1000000000) (hv : deleteV s kind nm v = (e, s')) :
    Calls Try.prog 14 #[ptrV p, .int .i64 kind, .string nm, .int .i64 v] w fun e_ w' => e_ = .returned (.int .i64 e) ∧ StoreX w w' p b Lc s' ∧ Chg w w' p b := by
  have := Delete.calls2 w p b Lc s kind nm v hB hL hn0 hn1
  rw [hv] at this
  exact this
theorem Hold.tx {e : Int} (hB : StoreB w p b Lc s.n) (hL : erase Lc = s.L) (hf : StSrt s) (hn0 : 0 ≤ s.n) (hn1 : s.n < 1000000000) (hv : holdV s kind nm who = (e, s')) :
    Calls Try.prog 13 #[ptrV p, .int .i64 kind, .string nm, .string who] w fun e_ w' => e_ = .returned (.int .i64 e) ∧ StoreX w w' p b Lc s' ∧ Chg w w' p b := by
  have := Hold.calls2 w p b Lc s kind nm who hB hL hf hn0 hn1
  rw [hv] at this
  exact this
theorem Release.tx {e : Int} (hB : StoreB w p b Lc s.n) (hL : erase Lc = s.L) (hf : StSrt s) (hn0 : 0 ≤ s.n) (hn1 : s.n < 1000000000) (hv : releaseV s kind nm who = (e, s')) :
    Calls Try.prog 15 #[ptrV p, .int .i64 kind, .string nm, .string who] w fun e_ w' => e_ = .returned (.int .i64 e) ∧ StoreX w w' p b Lc s' ∧ Chg w w' p b := by
  have := Release.calls2 w p b Lc s kind nm who hB hL hf hn0 hn1
  rw [hv] at this
  exact this
end
end Go.Proofs.Ytmankbhlgjgnbaa.PAll
