import Derived.Test.YtmankbhlgjgnbaaEHst
namespace Go.Proofs.Ytmankbhlgjgnbaa.PAll
open Go.RowKit Go.Proofs.YtmankbhlgjgnbaaW.PrintWords Go.Proofs.YtmankbhlgjgnbaaW.PrintLast Go.Proofs.YtmankbhlgjgnbaaW.PrintMore Mem
set_option linter.unusedVariables false
set_option linter.unusedSimpArgs false
theorem Hold.to2 {w : World} {p b : Nat} {Lc : List (Key × CI)} {s s' : St} {kind : Int} {nm who : ByteArray} {e : Int} (hB : StoreB w p b Lc s.n) (hL : erase Lc = s.L) (hf : StSrt s) (hn0 : 0 ≤ s.n) (hn1 : s.n < 1000000000) (hv : holdV s kind nm who = (e, s')) :
    Calls Try.prog 13 #[ptrV p, .int .i64 kind, .string nm, .string who] w fun e_ w' => e_ = .returned (.int .i64 e) ∧ (∃ Lc', StoreB w' p b Lc' s'.n ∧ erase Lc' = s'.L ∧ ∀ Q : Nat → Prop, RowsIn Lc Q → (∀ k, w.heap.size ≤ k → Q k) → RowsIn Lc' Q) ∧ Chg w w' p b := by
  have := Hold.calls2 w p b Lc s kind nm who hB hL hf hn0 hn1
  rw [hv] at this
  exact this
theorem rows_hst {Lc : List (Key × CI)} {n : Int} {g : Bool} (hL : erase Lc = (hst [] n g).L) (Q : Nat → Prop) : RowsIn Lc Q := fun q hq => by
  have hm : (q.1, q.2.pure) ∈ (hst [] n g).L := by rw [← hL]; exact List.mem_map_of_mem hq
  have h := List.mem_singleton.1 hm
  have h1 : q.2.H = [] := congrArg (fun z => z.2.H) h
  have h2 : q.2.B = [] := congrArg (fun z => z.2.B) h
  exact ⟨fun hne => absurd h1 hne, fun hne => absurd h2 hne⟩
theorem R_chg {w w' : World} {p b base : Nat} {v : Value} {hs : List ByteArray} (h : Kd.string.R 9 w base (fun k => k ≠ p ∧ k ≠ b) v hs) (hc : Chg w w' p b) : Kd.string.R 9 w' base (fun k => k ≠ p ∧ k ≠ b) v hs :=
  Kd.R_kept (S := fun k => k = p ∨ k = b) h ⟨hc.size, fun k hk hn => hc.block k hk (fun e => hn (.inl e)) (fun e => hn (.inr e))⟩ (fun k hk hs => by rcases hs with rfl | rfl; exact hk.1 rfl; exact hk.2 rfl)
def sutlerlaw10_StoreHeld.f (l0 : List ByteArray) : Option Bool := some true
set_option maxHeartbeats 40000000 in
set_option maxRecDepth 100000 in
theorem sutlerlaw10_StoreHeld.calls (A0 : Option Addr) (c0 : Nat) (l0 : List ByteArray) (r : Bool) (w : World) (hr0 : Kd.C Kd.string w A0 l0.length l0) (hc0 : l0.length ≤ c0) (h : sutlerlaw10_StoreHeld.f l0 = some r) :
  Calls Try.prog 4 #[.slice A0 l0.length c0] w fun e w' => e = .returned (.bool r) ∧ Below w.heap.size w w' := by
  obtain rfl := Option.some.inj h
  have HMAX := Aside0.mk (Kd.C_max hr0)
  have HR0 := Aside0.mk hr0
  clear hr0 h
  have v1 : createV PAll.s0 1 Xn [] = ((1, 0), hst [] 1 false) := by kernel_rfl
  have V1 := Aside0.mk v1
  clear v1
  go_enter Try.func4, Try.ntmps4
  go_wp2_with (first
    | (go_at_call 7; refine (live.calls _).mono ?_; rintro e wl ⟨rfl, hb⟩
       have HBL := Aside0.mk hb; clear hb)
    | (go_at_call 8; refine (New.calls _).mono ?_; rintro e wn ⟨p, b, rfl, hp, hb, hs, hbl⟩
       have HP : Aside0 (w.heap.size ≤ p) := Aside0.mk (Nat.le_trans HBL.out.size hp); have HQ : Aside0 (w.heap.size ≤ b) := Aside0.mk (Nat.le_trans HBL.out.size hb); have HE0 : Aside0 (StoreE wn p b PAll.s0) := Aside0.mk ⟨[], hs, rfl⟩; have HBN := Aside0.mk (below_then HBL.out HBL.out.size hbl); clear hp hb hs hbl)
    | (go_at_call 11; refine (Create.to none 0 [] HE0.out (by decide) (by decide) (Kd.C_nil _ _) (Nat.le_refl 0) V1.out).mono ?_; rintro e wc ⟨rfl, he, hc⟩
       have HEC := Aside0.mk he; have HBC := Aside0.mk (hc.below HBN.out HBN.out.size HP.out HQ.out); clear he hc))
  obtain ⟨LcC, hBC, hLC⟩ := HEC.out
  have HRC := Aside0.mk (rows_hst hLC (fun k => some k ≠ (Value.slice none 0 0).ownBlock))
  have HBC2 := Aside0.mk hBC
  have HLC := Aside0.mk hLC
  clear hBC hLC HEC
  go_loopg [29, 7] (l0.length + 1) (fun kq v29 v7 w' => ∃ (i : Nat) (hs H : List ByteArray) (Lc : List (Key × CI)) (A7 : Option Addr) (c7 : Nat), v29 = .int .i64 (i : Int) ∧ v7 = .slice A7 hs.length c7 ∧ Aside0 (kq + i = l0.length + 1) ∧ Aside0 (i ≤ l0.length) ∧ Aside0 (StoreB w' p b Lc (1 + hs.length)) ∧ Aside0 (erase Lc = (hst H (1 + hs.length) false).L) ∧ Aside0 (HInv hs H) ∧ Aside0 (hs.length < 4) ∧ Aside0 (RowsIn Lc (fun k => some k ≠ (Value.slice A7 hs.length c7).ownBlock)) ∧ Aside0 (Kd.string.R 9 w' w.heap.size (fun k => k ≠ p ∧ k ≠ b) (.slice A7 hs.length c7) hs) ∧ Aside0 (Below w.heap.size w w'))
  case atStart => exact ⟨0, [], [], LcC, none, 0, rfl, rfl, ⟨rfl⟩, ⟨Nat.zero_le _⟩, HBC2, HLC, ⟨HInv.nil⟩, ⟨by decide⟩, HRC, ⟨Kd.R_nil _ _ _ _ _⟩, HBC⟩
  case round =>
    clear HE0 HBN HBL HBC HBC2 HLC HRC LcC
    obtain ⟨i, hs, H, Lc, A7, c7, rfl, rfl, HK, HI_, HBS, HLS, HIN, HL4, HRI, HRW, HB⟩ := hrel
    have hl4 : (hs.length : Int) < 4 := by have := HL4.out; omega
    have hl4b : ((hs.length : Int) == 4) = false := beq_eq_false_iff_ne.2 (by omega)
    cases gk with
    | zero => exact absurd HK.out (by have := HI_.out; omega)
    | succ k1 =>
      by_cases c5 : i < l0.length
      · have c5' : (i : Int) < (l0.length : Int) := by omega
        have p0 : (0 : Int) ≤ (i : Int) := by omega
        obtain ⟨ad, e1, hx0⟩ := Kd.at_string HR0.out (i : Int) p0 c5'
        cases e1
        replace hx0 := pw_cell_below HB.out hx0
        simp only [Int.toNat_natCast] at hx0
        generalize rdOf ByteArray.empty l0 (i : Int) = who at *
        replace p0 := eq_true p0
        have hiw : wrap64 ((i : Int) + 1) = ((i + 1 : Nat) : Int) := w_succ (by have := HMAX.out; omega)
        rcases hold_hst H (1 + hs.length) who with ⟨f, hf, hv⟩ | ⟨hnw, hH4, hv⟩
        · have HV := Aside0.mk hv
          have kf1 : (f == 0) = false := beq_eq_false_iff_ne.2 hf
          have kf2 : (f != 0) = true := bne_iff_ne.2 hf
          clear hv hf
          go_wp2_with (first
            | (go_at_call 13; refine (Hold.to2 HBS.out HLS.out (srt_hst _ _ HIN.out.srt (by have h1 := HIN.out.len; have h2 := HIN.out.le; omega)) (by show (0 : Int) ≤ 1 + hs.length; omega) (by show (1 : Int) + hs.length < 1000000000; have := HIN.out.le; omega) HV.out).mono ?_; rintro e w2 ⟨rfl, ⟨Lc2, hB2, hL2, hR2⟩, hc⟩
               have HBS2 := Aside0.mk hB2; have HLS2 := Aside0.mk hL2; have HRI2 := Aside0.mk (hR2 _ HRI.out (fun k hk e => by have h1 := (Kd.R_bound HRW.out).1 k e.symm; omega)); have HB2 := Aside0.mk (hc.below HB.out HB.out.size HP.out HQ.out); have HRW2 := Aside0.mk (R_chg HRW.out hc); clear hB2 hL2 hR2 hc))
          go_roundg k1
          case measure => have := HK.out; omega
          case rel => exact ⟨i + 1, hs, H, Lc2, A7, c7, (by first | rfl | (simp; done) | (simp [*]; done)), rfl, ⟨by have := HK.out; omega⟩, ⟨by omega⟩, HBS2, HLS2, HIN, HL4, HRI2, HRW2, HB2⟩
        · have HV := Aside0.mk hv
          have HI2 := Aside0.mk (HIN.out.add hnw hH4)
          clear hv hnw hH4
          by_cases c7b : hs.length = 3
          · have hl5b : (((hs ++ [who]).length : Int) == 4) = true := beq_iff_eq.2 (by rw [List.length_append, c7b]; rfl)
            clear c7b
            go_wp2_with (first
              | (go_at_call 13; refine (Hold.to2 HBS.out HLS.out (srt_hst _ _ HIN.out.srt (by have h1 := HIN.out.len; have h2 := HIN.out.le; omega)) (by show (0 : Int) ≤ 1 + hs.length; omega) (by show (1 : Int) + hs.length < 1000000000; have := HIN.out.le; omega) HV.out).mono ?_; rintro e w2 ⟨rfl, ⟨Lc2, hB2, hL2, hR2⟩, hc⟩
                 have HBS2 := Aside0.mk hB2; have HLS2 := Aside0.mk hL2; have HRI2 := Aside0.mk (hR2 _ HRI.out (fun k hk e => by have h1 := (Kd.R_bound HRW.out).1 k e.symm; omega)); have HB2 := Aside0.mk (hc.below HB.out HB.out.size HP.out HQ.out); have HRW2 := Aside0.mk (R_chg HRW.out hc); clear hB2 hL2 hR2 hc)
              | ((with_reducible refine gate_builtin (b := .append) (xs := #[.tmp 42, .tmp 44]) rfl ?_); at_builtin; refine Kd.R_append Kd.string (w0 := w) w.heap.size rfl (.tmp 42) (.tmp 44) 29 9 (.string ⟨#[]⟩) 16 rfl Try.underlying29 info9_ rfl (by decide) (by decide) (.slice A7 hs.length c7) hs who [.string who] (fun k => k ≠ p ∧ k ≠ b) (fun _ => False) rfl rfl rfl (fun _ hk => hk.elim) ?aF HRW2.out HB2.out HB2.out.size ?aL ?_; (case aF => exact fun k hk => ⟨fun e => by have h1 := HBS2.out.blk.lt; omega, fun e => by have h1 := HBS2.out.map.lt; omega⟩); (case aL => have := HL4.out; omega); intro v3 w3 ho hb hg hat
                 obtain ⟨A8, c8, rfl⟩ := Kd.R_slice ho
                 have hne1 : some p ≠ (Value.slice A7 hs.length c7).ownBlock := fun e => (HRW2.out.1 p e.symm).1 rfl
                 have hne2 : some b ≠ (Value.slice A7 hs.length c7).ownBlock := fun e => (HRW2.out.1 b e.symm).2 rfl
                 have HBS3 := Aside0.mk (HBS2.out.grownBy HRI2.out hne1 hne2 hg)
                 have HRI3 : Aside0 (RowsIn Lc2 (fun k => some k ≠ (Value.slice A8 (hs ++ [who]).length c8).ownBlock)) := Aside0.mk (HRI2.out.lt HBS2.out (fun k hk hq => by
                   rcases hat with hat | ⟨b', hat, hle⟩
                   · rw [hat]; exact hq
                   · rw [hat]; intro e; have := Option.some.inj e; omega))
                 have HRW3 := Aside0.mk ho; have HB3 := Aside0.mk hb; clear ho hb hg hat hne1 hne2
                 have HLS3 : Aside0 (erase Lc2 = (hst (insS who H) (1 + (hs ++ [who]).length) false).L) := Aside0.mk (by rw [HLS2.out, List.length_append]; show _ = [((1, Xn), (⟨1, Xn, 1 + ((hs.length + 1 : Nat) : Int), insS who H, [], false⟩ : PI))]; rw [show (1 : Int) + ((hs.length + 1 : Nat) : Int) = 1 + hs.length + 1 by omega]; rfl)
                 have HBS3 : Aside0 (StoreB w3 p b Lc2 (1 + (hs ++ [who]).length)) := Aside0.mk (by rw [show (1 : Int) + ((hs ++ [who]).length : Nat) = (hst (insS who H) (1 + hs.length + 1) false).n from by show (1 : Int) + ((hs ++ [who]).length : Nat) = 1 + hs.length + 1; rw [List.length_append]; simp; omega]; exact HBS3.out)
                 generalize hs ++ [who] = hs2 at *))
            obtain ⟨sd, hdv, hld⟩ := delete_hst HI2.out (((1 : Int) + hs2.length)) (by omega) (by have := HI2.out.le; omega)
            have HDV := Aside0.mk hdv
            have HLD := Aside0.mk hld
            clear hdv hld
            go_wp2_with (first
              | (go_at_call 9; refine (Get.to (s := hst (insS who H) ((1 : Int) + hs2.length) false) ⟨Lc2, HBS3.out, HLS3.out⟩ (fits_hst _ _ (by have h1 := HI2.out.len; have h2 := HI2.out.le; omega)) (get_hst _ _ _)).mono ?_; rintro e u1 ⟨zg, rfl, hz, hzy, hb⟩
                 have HES0 : Aside0 (StoreE w3 p b (hst (insS who H) ((1 : Int) + hs2.length) false)) := Aside0.mk ⟨Lc2, HBS3.out, HLS3.out⟩; have HZY := Aside0.mk hzy; have U1 := Aside0.mk hb; have HES1 := Aside0.mk (HES0.out.below hb); have HBU1 := Aside0.mk (below_then HB3.out HB3.out.size hb); have HRU1 := Aside0.mk (Kd.R_below HRW3.out hb); clear hz hzy hb)
              | ((with_reducible refine gate_dst (N := 10) rfl ?_); refine new_at rfl (t := 31) rfl noItem.cells (itemV noItem) (fun W => zero_item W) rfl ?_; intro g10 hg u2 hk hb
                 have BZ10 := Aside0.mk hk; have XA10 := Aside0.mk hb; have G10 : Aside0 (u1.heap.size ≤ g10) := Aside0.mk (by omega); clear hk hb hg)
              | ((with_reducible refine gate_store (p := 10) rfl ?_); refine store_at rfl (t := 31) rfl rfl g10 0 _ 31 _ rfl rfl BZ10.out zg.cells rfl size_item (show (6 : Nat) ≤ 6 from Nat.le_refl 6) (cells_one _) ?_; intro u3 hk hg
                 have XB10 := Aside0.mk (pw_below_grown XA10.out (some g10) XA10.out.size hg (fun k e => by cases e; exact G10.out))
                 have BI10 : Aside0 (Blk u3 g10 zg.cells 31) := Aside0.mk hk
                 have y3_10 : u3.cell? ⟨g10, 3, none⟩ = some (.slice zg.ha hs2.length zg.hc) := (BI10.out.cell 3).trans (by have h1 : zg.H = (insS who H) := congrArg PI.H HZY.out; have h2 := HI2.out.len; show some (Value.slice zg.ha zg.H.length zg.hc) = _; rw [h1, h2])
                 have y2_10 : u3.cell? ⟨g10, 2, none⟩ = some (.int .i64 (((1 : Int) + hs2.length))) := (BI10.out.cell 2).trans (by have h1 : zg.ver = ((1 : Int) + hs2.length) := congrArg PI.ver HZY.out; show some (Value.int .i64 zg.ver) = _; rw [h1])
                 have HES3 := Aside0.mk (HES1.out.below XB10.out); have HBU3 := Aside0.mk (below_then HBU1.out HBU1.out.size XB10.out); have HRU3 := Aside0.mk (Kd.R_below HRU1.out XB10.out); clear hk hg)
              | (go_at_call 14; refine (Delete.to HES3.out (by show (0 : Int) ≤ ((1 : Int) + hs2.length); omega) (by show ((1 : Int) + hs2.length) < 1000000000; have := HI2.out.le; omega) HDV.out).mono ?_; rintro e u4 ⟨rfl, he, hc⟩
                 have HES4 := Aside0.mk he; have HBU4 := Aside0.mk (hc.below HBU3.out HBU3.out.size HP.out HQ.out); have HRU4 := Aside0.mk (R_chg HRU3.out hc); clear he hc))
            go_loopg [78] (hs2.length + 1) (fun kq v78 w' => ∃ (j : Nat) (s : St), v78 = .int .i64 (j : Int) ∧ Aside0 (kq + j = hs2.length + 1) ∧ Aside0 (j ≤ hs2.length) ∧ Aside0 (StoreE w' p b s) ∧ Aside0 (LInv hs2 j s) ∧ Aside0 (Kd.string.R 9 w' w.heap.size (fun k => k ≠ p ∧ k ≠ b) (.slice A8 hs2.length c8) hs2) ∧ Aside0 (Below w.heap.size w w'))
            case atStart => exact ⟨0, sd, rfl, ⟨rfl⟩, ⟨Nat.zero_le _⟩, HES4, HLD, HRU4, HBU4⟩
            case round =>
              clear HES4 HLD HRU4 HBU4 HES3 HBU3 HRU3 HES1 HBU1 HRU1 y3_10 y2_10 BI10 BZ10
              obtain ⟨j, s, rfl, HKJ, HJ_, HEJ, HLJ, HRJ, HBJ⟩ := hrel
              cases gk with
              | zero => exact absurd HKJ.out (by have := HJ_.out; omega)
              | succ k2 =>
                by_cases c8 : j < hs2.length
                · have c8' : (j : Int) < (hs2.length : Int) := by omega
                  have q0 : (0 : Int) ≤ (j : Int) := by omega
                  obtain ⟨adj, ej, hxj⟩ := Kd.at_string (Kd.R_reads' HRJ.out).2.2 (j : Int) q0 c8'
                  subst ej
                  simp only [Int.toNat_natCast] at hxj
                  have hrd : rdOf ByteArray.empty (hs2) (j : Int) = (hs2)[j] := trd_nat _ j c8
                  rw [hrd] at hxj
                  replace q0 := eq_true q0
                  have hjw : wrap64 ((j : Int) + 1) = ((j + 1 : Nat) : Int) := w_succ (by have := HI2.out.le; omega)
                  obtain ⟨⟨y, hy⟩, hfit, hsrt, sr, hrv, hlr⟩ := release_hst HLJ.out HI2.out.nodup HI2.out.le c8
                  have HY := Aside0.mk hy
                  have HFT := Aside0.mk hfit
                  have HST := Aside0.mk hsrt
                  have HRV := Aside0.mk hrv
                  have HLR := Aside0.mk hlr
                  clear hy hfit hsrt hrv hlr hrd
                  generalize (hs2)[j] = wj at *
                  go_wp2_with (first
                    | (go_at_call 9; refine (Get.to HEJ.out HFT.out HY.out).mono ?_; rintro e x1 ⟨zj, rfl, hz, hzy, hb⟩
                       have HEX1 := Aside0.mk (HEJ.out.below hb); have HBX1 := Aside0.mk (below_then HBJ.out HBJ.out.size hb); have HRX1 := Aside0.mk (Kd.R_below HRJ.out hb); clear hz hzy hb)
                    | ((with_reducible refine gate_dst (N := 14) rfl ?_); refine new_at rfl (t := 31) rfl noItem.cells (itemV noItem) (fun W => zero_item W) rfl ?_; intro g14 hg x2 hk hb
                       have BZ14 := Aside0.mk hk; have XA14 := Aside0.mk hb; have G14 : Aside0 (x1.heap.size ≤ g14) := Aside0.mk (by omega); clear hk hb hg)
                    | ((with_reducible refine gate_store (p := 14) rfl ?_); refine store_at rfl (t := 31) rfl rfl g14 0 _ 31 _ rfl rfl BZ14.out zj.cells rfl size_item (show (6 : Nat) ≤ 6 from Nat.le_refl 6) (cells_one _) ?_; intro x3 hk hg
                       have XB14 := Aside0.mk (pw_below_grown XA14.out (some g14) XA14.out.size hg (fun k e => by cases e; exact G14.out))
                       have HEX3 := Aside0.mk (HEX1.out.below XB14.out); have HBX3 := Aside0.mk (below_then HBX1.out HBX1.out.size XB14.out); have HRX3 := Aside0.mk (Kd.R_below HRX1.out XB14.out); clear hk hg)
                    | (go_at_call 15; refine (Release.to HEX3.out HST.out HLJ.out.n0 (by have h1 := HLJ.out.n1; have h2 := HI2.out.le; omega) HRV.out).mono ?_; rintro e x4 ⟨rfl, he, hc⟩
                       have HEX4 := Aside0.mk he; have HBX4 := Aside0.mk (hc.below HBX3.out HBX3.out.size HP.out HQ.out); have HRX4 := Aside0.mk (R_chg HRX3.out hc); clear he hc))
                  go_roundg k2
                  case measure => have := HKJ.out; omega
                  case rel => exact ⟨j + 1, sr, (by first | rfl | (simp; done) | (simp [*]; done)), ⟨by have := HKJ.out; omega⟩, ⟨by omega⟩, HEX4, HLR, HRX4, HBX4⟩
                · have c8' : ¬ (j : Int) < (hs2.length : Int) := by omega
                  have hnil := Aside0.mk (HLJ.out.no (by omega))
                  go_wp2_with (first
                    | (go_at_call 9; refine (Get.to HEJ.out (fits0 _ hnil.out) (get_nil _ hnil.out _)).mono ?_; rintro e x1 ⟨zj, rfl, hz, hzy, hb⟩
                       have HBX1 := Aside0.mk (below_then HBJ.out HBJ.out.size hb); clear hz hzy hb)
                    | ((with_reducible refine gate_dst (N := 16) rfl ?_); refine new_at rfl (t := 31) rfl noItem.cells (itemV noItem) (fun W => zero_item W) rfl ?_; intro g16 hg x2 hk hb
                       have BZ16 := Aside0.mk hk; have XA16 := Aside0.mk hb; have G16 : Aside0 (x1.heap.size ≤ g16) := Aside0.mk (by omega); clear hk hb hg)
                    | ((with_reducible refine gate_store (p := 16) rfl ?_); refine store_at rfl (t := 31) rfl rfl g16 0 _ 31 _ rfl rfl BZ16.out zj.cells rfl size_item (show (6 : Nat) ≤ 6 from Nat.le_refl 6) (cells_one _) ?_; intro x3 hk hg
                       have XB16 := Aside0.mk (pw_below_grown XA16.out (some g16) XA16.out.size hg (fun k e => by cases e; exact G16.out))
                       have HBX3 := Aside0.mk (below_then HBX1.out HBX1.out.size XB16.out); clear hk hg))
                  go_ret
                  exact ⟨rfl, HBX3.out⟩
          · have hl5b : (((hs ++ [who]).length : Int) == 4) = false := beq_eq_false_iff_ne.2 (by rw [List.length_append]; simp; omega)
            go_wp2_with (first
              | (go_at_call 13; refine (Hold.to2 HBS.out HLS.out (srt_hst _ _ HIN.out.srt (by have h1 := HIN.out.len; have h2 := HIN.out.le; omega)) (by show (0 : Int) ≤ 1 + hs.length; omega) (by show (1 : Int) + hs.length < 1000000000; have := HIN.out.le; omega) HV.out).mono ?_; rintro e w2 ⟨rfl, ⟨Lc2, hB2, hL2, hR2⟩, hc⟩
                 have HBS2 := Aside0.mk hB2; have HLS2 := Aside0.mk hL2; have HRI2 := Aside0.mk (hR2 _ HRI.out (fun k hk e => by have h1 := (Kd.R_bound HRW.out).1 k e.symm; omega)); have HB2 := Aside0.mk (hc.below HB.out HB.out.size HP.out HQ.out); have HRW2 := Aside0.mk (R_chg HRW.out hc); clear hB2 hL2 hR2 hc)
              | ((with_reducible refine gate_builtin (b := .append) (xs := #[.tmp 42, .tmp 44]) rfl ?_); at_builtin; refine Kd.R_append Kd.string (w0 := w) w.heap.size rfl (.tmp 42) (.tmp 44) 29 9 (.string ⟨#[]⟩) 16 rfl Try.underlying29 info9_ rfl (by decide) (by decide) (.slice A7 hs.length c7) hs who [.string who] (fun k => k ≠ p ∧ k ≠ b) (fun _ => False) rfl rfl rfl (fun _ hk => hk.elim) ?aF HRW2.out HB2.out HB2.out.size ?aL ?_; (case aF => exact fun k hk => ⟨fun e => by have h1 := HBS2.out.blk.lt; omega, fun e => by have h1 := HBS2.out.map.lt; omega⟩); (case aL => have := HL4.out; omega); intro v3 w3 ho hb hg hat
                 obtain ⟨A8, c8, rfl⟩ := Kd.R_slice ho
                 have hne1 : some p ≠ (Value.slice A7 hs.length c7).ownBlock := fun e => (HRW2.out.1 p e.symm).1 rfl
                 have hne2 : some b ≠ (Value.slice A7 hs.length c7).ownBlock := fun e => (HRW2.out.1 b e.symm).2 rfl
                 have HBS3 := Aside0.mk (HBS2.out.grownBy HRI2.out hne1 hne2 hg)
                 have HRI3 : Aside0 (RowsIn Lc2 (fun k => some k ≠ (Value.slice A8 (hs ++ [who]).length c8).ownBlock)) := Aside0.mk (HRI2.out.lt HBS2.out (fun k hk hq => by
                   rcases hat with hat | ⟨b', hat, hle⟩
                   · rw [hat]; exact hq
                   · rw [hat]; intro e; have := Option.some.inj e; omega))
                 have HRW3 := Aside0.mk ho; have HB3 := Aside0.mk hb; clear ho hb hg hat hne1 hne2
                 have HLS3 : Aside0 (erase Lc2 = (hst (insS who H) (1 + (hs ++ [who]).length) false).L) := Aside0.mk (by rw [HLS2.out, List.length_append]; show _ = [((1, Xn), (⟨1, Xn, 1 + ((hs.length + 1 : Nat) : Int), insS who H, [], false⟩ : PI))]; rw [show (1 : Int) + ((hs.length + 1 : Nat) : Int) = 1 + hs.length + 1 by omega]; rfl)
                 have HBS3 : Aside0 (StoreB w3 p b Lc2 (1 + (hs ++ [who]).length)) := Aside0.mk (by rw [show (1 : Int) + ((hs ++ [who]).length : Nat) = (hst (insS who H) (1 + hs.length + 1) false).n from by show (1 : Int) + ((hs ++ [who]).length : Nat) = 1 + hs.length + 1; rw [List.length_append]; simp; omega]; exact HBS3.out)
                 have hl5 : (hs ++ [who]).length = hs.length + 1 := by rw [List.length_append]; rfl))
            go_roundg k1
            case measure => have := HK.out; omega
            case rel => exact ⟨i + 1, hs ++ [who], insS who H, Lc2, A8, c8, (by first | rfl | (simp; done) | (simp [*]; done)), (by rw [List.length_append]; rfl), ⟨by have := HK.out; omega⟩, ⟨by omega⟩, HBS3, HLS3, HI2, ⟨by have := HL4.out; omega⟩, HRI3, HRW3, HB3⟩
      · have c5' : ¬ (i : Int) < (l0.length : Int) := by omega
        obtain ⟨sd, hdv, hld⟩ := delete_hst HIN.out (((1 : Int) + hs.length)) (by omega) (by have := HIN.out.le; omega)
        have HDV := Aside0.mk hdv
        have HLD := Aside0.mk hld
        clear hdv hld
        go_wp2_with (first
          | (go_at_call 9; refine (Get.to (s := hst H ((1 : Int) + hs.length) false) ⟨Lc, HBS.out, HLS.out⟩ (fits_hst _ _ (by have h1 := HIN.out.len; have h2 := HIN.out.le; omega)) (get_hst _ _ _)).mono ?_; rintro e u1 ⟨zg, rfl, hz, hzy, hb⟩
             have HES0 : Aside0 (StoreE wr p b (hst H ((1 : Int) + hs.length) false)) := Aside0.mk ⟨Lc, HBS.out, HLS.out⟩; have HZY := Aside0.mk hzy; have U1 := Aside0.mk hb; have HES1 := Aside0.mk (HES0.out.below hb); have HBU1 := Aside0.mk (below_then HB.out HB.out.size hb); have HRU1 := Aside0.mk (Kd.R_below HRW.out hb); clear hz hzy hb)
          | ((with_reducible refine gate_dst (N := 10) rfl ?_); refine new_at rfl (t := 31) rfl noItem.cells (itemV noItem) (fun W => zero_item W) rfl ?_; intro g10 hg u2 hk hb
             have BZ10 := Aside0.mk hk; have XA10 := Aside0.mk hb; have G10 : Aside0 (u1.heap.size ≤ g10) := Aside0.mk (by omega); clear hk hb hg)
          | ((with_reducible refine gate_store (p := 10) rfl ?_); refine store_at rfl (t := 31) rfl rfl g10 0 _ 31 _ rfl rfl BZ10.out zg.cells rfl size_item (show (6 : Nat) ≤ 6 from Nat.le_refl 6) (cells_one _) ?_; intro u3 hk hg
             have XB10 := Aside0.mk (pw_below_grown XA10.out (some g10) XA10.out.size hg (fun k e => by cases e; exact G10.out))
             have BI10 : Aside0 (Blk u3 g10 zg.cells 31) := Aside0.mk hk
             have y3_10 : u3.cell? ⟨g10, 3, none⟩ = some (.slice zg.ha hs.length zg.hc) := (BI10.out.cell 3).trans (by have h1 : zg.H = H := congrArg PI.H HZY.out; have h2 := HIN.out.len; show some (Value.slice zg.ha zg.H.length zg.hc) = _; rw [h1, h2])
             have y2_10 : u3.cell? ⟨g10, 2, none⟩ = some (.int .i64 (((1 : Int) + hs.length))) := (BI10.out.cell 2).trans (by have h1 : zg.ver = ((1 : Int) + hs.length) := congrArg PI.ver HZY.out; show some (Value.int .i64 zg.ver) = _; rw [h1])
             have HES3 := Aside0.mk (HES1.out.below XB10.out); have HBU3 := Aside0.mk (below_then HBU1.out HBU1.out.size XB10.out); have HRU3 := Aside0.mk (Kd.R_below HRU1.out XB10.out); clear hk hg)
          | (go_at_call 14; refine (Delete.to HES3.out (by show (0 : Int) ≤ ((1 : Int) + hs.length); omega) (by show ((1 : Int) + hs.length) < 1000000000; have := HIN.out.le; omega) HDV.out).mono ?_; rintro e u4 ⟨rfl, he, hc⟩
             have HES4 := Aside0.mk he; have HBU4 := Aside0.mk (hc.below HBU3.out HBU3.out.size HP.out HQ.out); have HRU4 := Aside0.mk (R_chg HRU3.out hc); clear he hc))
        go_loopg [78] (hs.length + 1) (fun kq v78 w' => ∃ (j : Nat) (s : St), v78 = .int .i64 (j : Int) ∧ Aside0 (kq + j = hs.length + 1) ∧ Aside0 (j ≤ hs.length) ∧ Aside0 (StoreE w' p b s) ∧ Aside0 (LInv hs j s) ∧ Aside0 (Kd.string.R 9 w' w.heap.size (fun k => k ≠ p ∧ k ≠ b) (.slice A7 hs.length c7) hs) ∧ Aside0 (Below w.heap.size w w'))
        case atStart => exact ⟨0, sd, rfl, ⟨rfl⟩, ⟨Nat.zero_le _⟩, HES4, HLD, HRU4, HBU4⟩
        case round =>
          clear HES4 HLD HRU4 HBU4 HES3 HBU3 HRU3 HES1 HBU1 HRU1 y3_10 y2_10 BI10 BZ10
          obtain ⟨j, s, rfl, HKJ, HJ_, HEJ, HLJ, HRJ, HBJ⟩ := hrel
          cases gk with
          | zero => exact absurd HKJ.out (by have := HJ_.out; omega)
          | succ k2 =>
            by_cases c8 : j < hs.length
            · have c8' : (j : Int) < (hs.length : Int) := by omega
              have q0 : (0 : Int) ≤ (j : Int) := by omega
              obtain ⟨adj, ej, hxj⟩ := Kd.at_string (Kd.R_reads' HRJ.out).2.2 (j : Int) q0 c8'
              subst ej
              simp only [Int.toNat_natCast] at hxj
              have hrd : rdOf ByteArray.empty (hs) (j : Int) = (hs)[j] := trd_nat _ j c8
              rw [hrd] at hxj
              replace q0 := eq_true q0
              have hjw : wrap64 ((j : Int) + 1) = ((j + 1 : Nat) : Int) := w_succ (by have := HIN.out.le; omega)
              obtain ⟨⟨y, hy⟩, hfit, hsrt, sr, hrv, hlr⟩ := release_hst HLJ.out HIN.out.nodup HIN.out.le c8
              have HY := Aside0.mk hy
              have HFT := Aside0.mk hfit
              have HST := Aside0.mk hsrt
              have HRV := Aside0.mk hrv
              have HLR := Aside0.mk hlr
              clear hy hfit hsrt hrv hlr hrd
              generalize (hs)[j] = wj at *
              go_wp2_with (first
                | (go_at_call 9; refine (Get.to HEJ.out HFT.out HY.out).mono ?_; rintro e x1 ⟨zj, rfl, hz, hzy, hb⟩
                   have HEX1 := Aside0.mk (HEJ.out.below hb); have HBX1 := Aside0.mk (below_then HBJ.out HBJ.out.size hb); have HRX1 := Aside0.mk (Kd.R_below HRJ.out hb); clear hz hzy hb)
                | ((with_reducible refine gate_dst (N := 14) rfl ?_); refine new_at rfl (t := 31) rfl noItem.cells (itemV noItem) (fun W => zero_item W) rfl ?_; intro g14 hg x2 hk hb
                   have BZ14 := Aside0.mk hk; have XA14 := Aside0.mk hb; have G14 : Aside0 (x1.heap.size ≤ g14) := Aside0.mk (by omega); clear hk hb hg)
                | ((with_reducible refine gate_store (p := 14) rfl ?_); refine store_at rfl (t := 31) rfl rfl g14 0 _ 31 _ rfl rfl BZ14.out zj.cells rfl size_item (show (6 : Nat) ≤ 6 from Nat.le_refl 6) (cells_one _) ?_; intro x3 hk hg
                   have XB14 := Aside0.mk (pw_below_grown XA14.out (some g14) XA14.out.size hg (fun k e => by cases e; exact G14.out))
                   have HEX3 := Aside0.mk (HEX1.out.below XB14.out); have HBX3 := Aside0.mk (below_then HBX1.out HBX1.out.size XB14.out); have HRX3 := Aside0.mk (Kd.R_below HRX1.out XB14.out); clear hk hg)
                | (go_at_call 15; refine (Release.to HEX3.out HST.out HLJ.out.n0 (by have h1 := HLJ.out.n1; have h2 := HIN.out.le; omega) HRV.out).mono ?_; rintro e x4 ⟨rfl, he, hc⟩
                   have HEX4 := Aside0.mk he; have HBX4 := Aside0.mk (hc.below HBX3.out HBX3.out.size HP.out HQ.out); have HRX4 := Aside0.mk (R_chg HRX3.out hc); clear he hc))
              go_roundg k2
              case measure => have := HKJ.out; omega
              case rel => exact ⟨j + 1, sr, (by first | rfl | (simp; done) | (simp [*]; done)), ⟨by have := HKJ.out; omega⟩, ⟨by omega⟩, HEX4, HLR, HRX4, HBX4⟩
            · have c8' : ¬ (j : Int) < (hs.length : Int) := by omega
              have hnil := Aside0.mk (HLJ.out.no (by omega))
              go_wp2_with (first
                | (go_at_call 9; refine (Get.to HEJ.out (fits0 _ hnil.out) (get_nil _ hnil.out _)).mono ?_; rintro e x1 ⟨zj, rfl, hz, hzy, hb⟩
                   have HBX1 := Aside0.mk (below_then HBJ.out HBJ.out.size hb); clear hz hzy hb)
                | ((with_reducible refine gate_dst (N := 16) rfl ?_); refine new_at rfl (t := 31) rfl noItem.cells (itemV noItem) (fun W => zero_item W) rfl ?_; intro g16 hg x2 hk hb
                   have BZ16 := Aside0.mk hk; have XA16 := Aside0.mk hb; have G16 : Aside0 (x1.heap.size ≤ g16) := Aside0.mk (by omega); clear hk hb hg)
                | ((with_reducible refine gate_store (p := 16) rfl ?_); refine store_at rfl (t := 31) rfl rfl g16 0 _ 31 _ rfl rfl BZ16.out zj.cells rfl size_item (show (6 : Nat) ≤ 6 from Nat.le_refl 6) (cells_one _) ?_; intro x3 hk hg
                   have XB16 := Aside0.mk (pw_below_grown XA16.out (some g16) XA16.out.size hg (fun k e => by cases e; exact G16.out))
                   have HBX3 := Aside0.mk (below_then HBX1.out HBX1.out.size XB16.out); clear hk hg))
              go_ret
              exact ⟨rfl, HBX3.out⟩
end Go.Proofs.Ytmankbhlgjgnbaa.PAll
