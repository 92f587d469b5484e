import Derived.Test.YtonkoellfaopiaaGreatDoorV8
set_option linter.unusedSimpArgs false
set_option linter.unusedVariables false
namespace Go.Proofs.YtonkoellfaopiaaGreatDoor.H
open Go
noncomputable section
abbrev P29 (q : YF) (kk : PK S) : PK S := PG q 29 Tryz.f29 kk
abbrev H29 (q : YF) : Nat → PK S := HG q 29 Tryz.f29
def s29_0 (a : D33) (v0 : Int) : St := mkSt [(8, ii v0), (6, S.t (T.rows 4 a.fCools.n fun i => e125 (a.fCools.get i))), (1, S.ptr 0 0), (7, ii (ofN a.fCools.n))] 1 [(0, B.box (List.map S.t (e33 a)))]
def K29_0 (a : D33) (kk : PK S) : Int → OS := fun v0=> kk 2 0 0 (s29_0 a v0)
def s29_1 (a : D33) (v0 : D125) (v1 : Int) (v2 : Bool) (u3 u4 u5 : BA) (u6 : D125) (u7 u8 u9 : Bool) (u10 : D125) (u11 u12 u13 : BA) (u14 : Int) (u15 u16 : Bool) (u17 u18 : Int) (u19 u20 u21 u22 u23 u24 u25 u26 u27 u28 : S) (u29 : Bool) (u30 : S) : St := mkSt [(32, u19), (16, S.agg [ss u3, ss u4, ss u5]), (8, ii v1), (24, u20), (4, S.ptr 5 0), (12, ag (e125 u6)), (28, u21), (34, u22), (18, bb u7), (10, ii u14), (26, u23), (6, S.t (T.rows 4 a.fCools.n fun i => e125 (a.fCools.get i))), (22, bb u15), (14, ag (e33 a)), (30, u24), (1, S.ptr 0 0), (33, u25), (17, S.sl 11 1), (9, bb u16), (25, u26), (21, ii u17), (13, bb u8), (29, u27), (3, ii u18), (35, bb v2), (19, bb u9), (11, S.pt (e125 u10)), (27, u28), (7, ii (ofN a.fCools.n)), (23, bb u29), (15, S.ptr 5 0), (31, u30)] 31 [(0, B.box (List.map S.t (e33 a))), (5, B.box (List.map S.t (e125 v0))), (11, B.lst false 3 1 [ss u11, ss u12, ss u13])]
abbrev T29_1 : Type := D125 → Int → Bool → BA → BA → BA → D125 → Bool → Bool → Bool → D125 → BA → BA → BA → Int → Bool → Bool → Int → Int → S → S → S → S → S → S → S → S → S → S → Bool → S → OS
def K29_1 (a : D33) (kk : PK S) : T29_1 := fun v0 v1 v2 u3 u4 u5 u6 u7 u8 u9 u10 u11 u12 u13 u14 u15 u16 u17 u18 u19 u20 u21 u22 u23 u24 u25 u26 u27 u28 u29 u30=> kk 6 16 15 (s29_1 a v0 v1 v2 u3 u4 u5 u6 u7 u8 u9 u10 u11 u12 u13 u14 u15 u16 u17 u18 u19 u20 u21 u22 u23 u24 u25 u26 u27 u28 u29 u30)
def b29_0 (q : YF) (a : D33) (k1 : T29_1) (v0 : Int) : OS := bif ltI v0 (ofN a.fCools.n) then elemO v0 a.fCools.n fun h => yC q 65 [ag (e33 a), S.t (T.rows 3 1 fun i => List.take 3 (List.drop (↑i * 3) [ts (a.fCools.get (Fin.mk v0.toNat h)).fOffer_Type, ts (a.fCools.get (Fin.mk v0.toNat h)).fOffer_Zone, ts (a.fCools.get (Fin.mk v0.toNat h)).fOffer_Kind]))] fun y => bif !y.b 0 then some (ii 5) else bif gtI v0 0 then elemO (subI .i64 v0 1) a.fCools.n fun h_1 => yC q 69 [S.agg [ss (a.fCools.get (Fin.mk (subI .i64 v0 1).toNat h_1)).fOffer_Type, ss (a.fCools.get (Fin.mk (subI .i64 v0 1).toNat h_1)).fOffer_Zone, ss (a.fCools.get (Fin.mk (subI .i64 v0 1).toNat h_1)).fOffer_Kind], S.agg [ss (a.fCools.get (Fin.mk v0.toNat h)).fOffer_Type, ss (a.fCools.get (Fin.mk v0.toNat h)).fOffer_Zone, ss (a.fCools.get (Fin.mk v0.toNat h)).fOffer_Kind]] fun y_1 => k1 (a.fCools.get (Fin.mk v0.toNat h)) v0 (geI (y_1.i 0) 0) (a.fCools.get (Fin.mk v0.toNat h)).fOffer_Type (a.fCools.get (Fin.mk v0.toNat h)).fOffer_Zone (a.fCools.get (Fin.mk v0.toNat h)).fOffer_Kind (a.fCools.get (Fin.mk v0.toNat h)) (y.b 0) (!y.b 0) (!y.b 0) (a.fCools.get (Fin.mk v0.toNat h)) (a.fCools.get (Fin.mk v0.toNat h)).fOffer_Type (a.fCools.get (Fin.mk v0.toNat h)).fOffer_Zone (a.fCools.get (Fin.mk v0.toNat h)).fOffer_Kind v0 (gtI v0 0) (ltI v0 (ofN a.fCools.n)) v0 v0 (S.agg [ss (a.fCools.get (Fin.mk v0.toNat h)).fOffer_Type, ss (a.fCools.get (Fin.mk v0.toNat h)).fOffer_Zone, ss (a.fCools.get (Fin.mk v0.toNat h)).fOffer_Kind]) (S.ptr 0 11) (S.pt (e125 (a.fCools.get (Fin.mk (subI .i64 v0 1).toNat h_1)))) (bb (geI (y_1.i 0) 0)) (ii v0) (S.agg [ss (a.fCools.get (Fin.mk (subI .i64 v0 1).toNat h_1)).fOffer_Type, ss (a.fCools.get (Fin.mk (subI .i64 v0 1).toNat h_1)).fOffer_Zone, ss (a.fCools.get (Fin.mk (subI .i64 v0 1).toNat h_1)).fOffer_Kind]) (ii (y_1.i 0)) (S.t (T.rows 4 a.fCools.n fun i => e125 (a.fCools.get i))) (S.pt (e125 (a.fCools.get (Fin.mk (subI .i64 v0 1).toNat h_1)))) (ii (subI .i64 v0 1)) true (S.ptr 5 0) else k1 (a.fCools.get (Fin.mk v0.toNat h)) v0 false (a.fCools.get (Fin.mk v0.toNat h)).fOffer_Type (a.fCools.get (Fin.mk v0.toNat h)).fOffer_Zone (a.fCools.get (Fin.mk v0.toNat h)).fOffer_Kind (a.fCools.get (Fin.mk v0.toNat h)) (y.b 0) (!y.b 0) (!y.b 0) (a.fCools.get (Fin.mk v0.toNat h)) (a.fCools.get (Fin.mk v0.toNat h)).fOffer_Type (a.fCools.get (Fin.mk v0.toNat h)).fOffer_Zone (a.fCools.get (Fin.mk v0.toNat h)).fOffer_Kind v0 (gtI v0 0) (ltI v0 (ofN a.fCools.n)) v0 v0 S.ud S.ud S.ud S.ud S.ud S.ud S.ud S.ud S.ud S.ud false S.ud else some (ii 0)
def b29_1 (q : YF) (a : D33) (k0 : Int → OS) (v0 : D125) (v1 : Int) (v2 : Bool) (u3 u4 u5 : BA) (u6 : D125) (u7 u8 u9 : Bool) (u10 : D125) (u11 u12 u13 : BA) (u14 : Int) (u15 u16 : Bool) (u17 u18 : Int) (u19 u20 u21 u22 u23 u24 u25 u26 u27 u28 : S) (u29 : Bool) (u30 : S) : OS := bif v2 then some (ii 6) else yC q 22 [ii v0.fUntil] fun y => bif !y.b 0 then some (ii 1) else k0 (addI .i64 v1 1)
def e29_in (q : YF) (a : D33) (k0 : Int → OS) : OS := k0 0
structure X29 where
 x0 : Int → OS
 x1 : D125 → Int → Bool → OS
def D29_0 (X : X29) : Int → OS := fun v0 => X.x0 v0
def D29_1 (X : X29) : T29_1 := fun v0 v1 v2 _ _ _ _ _ _ _ _ _ _ _ _ _ _ _ _ _ _ _ _ _ _ _ _ _ _ _ _ => X.x1 v0 v1 v2
def X29s (q : YF) (a : D33) (X : X29) : X29 := ⟨fun v0 => b29_0 q a (D29_1 X) v0,
 fun v0 v1 v2 => b29_1 q a (D29_0 X) v0 v1 v2 dd dd dd dd dd dd dd dd dd dd dd dd dd dd dd dd dd dd dd dd dd dd dd dd dd dd dd dd⟩
def X29n (q : YF) (a : D33) : Nat → X29
 | 0 => ⟨fun _ => none, fun _ _ _ => none⟩
 | n + 1 => X29s q a (X29n q a n)
theorem l29_0 (q : YF) (a : D33) (kk : PK S) : K29_0 a (P29 q kk) = b29_0 q a (K29_1 a kk) := by
 kernel_rfl
theorem l29_1 (q : YF) (a : D33) (kk : PK S) : K29_1 a (P29 q kk) = b29_1 q a (K29_0 a kk) := by
 kernel_rfl
theorem l29_in (q : YF) (a : D33) (kk : PK S) : BG q kk 29 Tryz.f29 [ag (e33 a)] = e29_in q a (K29_0 a kk) := by
 kernel_rfl
theorem h29 (q : YF) (a : D33) : ∀ n, K29_0 a (H29 q n) = D29_0 (X29n q a n) ∧ K29_1 a (H29 q n) = D29_1 (X29n q a n)
 | 0 => ⟨rfl, rfl⟩
 | n + 1 => by
  obtain ⟨h0, h1⟩ := h29 q a n
  exact ⟨(l29_0 q a (H29 q n)).trans (by rw [h1]; kernel_rfl), (l29_1 q a (H29 q n)).trans (by rw [h0]; kernel_rfl)⟩
theorem W29 (a : D33) (n : Nat) (x : S) (h : e29_in (regs O) a (D29_0 (X29n (regs O) a n)) = some x) : (W O).callT 29 [ag (e33 a)] = some x := by
 refine WG (fn := Tryz.f29) (by kernel_rfl) (by kernel_rfl) (n := n) ?_
 refine (l29_in (regs O) a (H29 (regs O) n)).trans ?_
 obtain ⟨h0, h1⟩ := h29 (regs O) a n
 rw [h0]
 exact h
abbrev P30 (q : YF) (kk : PK S) : PK S := PG q 30 Tryz.f30 kk
abbrev H30 (q : YF) : Nat → PK S := HG q 30 Tryz.f30
def s30_0 (a : D33) (v0 : Int) (v1 v2 : List (S × S)) : St := mkSt [(4, S.mp 2), (12, ii v0), (10, S.t (T.rows 7 a.fInsts.n fun i => e91 (a.fInsts.get i))), (1, S.ptr 0 0), (3, S.mp 1), (11, ii (ofN a.fInsts.n))] 3 [(0, B.box (List.map S.t (e33 a))), (2, B.mp false v1), (1, B.mp false v2)]
abbrev T30_0 : Type := Int → (List (S × S)) → (List (S × S)) → OS
def K30_0 (a : D33) (kk : PK S) : T30_0 := fun v0 v1 v2=> kk 3 0 0 (s30_0 a v0 v1 v2)
def s30_1 (a : D33) (v0 : Bool) (v1 : D91) (v2 : Int) (v3 v4 : List (S × S)) (u5 : BA) (u6 : D91) (u7 : Bool) (u8 : D91) (u9 : Bool) (u10 u11 u12 : S) (u13 : Bool) : St := mkSt [(24, bb v0), (4, S.mp 2), (20, bb u9), (12, ii v2), (18, ss u5), (10, S.t (T.rows 7 a.fInsts.n fun i => e91 (a.fInsts.get i))), (6, S.ptr 6 0), (22, u10), (14, S.pt (e91 u6)), (1, S.ptr 0 0), (17, S.ptr 6 0), (21, u11), (13, bb u13), (3, S.mp 1), (19, bb u7), (11, ii (ofN a.fInsts.n)), (23, u12), (15, ag (e91 u8))] 33 [(0, B.box (List.map S.t (e33 a))), (2, B.mp false v3), (6, B.box (List.map S.t (e91 v1))), (1, B.mp false v4)]
abbrev T30_1 : Type := Bool → D91 → Int → (List (S × S)) → (List (S × S)) → BA → D91 → Bool → D91 → Bool → S → S → S → Bool → OS
def K30_1 (a : D33) (kk : PK S) : T30_1 := fun v0 v1 v2 v3 v4 u5 u6 u7 u8 u9 u10 u11 u12 u13=> kk 5 9 8 (s30_1 a v0 v1 v2 v3 v4 u5 u6 u7 u8 u9 u10 u11 u12 u13)
def s30_2 (a : D33) (v0 : Bool) (v1 : D91) (v2 : Int) (v3 v4 : List (S × S)) (u5 u6 : Bool) (u7 : BA) (u8 : S) (u9 : D91) (u10 : S) (u11 : Bool) (u12 : S) (u13 : D91) (u14 u15 : S) (u16 : Bool) (u17 : S) (u18 : Bool) : St := mkSt [(24, bb u5), (4, S.mp 2), (20, bb u6), (12, ii v2), (28, u14), (18, ss u7), (10, S.t (T.rows 7 a.fInsts.n fun i => e91 (a.fInsts.get i))), (26, u15), (6, S.ptr 6 0), (22, u8), (14, S.pt (e91 u9)), (1, S.ptr 0 0), (17, S.ptr 6 0), (25, bb u16), (21, u10), (13, bb u18), (29, bb v0), (3, S.mp 1), (19, bb u11), (11, ii (ofN a.fInsts.n)), (27, u17), (23, u12), (15, ag (e91 u13))] 33 [(0, B.box (List.map S.t (e33 a))), (2, B.mp false v3), (6, B.box (List.map S.t (e91 v1))), (1, B.mp false v4)]
abbrev T30_2 : Type := Bool → D91 → Int → (List (S × S)) → (List (S × S)) → Bool → Bool → BA → S → D91 → S → Bool → S → D91 → S → S → Bool → S → Bool → OS
def K30_2 (a : D33) (kk : PK S) : T30_2 := fun v0 v1 v2 v3 v4 u5 u6 u7 u8 u9 u10 u11 u12 u13 u14 u15 u16 u17 u18=> kk 5 14 8 (s30_2 a v0 v1 v2 v3 v4 u5 u6 u7 u8 u9 u10 u11 u12 u13 u14 u15 u16 u17 u18)
def s30_3 (a : D33) (v0 : Bool) (v1 : D91) (v2 : Int) (v3 v4 : List (S × S)) (u5 u6 : Bool) (u7 : S) (u8 : BA) (u9 u10 : S) (u11 : D91) (u12 : Bool) (u13 : S) (u14 u15 : Bool) (u16 u17 : S) (u18 : D91) (u19 : S) (u20 : Bool) (u21 u22 : S) (u23 : Bool) : St := mkSt [(32, u19), (24, bb u5), (4, S.mp 2), (20, bb u6), (12, ii v2), (28, u7), (34, bb v0), (18, ss u8), (10, S.t (T.rows 7 a.fInsts.n fun i => e91 (a.fInsts.get i))), (26, u9), (6, S.ptr 6 0), (22, u10), (14, S.pt (e91 u11)), (30, bb u20), (1, S.ptr 0 0), (33, u21), (17, S.ptr 6 0), (25, bb u12), (21, u13), (13, bb u23), (29, bb u14), (3, S.mp 1), (19, bb u15), (11, ii (ofN a.fInsts.n)), (27, u16), (23, u17), (15, ag (e91 u18)), (31, u22)] 33 [(0, B.box (List.map S.t (e33 a))), (2, B.mp false v3), (6, B.box (List.map S.t (e91 v1))), (1, B.mp false v4)]
abbrev T30_3 : Type := Bool → D91 → Int → (List (S × S)) → (List (S × S)) → Bool → Bool → S → BA → S → S → D91 → Bool → S → Bool → Bool → S → S → D91 → S → Bool → S → S → Bool → OS
def K30_3 (a : D33) (kk : PK S) : T30_3 := fun v0 v1 v2 v3 v4 u5 u6 u7 u8 u9 u10 u11 u12 u13 u14 u15 u16 u17 u18 u19 u20 u21 u22 u23=> kk 5 19 8 (s30_3 a v0 v1 v2 v3 v4 u5 u6 u7 u8 u9 u10 u11 u12 u13 u14 u15 u16 u17 u18 u19 u20 u21 u22 u23)
def s30_4 (a : D33) (v0 : Bool) (v1 : D91) (v2 : Int) (v3 v4 : List (S × S)) (u5 : S) (u6 u7 : Bool) (u8 : S) (u9 : Bool) (u10 : BA) (u11 u12 : S) (u13 : D91) (u14 : Bool) (u15 : S) (u16 : Bool) (u17 : S) (u18 u19 : Bool) (u20 u21 : S) (u22 : D91) (u23 u24 u25 u26 : S) (u27 : Bool) (u28 : S) (u29 : Bool) : St := mkSt [(32, u5), (40, bb v0), (24, bb u6), (4, S.mp 2), (36, u24), (20, bb u7), (12, ii v2), (28, u8), (34, bb u9), (18, ss u10), (10, S.t (T.rows 7 a.fInsts.n fun i => e91 (a.fInsts.get i))), (26, u11), (6, S.ptr 6 0), (38, u25), (22, u12), (14, S.pt (e91 u13)), (30, bb u14), (1, S.ptr 0 0), (33, u15), (17, S.ptr 6 0), (25, bb u16), (37, u26), (21, u17), (13, bb u29), (29, bb u18), (3, S.mp 1), (35, bb u27), (19, bb u19), (11, ii (ofN a.fInsts.n)), (27, u20), (39, u28), (23, u21), (15, ag (e91 u22)), (31, u23)] 33 [(0, B.box (List.map S.t (e33 a))), (2, B.mp false v3), (6, B.box (List.map S.t (e91 v1))), (1, B.mp false v4)]
abbrev T30_4 : Type := Bool → D91 → Int → (List (S × S)) → (List (S × S)) → S → Bool → Bool → S → Bool → BA → S → S → D91 → Bool → S → Bool → S → Bool → Bool → S → S → D91 → S → S → S → S → Bool → S → Bool → OS
def K30_4 (a : D33) (kk : PK S) : T30_4 := fun v0 v1 v2 v3 v4 u5 u6 u7 u8 u9 u10 u11 u12 u13 u14 u15 u16 u17 u18 u19 u20 u21 u22 u23 u24 u25 u26 u27 u28 u29=> kk 5 25 8 (s30_4 a v0 v1 v2 v3 v4 u5 u6 u7 u8 u9 u10 u11 u12 u13 u14 u15 u16 u17 u18 u19 u20 u21 u22 u23 u24 u25 u26 u27 u28 u29)
def s30_5 (a : D33) (v0 : Bool) (v1 : D91) (v2 : Int) (v3 v4 : List (S × S)) (u5 : S) (u6 u7 u8 : Bool) (u9 : S) (u10 : Bool) (u11 : BA) (u12 : S) (u13 : Bool) (u14 : BA) (u15 u16 u17 : S) (u18 : D91) (u19 : Bool) (u20 : S) (u21 : Bool) (u22 u23 : S) (u24 u25 u26 u27 : Bool) (u28 u29 u30 : S) (u31 : D91) (u32 u33 u34 : S) (u35 : Bool) (u36 u37 : S) (u38 : Bool) : St := mkSt [(32, u5), (16, bb u6), (48, u33), (40, bb u7), (24, bb u8), (4, S.mp 2), (36, u9), (20, bb u10), (12, ii v2), (44, ss u11), (28, u12), (34, bb u13), (18, ss u14), (50, u34), (10, S.t (T.rows 7 a.fInsts.n fun i => e91 (a.fInsts.get i))), (42, S.mp 1), (26, u15), (6, S.ptr 6 0), (38, u16), (22, u17), (14, S.pt (e91 u18)), (46, bb u35), (30, bb u19), (1, S.ptr 0 0), (33, u20), (17, S.ptr 6 0), (49, u36), (25, bb u21), (37, u22), (21, u23), (13, bb u38), (45, bb u24), (29, bb u25), (3, S.mp 1), (35, bb u26), (19, bb u27), (51, bb v0), (11, ii (ofN a.fInsts.n)), (43, S.ptr 6 0), (27, u28), (39, u29), (23, u30), (15, ag (e91 u31)), (47, u37), (31, u32)] 44 [(0, B.box (List.map S.t (e33 a))), (2, B.mp false v3), (6, B.box (List.map S.t (e91 v1))), (1, B.mp false v4)]
abbrev T30_5 : Type := Bool → D91 → Int → (List (S × S)) → (List (S × S)) → S → Bool → Bool → Bool → S → Bool → BA → S → Bool → BA → S → S → S → D91 → Bool → S → Bool → S → S → Bool → Bool → Bool → Bool → S → S → S → D91 → S → S → S → Bool → S → S → Bool → OS
def K30_5 (a : D33) (kk : PK S) : T30_5 := fun v0 v1 v2 v3 v4 u5 u6 u7 u8 u9 u10 u11 u12 u13 u14 u15 u16 u17 u18 u19 u20 u21 u22 u23 u24 u25 u26 u27 u28 u29 u30 u31 u32 u33 u34 u35 u36 u37 u38=> kk 7 11 33 (s30_5 a v0 v1 v2 v3 v4 u5 u6 u7 u8 u9 u10 u11 u12 u13 u14 u15 u16 u17 u18 u19 u20 u21 u22 u23 u24 u25 u26 u27 u28 u29 u30 u31 u32 u33 u34 u35 u36 u37 u38)
def b30_0 (q : YF) (a : D33) (k1 : T30_1) (v0 : Int) (v1 v2 : List (S × S)) : OS := bif ltI v0 (ofN a.fInsts.n) then elemO v0 a.fInsts.n fun h => bif strEq (a.fInsts.get (Fin.mk v0.toNat h)).fId (bs []) then k1 true (a.fInsts.get (Fin.mk v0.toNat h)) v0 v1 v2 (a.fInsts.get (Fin.mk v0.toNat h)).fId (a.fInsts.get (Fin.mk v0.toNat h)) (strEq (a.fInsts.get (Fin.mk v0.toNat h)).fId (bs [])) (a.fInsts.get (Fin.mk v0.toNat h)) true S.ud S.ud S.ud (ltI v0 (ofN a.fInsts.n)) else k1 (strEq (a.fInsts.get (Fin.mk v0.toNat h)).fToken (bs [])) (a.fInsts.get (Fin.mk v0.toNat h)) v0 v1 v2 (a.fInsts.get (Fin.mk v0.toNat h)).fId (a.fInsts.get (Fin.mk v0.toNat h)) (strEq (a.fInsts.get (Fin.mk v0.toNat h)).fId (bs [])) (a.fInsts.get (Fin.mk v0.toNat h)) false (ss (a.fInsts.get (Fin.mk v0.toNat h)).fToken) (S.ptr 6 1) (bb (strEq (a.fInsts.get (Fin.mk v0.toNat h)).fToken (bs []))) (ltI v0 (ofN a.fInsts.n)) else some (ii 0)
def b30_1 (q : YF) (a : D33) (k2 : T30_2) (v0 : Bool) (v1 : D91) (v2 : Int) (v3 v4 : List (S × S)) (u5 : BA) (u6 : D91) (u7 : Bool) (u8 : D91) (u9 : Bool) (u10 u11 u12 : S) (u13 : Bool) : OS := bif v0 then k2 true v1 v2 v3 v4 v0 u9 u5 u10 u6 u11 u7 u12 u8 S.ud S.ud true S.ud u13 else k2 (ltI v1.fState 1) v1 v2 v3 v4 v0 u9 u5 u10 u6 u11 u7 u12 u8 (bb (ltI v1.fState 1)) (S.ptr 6 5) false (ii v1.fState) u13
def b30_2 (q : YF) (a : D33) (k3 : T30_3) (v0 : Bool) (v1 : D91) (v2 : Int) (v3 v4 : List (S × S)) (u5 u6 : Bool) (u7 : BA) (u8 : S) (u9 : D91) (u10 : S) (u11 : Bool) (u12 : S) (u13 : D91) (u14 u15 : S) (u16 : Bool) (u17 : S) (u18 : Bool) : OS := bif v0 then k3 true v1 v2 v3 v4 u5 u6 u14 u7 u15 u8 u9 u16 u10 v0 u11 u17 u12 u13 S.ud true S.ud S.ud u18 else k3 (gtI v1.fState 3) v1 v2 v3 v4 u5 u6 u14 u7 u15 u8 u9 u16 u10 v0 u11 u17 u12 u13 (ii v1.fState) false (bb (gtI v1.fState 3)) (S.ptr 6 5) u18
def b30_3 (q : YF) (a : D33) (k4 : T30_4) (v0 : Bool) (v1 : D91) (v2 : Int) (v3 v4 : List (S × S)) (u5 u6 : Bool) (u7 : S) (u8 : BA) (u9 u10 : S) (u11 : D91) (u12 : Bool) (u13 : S) (u14 u15 : Bool) (u16 u17 : S) (u18 : D91) (u19 : S) (u20 : Bool) (u21 u22 : S) (u23 : Bool) : OS := bif v0 then k4 true v1 v2 v3 v4 u19 u5 u6 u7 v0 u8 u9 u10 u11 u20 u21 u12 u13 u14 u15 u16 u17 u18 u22 S.ud S.ud S.ud true S.ud u23 else yC q 22 [ii v1.fReady] fun y => k4 (!y.b 0) v1 v2 v3 v4 u19 u5 u6 u7 v0 u8 u9 u10 u11 u20 u21 u12 u13 u14 u15 u16 u17 u18 u22 (S.ptr 6 6) (bb (y.b 0)) (ii v1.fReady) false (S.t (T.v (.bool !y.b 0))) u23
def b30_4 (q : YF) (a : D33) (k5 : T30_5) (v0 : Bool) (v1 : D91) (v2 : Int) (v3 v4 : List (S × S)) (u5 : S) (u6 u7 : Bool) (u8 : S) (u9 : Bool) (u10 : BA) (u11 u12 : S) (u13 : D91) (u14 : Bool) (u15 : S) (u16 : Bool) (u17 : S) (u18 u19 : Bool) (u20 u21 : S) (u22 : D91) (u23 u24 u25 u26 : S) (u27 : Bool) (u28 : S) (u29 : Bool) : OS := bif v0 then some (ii 1) else lookW O.P O.K 9 4 v4 (ss v1.fId) (fun y => bif y.b 0 then k5 true v1 v2 v3 v4 u5 v0 v0 u6 u24 u7 v1.fId u8 u9 u10 u11 u25 u12 u13 u14 u15 u16 u26 u17 (y.b 0) u18 u27 u19 u20 u28 u21 u22 u23 S.ud S.ud true S.ud S.ud u29 else lookW O.P O.K 9 4 v3 (ss v1.fToken) (fun y_1 => k5 (y_1.b 0) v1 v2 v3 v4 u5 v0 v0 u6 u24 u7 v1.fId u8 u9 u10 u11 u25 u12 u13 u14 u15 u16 u26 u17 (y.b 0) u18 u27 u19 u20 u28 u21 u22 u23 (S.ptr 6 1) (bb (y_1.b 0)) false (ss v1.fToken) (S.mp 2) u29) (k5 false v1 v2 v3 v4 u5 v0 v0 u6 u24 u7 v1.fId u8 u9 u10 u11 u25 u12 u13 u14 u15 u16 u26 u17 (y.b 0) u18 u27 u19 u20 u28 u21 u22 u23 (S.ptr 6 1) (bb false) false (ss v1.fToken) (S.mp 2) u29)) (lookW O.P O.K 9 4 v3 (ss v1.fToken) (fun y => k5 (y.b 0) v1 v2 v3 v4 u5 v0 v0 u6 u24 u7 v1.fId u8 u9 u10 u11 u25 u12 u13 u14 u15 u16 u26 u17 false u18 u27 u19 u20 u28 u21 u22 u23 (S.ptr 6 1) (bb (y.b 0)) false (ss v1.fToken) (S.mp 2) u29) (k5 false v1 v2 v3 v4 u5 v0 v0 u6 u24 u7 v1.fId u8 u9 u10 u11 u25 u12 u13 u14 u15 u16 u26 u17 false u18 u27 u19 u20 u28 u21 u22 u23 (S.ptr 6 1) (bb false) false (ss v1.fToken) (S.mp 2) u29))
def b30_5 (q : YF) (a : D33) (k0 : T30_0) (v0 : Bool) (v1 : D91) (v2 : Int) (v3 v4 : List (S × S)) (u5 : S) (u6 u7 u8 : Bool) (u9 : S) (u10 : Bool) (u11 : BA) (u12 : S) (u13 : Bool) (u14 : BA) (u15 u16 u17 : S) (u18 : D91) (u19 : Bool) (u20 : S) (u21 : Bool) (u22 u23 : S) (u24 u25 u26 u27 : Bool) (u28 u29 u30 : S) (u31 : D91) (u32 u33 u34 : S) (u35 : Bool) (u36 u37 : S) (u38 : Bool) : OS := bif v0 then some (ii 6) else yC q 65 [ag (e33 a), S.t (T.rows 3 1 fun i => List.take 3 (List.drop (↑i * 3) [ts v1.fOffer_Type, ts v1.fOffer_Zone, ts v1.fOffer_Kind]))] fun y => bif !y.b 0 then some (ii 5) else updW O.P O.K 9 v4 (ss v1.fId) (bb true) fun m => updW O.P O.K 9 v3 (ss v1.fToken) (bb true) fun m_1 => flatW 900 m (flatW 900 m_1 (k0 (addI .i64 v2 1) m_1 m))
def e30_in (q : YF) (a : D33) (k0 : T30_0) : OS := flatW 900 [] (flatW 900 [] (k0 0 [] []))
structure X30 where
 x0 : Int → (List (S × S)) → (List (S × S)) → OS
 x1 : Bool → D91 → Int → (List (S × S)) → (List (S × S)) → OS
 x2 : Bool → D91 → Int → (List (S × S)) → (List (S × S)) → OS
 x3 : Bool → D91 → Int → (List (S × S)) → (List (S × S)) → OS
 x4 : Bool → D91 → Int → (List (S × S)) → (List (S × S)) → OS
 x5 : Bool → D91 → Int → (List (S × S)) → (List (S × S)) → OS
def D30_0 (X : X30) : T30_0 := fun v0 v1 v2 => X.x0 v0 v1 v2
def D30_1 (X : X30) : T30_1 := fun v0 v1 v2 v3 v4 _ _ _ _ _ _ _ _ _ => X.x1 v0 v1 v2 v3 v4
def D30_2 (X : X30) : T30_2 := fun v0 v1 v2 v3 v4 _ _ _ _ _ _ _ _ _ _ _ _ _ _ => X.x2 v0 v1 v2 v3 v4
def D30_3 (X : X30) : T30_3 := fun v0 v1 v2 v3 v4 _ _ _ _ _ _ _ _ _ _ _ _ _ _ _ _ _ _ _ => X.x3 v0 v1 v2 v3 v4
def D30_4 (X : X30) : T30_4 := fun v0 v1 v2 v3 v4 _ _ _ _ _ _ _ _ _ _ _ _ _ _ _ _ _ _ _ _ _ _ _ _ _ => X.x4 v0 v1 v2 v3 v4
def D30_5 (X : X30) : T30_5 := fun v0 v1 v2 v3 v4 _ _ _ _ _ _ _ _ _ _ _ _ _ _ _ _ _ _ _ _ _ _ _ _ _ _ _ _ _ _ _ _ _ _ => X.x5 v0 v1 v2 v3 v4
def X30s (q : YF) (a : D33) (X : X30) : X30 := ⟨fun v0 v1 v2 => b30_0 q a (D30_1 X) v0 v1 v2,
 fun v0 v1 v2 v3 v4 => b30_1 q a (D30_2 X) v0 v1 v2 v3 v4 dd dd dd dd dd dd dd dd dd,
 fun v0 v1 v2 v3 v4 => b30_2 q a (D30_3 X) v0 v1 v2 v3 v4 dd dd dd dd dd dd dd dd dd dd dd dd dd dd,
 fun v0 v1 v2 v3 v4 => b30_3 q a (D30_4 X) v0 v1 v2 v3 v4 dd dd dd dd dd dd dd dd dd dd dd dd dd dd dd dd dd dd dd,
 fun v0 v1 v2 v3 v4 => b30_4 q a (D30_5 X) v0 v1 v2 v3 v4 dd dd dd dd dd dd dd dd dd dd dd dd dd dd dd dd dd dd dd dd dd dd dd dd dd,
 fun v0 v1 v2 v3 v4 => b30_5 q a (D30_0 X) v0 v1 v2 v3 v4 dd dd dd dd dd dd dd dd dd dd dd dd dd dd dd dd dd dd dd dd dd dd dd dd dd dd dd dd dd dd dd dd dd dd⟩
def X30n (q : YF) (a : D33) : Nat → X30
 | 0 => ⟨fun _ _ _ => none, fun _ _ _ _ _ => none, fun _ _ _ _ _ => none, fun _ _ _ _ _ => none, fun _ _ _ _ _ => none, fun _ _ _ _ _ => none⟩
 | n + 1 => X30s q a (X30n q a n)
theorem l30_0 (q : YF) (a : D33) (kk : PK S) : K30_0 a (P30 q kk) = b30_0 q a (K30_1 a kk) := by
 kernel_rfl
theorem l30_1 (q : YF) (a : D33) (kk : PK S) : K30_1 a (P30 q kk) = b30_1 q a (K30_2 a kk) := by
 kernel_rfl
theorem l30_2 (q : YF) (a : D33) (kk : PK S) : K30_2 a (P30 q kk) = b30_2 q a (K30_3 a kk) := by
 kernel_rfl
theorem l30_3 (q : YF) (a : D33) (kk : PK S) : K30_3 a (P30 q kk) = b30_3 q a (K30_4 a kk) := by
 kernel_rfl
theorem l30_4 (q : YF) (a : D33) (kk : PK S) : K30_4 a (P30 q kk) = b30_4 q a (K30_5 a kk) := by
 kernel_rfl
theorem l30_5 (q : YF) (a : D33) (kk : PK S) : K30_5 a (P30 q kk) = b30_5 q a (K30_0 a kk) := by
 kernel_rfl
theorem l30_in (q : YF) (a : D33) (kk : PK S) : BG q kk 30 Tryz.f30 [ag (e33 a)] = e30_in q a (K30_0 a kk) := by
 kernel_rfl
theorem h30 (q : YF) (a : D33) : ∀ n, K30_0 a (H30 q n) = D30_0 (X30n q a n) ∧ K30_1 a (H30 q n) = D30_1 (X30n q a n) ∧ K30_2 a (H30 q n) = D30_2 (X30n q a n) ∧ K30_3 a (H30 q n) = D30_3 (X30n q a n) ∧ K30_4 a (H30 q n) = D30_4 (X30n q a n) ∧ K30_5 a (H30 q n) = D30_5 (X30n q a n)
 | 0 => ⟨rfl, rfl, rfl, rfl, rfl, rfl⟩
 | n + 1 => by
  obtain ⟨h0, h1, h2, h3, h4, h5⟩ := h30 q a n
  exact ⟨(l30_0 q a (H30 q n)).trans (by rw [h1]; kernel_rfl), (l30_1 q a (H30 q n)).trans (by rw [h2]; kernel_rfl), (l30_2 q a (H30 q n)).trans (by rw [h3]; kernel_rfl), (l30_3 q a (H30 q n)).trans (by rw [h4]; kernel_rfl), (l30_4 q a (H30 q n)).trans (by rw [h5]; kernel_rfl), (l30_5 q a (H30 q n)).trans (by rw [h0]; kernel_rfl)⟩
theorem W30 (a : D33) (n : Nat) (x : S) (h : e30_in (regs O) a (D30_0 (X30n (regs O) a n)) = some x) : (W O).callT 30 [ag (e33 a)] = some x := by
 refine WG (fn := Tryz.f30) (by kernel_rfl) (by kernel_rfl) (n := n) ?_
 refine (l30_in (regs O) a (H30 (regs O) n)).trans ?_
 obtain ⟨h0, h1, h2, h3, h4, h5⟩ := h30 (regs O) a n
 rw [h0]
 exact h
abbrev P31 (q : YF) (kk : PK S) : PK S := PG q 31 Tryz.f31 kk
abbrev H31 (q : YF) : Nat → PK S := HG q 31 Tryz.f31
def s31_0 (a : Int) (v0 : Bool) (u1 : S) (u2 : Bool) (u3 : S) : St := mkSt [(0, ii a), (8, bb v0), (4, bb (geI a 0)), (2, bb false), (6, u1), (5, bb u2), (3, ii a), (7, u3)] 8 []
abbrev T31_0 : Type := Bool → S → Bool → S → OS
def K31_0 (a : Int) (kk : PK S) : T31_0 := fun v0 u1 u2 u3=> kk 1 7 1 (s31_0 a v0 u1 u2 u3)
def b31_0 (q : YF) (a : Int) (v0 : Bool) (u1 : S) (u2 : Bool) (u3 : S) : OS := some (bb v0)
def e31_in (q : YF) (a : Int) (k0 : T31_0) : OS := bif geI a 0 then k0 (leI a 1099511627776) (ii a) true (bb (leI a 1099511627776)) else k0 false S.ud false S.ud
structure X31 where
 x0 : Bool → OS
def D31_0 (X : X31) : T31_0 := fun v0 _ _ _ => X.x0 v0
def X31s (q : YF) (a : Int) (X : X31) : X31 := ⟨fun v0 => b31_0 q a v0 dd dd dd⟩
def X31n (q : YF) (a : Int) : Nat → X31
 | 0 => ⟨fun _ => none⟩
 | n + 1 => X31s q a (X31n q a n)
theorem l31_0 (q : YF) (a : Int) (kk : PK S) : K31_0 a (P31 q kk) = b31_0 q a := by
 kernel_rfl
theorem l31_in (q : YF) (a : Int) (kk : PK S) : BG q kk 31 Tryz.f31 [ii a] = e31_in q a (K31_0 a kk) := by
 kernel_rfl
theorem h31 (q : YF) (a : Int) : ∀ n, K31_0 a (H31 q n) = D31_0 (X31n q a n)
 | 0 => rfl
 | n + 1 => by
  have h0 := h31 q a n
  exact (l31_0 q a (H31 q n)).trans (by kernel_rfl)
theorem W31 (a : Int) (n : Nat) (x : S) (h : e31_in (regs O) a (D31_0 (X31n (regs O) a n)) = some x) : (W O).callT 31 [ii a] = some x := by
 refine WG (fn := Tryz.f31) (by kernel_rfl) (by kernel_rfl) (n := n) ?_
 refine (l31_in (regs O) a (H31 (regs O) n)).trans ?_
 have h0 := h31 (regs O) a n
 rw [h0]
 exact h
abbrev P32 (q : YF) (kk : PK S) : PK S := PG q 32 Tryz.f32 kk
abbrev H32 (q : YF) : Nat → PK S := HG q 32 Tryz.f32
def s32_0 (a : Int) (v0 : Bool) (u1 : S) (u2 : Bool) (u3 : S) : St := mkSt [(0, ii a), (8, bb v0), (4, bb (geI a 0)), (2, bb false), (6, u1), (5, bb u2), (3, ii a), (7, u3)] 8 []
def K32_0 (a : Int) (kk : PK S) : T31_0 := fun v0 u1 u2 u3=> kk 1 7 1 (s32_0 a v0 u1 u2 u3)
def b32_0 (q : YF) (a : Int) (v0 : Bool) (u1 : S) (u2 : Bool) (u3 : S) : OS := some (bb v0)
def e32_in (q : YF) (a : Int) (k0 : T31_0) : OS := bif geI a 0 then k0 (leI a 1073741824) (ii a) true (bb (leI a 1073741824)) else k0 false S.ud false S.ud
structure X32 where
 x0 : Bool → OS
def D32_0 (X : X32) : T31_0 := fun v0 _ _ _ => X.x0 v0
def X32s (q : YF) (a : Int) (X : X32) : X32 := ⟨fun v0 => b32_0 q a v0 dd dd dd⟩
def X32n (q : YF) (a : Int) : Nat → X32
 | 0 => ⟨fun _ => none⟩
 | n + 1 => X32s q a (X32n q a n)
theorem l32_0 (q : YF) (a : Int) (kk : PK S) : K32_0 a (P32 q kk) = b32_0 q a := by
 kernel_rfl
theorem l32_in (q : YF) (a : Int) (kk : PK S) : BG q kk 32 Tryz.f32 [ii a] = e32_in q a (K32_0 a kk) := by
 kernel_rfl
theorem h32 (q : YF) (a : Int) : ∀ n, K32_0 a (H32 q n) = D32_0 (X32n q a n)
 | 0 => rfl
 | n + 1 => by
  have h0 := h32 q a n
  exact (l32_0 q a (H32 q n)).trans (by kernel_rfl)
theorem W32 (a : Int) (n : Nat) (x : S) (h : e32_in (regs O) a (D32_0 (X32n (regs O) a n)) = some x) : (W O).callT 32 [ii a] = some x := by
 refine WG (fn := Tryz.f32) (by kernel_rfl) (by kernel_rfl) (n := n) ?_
 refine (l32_in (regs O) a (H32 (regs O) n)).trans ?_
 have h0 := h32 (regs O) a n
 rw [h0]
 exact h
abbrev P33 (q : YF) (kk : PK S) : PK S := PG q 33 Tryz.f33 kk
abbrev H33 (q : YF) : Nat → PK S := HG q 33 Tryz.f33
def s33_0 (a : Rw D112) (v0 : Int) : St := mkSt [(0, S.t (T.rows 7 a.n fun i => e112 (a.get i))), (3, ii v0)] 0 []
def K33_0 (a : Rw D112) (kk : PK S) : Int → OS := fun v0=> kk 4 0 0 (s33_0 a v0)
def s33_1 (a : Rw D112) (v0 v1 : Int) : St := mkSt [(0, S.t (T.rows 7 a.n fun i => e112 (a.get i))), (5, ii v1), (3, ii v0)] 0 []
def K33_1 (a : Rw D112) (kk : PK S) : Int → Int → OS := fun v0 v1=> kk 10 0 0 (s33_1 a v0 v1)
def b33_0 (q : YF) (a : Rw D112) (k1 : Int → Int → OS) (v0 : Int) : OS := bif ltI v0 (ofN a.n) then elemO v0 a.n fun h => yC q 70 [ag (e112 (a.get (Fin.mk v0.toNat h)))] fun y => bif !eqI (y.i 0) 0 then some (ii (y.i 0)) else k1 v0 0 else some (ii 0)
def b33_1 (q : YF) (a : Rw D112) (k0 : Int → OS) (k1 : Int → Int → OS) (v0 v1 : Int) : OS := bif ltI v1 v0 then elemO v1 a.n fun h => elemO v0 a.n fun h_1 => bif strEq (a.get (Fin.mk v1.toNat h)).fName (a.get (Fin.mk v0.toNat h_1)).fName then some (ii 6) else k1 v0 (addI .i64 v1 1) else k0 (addI .i64 v0 1)
def e33_in (q : YF) (a : Rw D112) (k0 : Int → OS) : OS := bif gtI (ofN a.n) 12 then some (ii 3) else k0 0
structure X33 where
 x0 : Int → OS
 x1 : Int → Int → OS
def D33_0 (X : X33) : Int → OS := fun v0 => X.x0 v0
def D33_1 (X : X33) : Int → Int → OS := fun v0 v1 => X.x1 v0 v1
def X33s (q : YF) (a : Rw D112) (X : X33) : X33 := ⟨fun v0 => b33_0 q a (D33_1 X) v0,
 fun v0 v1 => b33_1 q a (D33_0 X) (D33_1 X) v0 v1⟩
def X33n (q : YF) (a : Rw D112) : Nat → X33
 | 0 => ⟨fun _ => none, fun _ _ => none⟩
 | n + 1 => X33s q a (X33n q a n)
theorem l33_0 (q : YF) (a : Rw D112) (kk : PK S) : K33_0 a (P33 q kk) = b33_0 q a (K33_1 a kk) := by
 kernel_rfl
theorem l33_1 (q : YF) (a : Rw D112) (kk : PK S) : K33_1 a (P33 q kk) = b33_1 q a (K33_0 a kk) (K33_1 a kk) := by
 kernel_rfl
theorem l33_in (q : YF) (a : Rw D112) (kk : PK S) : BG q kk 33 Tryz.f33 [S.t (T.rows 7 a.n fun i => e112 (a.get i))] = e33_in q a (K33_0 a kk) := by
 kernel_rfl
theorem h33 (q : YF) (a : Rw D112) : ∀ n, K33_0 a (H33 q n) = D33_0 (X33n q a n) ∧ K33_1 a (H33 q n) = D33_1 (X33n q a n)
 | 0 => ⟨rfl, rfl⟩
 | n + 1 => by
  obtain ⟨h0, h1⟩ := h33 q a n
  exact ⟨(l33_0 q a (H33 q n)).trans (by rw [h1]; kernel_rfl), (l33_1 q a (H33 q n)).trans (by rw [h0, h1]; kernel_rfl)⟩
theorem W33 (a : Rw D112) (n : Nat) (x : S) (h : e33_in (regs O) a (D33_0 (X33n (regs O) a n)) = some x) : (W O).callT 33 [S.t (T.rows 7 a.n fun i => e112 (a.get i))] = some x := by
 refine WG (fn := Tryz.f33) (by kernel_rfl) (by kernel_rfl) (n := n) ?_
 refine (l33_in (regs O) a (H33 (regs O) n)).trans ?_
 obtain ⟨h0, h1⟩ := h33 (regs O) a n
 rw [h0]
 exact h
abbrev P34 (q : YF) (kk : PK S) : PK S := PG q 34 Tryz.f34 kk
abbrev H34 (q : YF) : Nat → PK S := HG q 34 Tryz.f34
def s34_0 (a : D77) (v0 : Bool) (u1 : Int) (u2 : Bool) (u3 u4 : Int) (u5 u6 : Bool) (u7 : Int) (u8 u9 : Bool) (u10 : Int) (u11 : Bool) (u12 u13 u14 u15 : Int) (u16 u17 : Bool) (u18 u19 u20 u21 : S) : St := mkSt [(0, ag (e77 a)), (32, ii u1), (16, bb (gtI a.fWeight 100)), (8, bb u2), (40, bb u17), (24, S.ptr 0 4), (4, ii u3), (36, S.ptr 0 6), (20, ii u4), (12, bb (ltI a.fWeight 0)), (44, u18), (28, bb u5), (2, ii 0), (34, bb u6), (18, S.ptr 0 2), (10, S.ptr 0 1), (42, u19), (26, ii u7), (6, S.ptr 0 0), (38, bb u8), (22, bb u9), (14, S.ptr 0 1), (30, S.ptr 0 5), (1, S.ptr 0 0), (33, ii u10), (17, bb (gtI a.fWeight 100)), (9, bb u11), (41, u20), (25, S.t (T.rows 4 a.fReqs.n fun i => e68 (a.fReqs.get i))), (5, ii u12), (37, ii a.fGen), (21, ii u13), (13, bb false), (45, bb v0), (3, ii u14), (19, S.agg [ii a.fLimit_0, ii a.fLimit_1]), (11, ii a.fWeight), (43, u21), (27, ii u15), (7, ss a.fName), (39, bb u16), (15, ii a.fWeight), (31, S.t (T.rows 2 a.fTaints.n fun i => e88 (a.fTaints.get i)))] 62 [(0, B.box (List.map S.t (e77 a)))]
abbrev T34_0 : Type := Bool → Int → Bool → Int → Int → Bool → Bool → Int → Bool → Bool → Int → Bool → Int → Int → Int → Int → Bool → Bool → S → S → S → S → OS
def K34_0 (a : D77) (kk : PK S) : T34_0 := fun v0 u1 u2 u3 u4 u5 u6 u7 u8 u9 u10 u11 u12 u13 u14 u15 u16 u17 u18 u19 u20 u21=> kk 14 11 32 (s34_0 a v0 u1 u2 u3 u4 u5 u6 u7 u8 u9 u10 u11 u12 u13 u14 u15 u16 u17 u18 u19 u20 u21)
def s34_1 (a : D77) (v0 : Bool) (u1 : Int) (u2 u3 : Bool) (u4 u5 : Int) (u6 : S) (u7 u8 : Bool) (u9 : S) (u10 : Int) (u11 u12 : Bool) (u13 : Int) (u14 : Bool) (u15 : S) (u16 u17 : Int) (u18 : Bool) (u19 : Int) (u20 : S) (u21 : Int) (u22 : Bool) (u23 : S) (u24 : Bool) (u25 u26 : S) : St := mkSt [(0, ag (e77 a)), (32, ii u1), (16, bb (gtI a.fWeight 100)), (48, u23), (8, bb u2), (40, bb u3), (24, S.ptr 0 4), (4, ii u4), (36, S.ptr 0 6), (20, ii u5), (12, bb (ltI a.fWeight 0)), (44, u6), (28, bb u7), (2, ii 0), (34, bb u8), (18, S.ptr 0 2), (50, bb v0), (10, S.ptr 0 1), (42, u9), (26, ii u10), (6, S.ptr 0 0), (38, bb u11), (22, bb u12), (14, S.ptr 0 1), (46, bb u24), (30, S.ptr 0 5), (1, S.ptr 0 0), (33, ii u13), (17, bb (gtI a.fWeight 100)), (49, u25), (9, bb u14), (41, u15), (25, S.t (T.rows 4 a.fReqs.n fun i => e68 (a.fReqs.get i))), (5, ii u16), (37, ii a.fGen), (21, ii u17), (13, bb false), (45, bb u18), (3, ii u19), (19, S.agg [ii a.fLimit_0, ii a.fLimit_1]), (11, ii a.fWeight), (43, u20), (27, ii u21), (7, ss a.fName), (39, bb u22), (15, ii a.fWeight), (47, u26), (31, S.t (T.rows 2 a.fTaints.n fun i => e88 (a.fTaints.get i)))] 62 [(0, B.box (List.map S.t (e77 a)))]
abbrev T34_1 : Type := Bool → Int → Bool → Bool → Int → Int → S → Bool → Bool → S → Int → Bool → Bool → Int → Bool → S → Int → Int → Bool → Int → S → Int → Bool → S → Bool → S → S → OS
def K34_1 (a : D77) (kk : PK S) : T34_1 := fun v0 u1 u2 u3 u4 u5 u6 u7 u8 u9 u10 u11 u12 u13 u14 u15 u16 u17 u18 u19 u20 u21 u22 u23 u24 u25 u26=> kk 14 16 32 (s34_1 a v0 u1 u2 u3 u4 u5 u6 u7 u8 u9 u10 u11 u12 u13 u14 u15 u16 u17 u18 u19 u20 u21 u22 u23 u24 u25 u26)
def s34_2 (a : D77) (v0 : Bool) (u1 : Int) (u2 : S) (u3 u4 : Bool) (u5 u6 : Int) (u7 : S) (u8 u9 u10 : Bool) (u11 : S) (u12 : Int) (u13 u14 u15 : Bool) (u16 : Int) (u17 : S) (u18 : Bool) (u19 : S) (u20 u21 : Int) (u22 : Bool) (u23 : Int) (u24 : S) (u25 : Int) (u26 : Bool) (u27 u28 u29 u30 : S) (u31 : Bool) : St := mkSt [(0, ag (e77 a)), (32, ii u1), (16, bb (gtI a.fWeight 100)), (48, u2), (8, bb u3), (40, bb u4), (24, S.ptr 0 4), (4, ii u5), (36, S.ptr 0 6), (20, ii u6), (52, u28), (12, bb (ltI a.fWeight 0)), (44, u7), (28, bb u8), (2, ii 0), (34, bb u9), (18, S.ptr 0 2), (50, bb u10), (10, S.ptr 0 1), (42, u11), (26, ii u12), (6, S.ptr 0 0), (38, bb u13), (22, bb u14), (54, u29), (14, S.ptr 0 1), (46, bb u15), (30, S.ptr 0 5), (1, S.ptr 0 0), (33, ii u16), (17, bb (gtI a.fWeight 100)), (49, u17), (9, bb u18), (41, u19), (25, S.t (T.rows 4 a.fReqs.n fun i => e68 (a.fReqs.get i))), (5, ii u20), (37, ii a.fGen), (21, ii u21), (53, u30), (13, bb false), (45, bb u22), (3, ii u23), (19, S.agg [ii a.fLimit_0, ii a.fLimit_1]), (51, bb u31), (11, ii a.fWeight), (43, u24), (27, ii u25), (7, ss a.fName), (39, bb u26), (55, bb v0), (15, ii a.fWeight), (47, u27), (31, S.t (T.rows 2 a.fTaints.n fun i => e88 (a.fTaints.get i)))] 62 [(0, B.box (List.map S.t (e77 a)))]
abbrev T34_2 : Type := Bool → Int → S → Bool → Bool → Int → Int → S → Bool → Bool → Bool → S → Int → Bool → Bool → Bool → Int → S → Bool → S → Int → Int → Bool → Int → S → Int → Bool → S → S → S → S → Bool → OS
def K34_2 (a : D77) (kk : PK S) : T34_2 := fun v0 u1 u2 u3 u4 u5 u6 u7 u8 u9 u10 u11 u12 u13 u14 u15 u16 u17 u18 u19 u20 u21 u22 u23 u24 u25 u26 u27 u28 u29 u30 u31=> kk 14 21 32 (s34_2 a v0 u1 u2 u3 u4 u5 u6 u7 u8 u9 u10 u11 u12 u13 u14 u15 u16 u17 u18 u19 u20 u21 u22 u23 u24 u25 u26 u27 u28 u29 u30 u31)
def s34_3 (a : D77) (v0 : Bool) (u1 : Int) (u2 : S) (u3 u4 : Bool) (u5 u6 : Int) (u7 u8 : S) (u9 u10 u11 : Bool) (u12 : S) (u13 : Int) (u14 u15 : Bool) (u16 : S) (u17 : Bool) (u18 : Int) (u19 : S) (u20 : Bool) (u21 : S) (u22 u23 : Int) (u24 : S) (u25 : Bool) (u26 : Int) (u27 : Bool) (u28 : S) (u29 : Int) (u30 u31 : Bool) (u32 : S) (u33 : Bool) (u34 u35 u36 : S) : St := mkSt [(0, ag (e77 a)), (32, ii u1), (16, bb (gtI a.fWeight 100)), (48, u2), (8, bb u3), (40, bb u4), (24, S.ptr 0 4), (56, bb u33), (4, ii u5), (36, S.ptr 0 6), (20, ii u6), (52, u7), (12, bb (ltI a.fWeight 0)), (44, u8), (28, bb u9), (60, bb v0), (2, ii 0), (34, bb u10), (18, S.ptr 0 2), (50, bb u11), (10, S.ptr 0 1), (42, u12), (26, ii u13), (58, u34), (6, S.ptr 0 0), (38, bb u14), (22, bb u15), (54, u16), (14, S.ptr 0 1), (46, bb u17), (30, S.ptr 0 5), (1, S.ptr 0 0), (33, ii u18), (17, bb (gtI a.fWeight 100)), (49, u19), (9, bb u20), (41, u21), (25, S.t (T.rows 4 a.fReqs.n fun i => e68 (a.fReqs.get i))), (57, u35), (5, ii u22), (37, ii a.fGen), (21, ii u23), (53, u24), (13, bb false), (45, bb u25), (3, ii u26), (19, S.agg [ii a.fLimit_0, ii a.fLimit_1]), (51, bb u27), (11, ii a.fWeight), (43, u28), (27, ii u29), (59, u36), (7, ss a.fName), (39, bb u30), (55, bb u31), (15, ii a.fWeight), (47, u32), (31, S.t (T.rows 2 a.fTaints.n fun i => e88 (a.fTaints.get i)))] 62 [(0, B.box (List.map S.t (e77 a)))]
abbrev T34_3 : Type := Bool → Int → S → Bool → Bool → Int → Int → S → S → Bool → Bool → Bool → S → Int → Bool → Bool → S → Bool → Int → S → Bool → S → Int → Int → S → Bool → Int → Bool → S → Int → Bool → Bool → S → Bool → S → S → S → OS
def K34_3 (a : D77) (kk : PK S) : T34_3 := fun v0 u1 u2 u3 u4 u5 u6 u7 u8 u9 u10 u11 u12 u13 u14 u15 u16 u17 u18 u19 u20 u21 u22 u23 u24 u25 u26 u27 u28 u29 u30 u31 u32 u33 u34 u35 u36=> kk 14 26 32 (s34_3 a v0 u1 u2 u3 u4 u5 u6 u7 u8 u9 u10 u11 u12 u13 u14 u15 u16 u17 u18 u19 u20 u21 u22 u23 u24 u25 u26 u27 u28 u29 u30 u31 u32 u33 u34 u35 u36)
def b34_0 (q : YF) (a : D77) (k1 : T34_1) (v0 : Bool) (u1 : Int) (u2 : Bool) (u3 u4 : Int) (u5 u6 : Bool) (u7 : Int) (u8 u9 : Bool) (u10 : Int) (u11 : Bool) (u12 u13 u14 u15 : Int) (u16 u17 : Bool) (u18 u19 u20 u21 : S) : OS := bif v0 then k1 true u1 u2 u17 u3 u4 u18 u5 u6 u19 u7 u8 u9 u10 u11 u20 u12 u13 v0 u14 u21 u15 u16 S.ud true S.ud S.ud else k1 (ltI a.fBudget 0) u1 u2 u17 u3 u4 u18 u5 u6 u19 u7 u8 u9 u10 u11 u20 u12 u13 v0 u14 u21 u15 u16 (ii a.fBudget) false (bb (ltI a.fBudget 0)) (S.ptr 0 8)
def b34_1 (q : YF) (a : D77) (k2 : T34_2) (v0 : Bool) (u1 : Int) (u2 u3 : Bool) (u4 u5 : Int) (u6 : S) (u7 u8 : Bool) (u9 : S) (u10 : Int) (u11 u12 : Bool) (u13 : Int) (u14 : Bool) (u15 : S) (u16 u17 : Int) (u18 : Bool) (u19 : Int) (u20 : S) (u21 : Int) (u22 : Bool) (u23 : S) (u24 : Bool) (u25 u26 : S) : OS := bif v0 then k2 true u1 u23 u2 u3 u4 u5 u6 u7 u8 v0 u9 u10 u11 u12 u24 u13 u25 u14 u15 u16 u17 u18 u19 u20 u21 u22 u26 S.ud S.ud S.ud true else k2 (gtI a.fBudget 16) u1 u23 u2 u3 u4 u5 u6 u7 u8 v0 u9 u10 u11 u12 u24 u13 u25 u14 u15 u16 u17 u18 u19 u20 u21 u22 u26 (S.ptr 0 8) (bb (gtI a.fBudget 16)) (ii a.fBudget) false
def b34_2 (q : YF) (a : D77) (k3 : T34_3) (v0 : Bool) (u1 : Int) (u2 : S) (u3 u4 : Bool) (u5 u6 : Int) (u7 : S) (u8 u9 u10 : Bool) (u11 : S) (u12 : Int) (u13 u14 u15 : Bool) (u16 : Int) (u17 : S) (u18 : Bool) (u19 : S) (u20 u21 : Int) (u22 : Bool) (u23 : Int) (u24 : S) (u25 : Int) (u26 : Bool) (u27 u28 u29 u30 : S) (u31 : Bool) : OS := bif v0 then k3 true u1 u2 u3 u4 u5 u6 u28 u7 u8 u9 u10 u11 u12 u13 u14 u29 u15 u16 u17 u18 u19 u20 u21 u30 u22 u23 u31 u24 u25 u26 v0 u27 true S.ud S.ud S.ud else k3 (ltI a.fMerge 0) u1 u2 u3 u4 u5 u6 u28 u7 u8 u9 u10 u11 u12 u13 u14 u29 u15 u16 u17 u18 u19 u20 u21 u30 u22 u23 u31 u24 u25 u26 v0 u27 false (ii a.fMerge) (S.ptr 0 9) (bb (ltI a.fMerge 0))
def b34_3 (q : YF) (a : D77) (v0 : Bool) (u1 : Int) (u2 : S) (u3 u4 : Bool) (u5 u6 : Int) (u7 u8 : S) (u9 u10 u11 : Bool) (u12 : S) (u13 : Int) (u14 u15 : Bool) (u16 : S) (u17 : Bool) (u18 : Int) (u19 : S) (u20 : Bool) (u21 : S) (u22 u23 : Int) (u24 : S) (u25 : Bool) (u26 : Int) (u27 : Bool) (u28 : S) (u29 : Int) (u30 u31 : Bool) (u32 : S) (u33 : Bool) (u34 u35 u36 : S) : OS := bif v0 then some (ii 1) else bif gtI a.fMerge 2 then some (ii 1) else some (ii 0)
def e34_in (q : YF) (a : D77) (k0 : T34_0) : OS := yC q 71 [ss a.fName] fun y => bif !y.b 0 then some (ii 7) else bif ltI a.fWeight 0 then some (ii 1) else bif gtI a.fWeight 100 then some (ii 1) else yC q 49 [S.agg [ii a.fLimit_0, ii a.fLimit_1]] fun y_1 => bif !eqI (y_1.i 0) 0 then some (ii (y_1.i 0)) else yC q 72 [S.t (T.rows 4 a.fReqs.n fun i => e68 (a.fReqs.get i))] fun y_2 => bif !eqI (y_2.i 0) 0 then some (ii (y_2.i 0)) else yC q 73 [S.t (T.rows 2 a.fTaints.n fun i => e88 (a.fTaints.get i))] fun y_3 => bif !eqI (y_3.i 0) 0 then some (ii (y_3.i 0)) else yC q 74 [ii a.fGen, ii 0, ii 1099511627776] fun y_4 => bif !y_4.b 0 then k0 true (y_3.i 0) (y.b 0) (y_2.i 0) (y_1.i 0) (!eqI (y_2.i 0) 0) (!eqI (y_3.i 0) 0) (y_2.i 0) (y_4.b 0) (!eqI (y_1.i 0) 0) (y_3.i 0) (!y.b 0) (y_3.i 0) (y_1.i 0) (y_1.i 0) (y_2.i 0) (!y_4.b 0) true S.ud S.ud S.ud S.ud else yC q 74 [ii a.fExpire, ii 0, ii 1073741824] fun y_5 => k0 (!y_5.b 0) (y_3.i 0) (y.b 0) (y_2.i 0) (y_1.i 0) (!eqI (y_2.i 0) 0) (!eqI (y_3.i 0) 0) (y_2.i 0) (y_4.b 0) (!eqI (y_1.i 0) 0) (y_3.i 0) (!y.b 0) (y_3.i 0) (y_1.i 0) (y_1.i 0) (y_2.i 0) (!y_4.b 0) false (S.t (T.v (.bool !y_5.b 0))) (ii a.fExpire) (S.ptr 0 7) (bb (y_5.b 0))
structure X34 where
 x0 : Bool → OS
 x1 : Bool → OS
 x2 : Bool → OS
 x3 : Bool → OS
def D34_0 (X : X34) : T34_0 := fun v0 _ _ _ _ _ _ _ _ _ _ _ _ _ _ _ _ _ _ _ _ _ => X.x0 v0
def D34_1 (X : X34) : T34_1 := fun v0 _ _ _ _ _ _ _ _ _ _ _ _ _ _ _ _ _ _ _ _ _ _ _ _ _ _ => X.x1 v0
def D34_2 (X : X34) : T34_2 := fun v0 _ _ _ _ _ _ _ _ _ _ _ _ _ _ _ _ _ _ _ _ _ _ _ _ _ _ _ _ _ _ _ => X.x2 v0
def D34_3 (X : X34) : T34_3 := fun v0 _ _ _ _ _ _ _ _ _ _ _ _ _ _ _ _ _ _ _ _ _ _ _ _ _ _ _ _ _ _ _ _ _ _ _ _ => X.x3 v0
def X34s (q : YF) (a : D77) (X : X34) : X34 := ⟨fun v0 => b34_0 q a (D34_1 X) v0 dd dd dd dd dd dd dd dd dd dd dd dd dd dd dd dd dd dd dd dd dd,
 fun v0 => b34_1 q a (D34_2 X) v0 dd dd dd dd dd dd dd dd dd dd dd dd dd dd dd dd dd dd dd dd dd dd dd dd dd dd,
 fun v0 => b34_2 q a (D34_3 X) v0 dd dd dd dd dd dd dd dd dd dd dd dd dd dd dd dd dd dd dd dd dd dd dd dd dd dd dd dd dd dd dd,
 fun v0 => b34_3 q a v0 dd dd dd dd dd dd dd dd dd dd dd dd dd dd dd dd dd dd dd dd dd dd dd dd dd dd dd dd dd dd dd dd dd dd dd dd⟩
def X34n (q : YF) (a : D77) : Nat → X34
 | 0 => ⟨fun _ => none, fun _ => none, fun _ => none, fun _ => none⟩
 | n + 1 => X34s q a (X34n q a n)
theorem l34_0 (q : YF) (a : D77) (kk : PK S) : K34_0 a (P34 q kk) = b34_0 q a (K34_1 a kk) := by
 kernel_rfl
theorem l34_1 (q : YF) (a : D77) (kk : PK S) : K34_1 a (P34 q kk) = b34_1 q a (K34_2 a kk) := by
 kernel_rfl
theorem l34_2 (q : YF) (a : D77) (kk : PK S) : K34_2 a (P34 q kk) = b34_2 q a (K34_3 a kk) := by
 kernel_rfl
theorem l34_3 (q : YF) (a : D77) (kk : PK S) : K34_3 a (P34 q kk) = b34_3 q a := by
 kernel_rfl
theorem l34_in (q : YF) (a : D77) (kk : PK S) : BG q kk 34 Tryz.f34 [ag (e77 a)] = e34_in q a (K34_0 a kk) := by
 kernel_rfl
theorem h34 (q : YF) (a : D77) : ∀ n, K34_0 a (H34 q n) = D34_0 (X34n q a n) ∧ K34_1 a (H34 q n) = D34_1 (X34n q a n) ∧ K34_2 a (H34 q n) = D34_2 (X34n q a n) ∧ K34_3 a (H34 q n) = D34_3 (X34n q a n)
 | 0 => ⟨rfl, rfl, rfl, rfl⟩
 | n + 1 => by
  obtain ⟨h0, h1, h2, h3⟩ := h34 q a n
  exact ⟨(l34_0 q a (H34 q n)).trans (by rw [h1]; kernel_rfl), (l34_1 q a (H34 q n)).trans (by rw [h2]; kernel_rfl), (l34_2 q a (H34 q n)).trans (by rw [h3]; kernel_rfl), (l34_3 q a (H34 q n)).trans (by kernel_rfl)⟩
theorem W34 (a : D77) (n : Nat) (x : S) (h : e34_in (regs O) a (D34_0 (X34n (regs O) a n)) = some x) : (W O).callT 34 [ag (e77 a)] = some x := by
 refine WG (fn := Tryz.f34) (by kernel_rfl) (by kernel_rfl) (n := n) ?_
 refine (l34_in (regs O) a (H34 (regs O) n)).trans ?_
 obtain ⟨h0, h1, h2, h3⟩ := h34 (regs O) a n
 rw [h0]
 exact h
abbrev P35 (q : YF) (kk : PK S) : PK S := PG q 35 Tryz.f35 kk
abbrev H35 (q : YF) : Nat → PK S := HG q 35 Tryz.f35
def s35_0 (a : D33) (v0 : Int) : St := mkSt [(12, ii (ofN a.fClaims.n)), (1, S.ptr 0 0), (13, ii v0), (11, S.t (T.rows 15 a.fClaims.n fun i => e52 (a.fClaims.get i)))] 1 [(0, B.box (List.map S.t (e33 a)))]
def K35_0 (a : D33) (kk : PK S) : Int → OS := fun v0=> kk 2 0 0 (s35_0 a v0)
def s35_1 (a : D33) (v0 : Bool) (v1 : D52) (v2 : Int) (u3 : D52) (u4 : BA) (u5 : Int) (u6 u7 : Bool) (u8 : D52) (u9 u10 u11 u12 : BA) (u13 u14 u15 : Int) (u16 u17 : Rw0) (u18 u19 u20 u21 : Int) (u22 : D52) (u23 : BA) (u24 u25 u26 : Int) (u27 u28 : Rw0) (u29 u30 u31 u32 : Int) (u33 : Bool) (u34 : Int) (u35 : BA) (u36 u37 u38 : Int) (u39 u40 : Rw0) (u41 u42 u43 u44 : Int) (u45 u46 u47 u48 : Bool) (u49 : Int) (u50 u51 : Bool) (u52 u53 u54 u55 : BA) (u56 u57 u58 : Int) (u59 u60 : Rw0) (u61 u62 u63 u64 : Int) (u65 u66 : Bool) (u67 u68 u69 : Int) (u70 : S) (u71 : Bool) (u72 u73 u74 u75 u76 : S) (u77 : Bool) (u78 u79 u80 u81 : S) : St := mkSt [(32, u70), (16, S.pt (e52 u3)), (48, S.t (T.rows 7 a.fTypes.n fun i => e112 (a.fTypes.get i))), (40, ss u4), (24, bb u65), (4, S.ptr 5 0), (36, bb u71), (20, ii u5), (52, bb u6), (12, ii (ofN a.fClaims.n)), (44, bb u7), (28, u72), (34, u73), (18, ag (e52 u8)), (50, S.agg [ss u9, ss u10, ss u11]), (42, S.agg [ss u12, ii u13, ii u14, ii u15, S.t (T.rows 4 u16.n u16.g), S.t (T.rows 2 u17.n u17.g), ii u18, ii u19, ii u20, ii u21]), (26, u74), (6, S.ptr 34 0), (38, ag (e33 a)), (54, bb v0), (14, bb u66), (46, bb false), (30, u75), (1, S.ptr 0 0), (33, u76), (17, ag (e52 u22)), (49, S.ptr 5 3), (41, S.tup [S.agg [ss u23, ii u24, ii u25, ii u26, S.t (T.rows 4 u27.n u27.g), S.t (T.rows 2 u28.n u28.g), ii u29, ii u30, ii u31, ii u32], bb u33]), (25, bb u77), (5, ii u34), (37, S.tup [S.agg [ss u35, ii u36, ii u37, ii u38, S.t (T.rows 4 u39.n u39.g), S.t (T.rows 2 u40.n u40.g), ii u41, ii u42, ii u43, ii u44], bb u45]), (21, bb u46), (53, bb u47), (13, ii v2), (45, bb u48), (29, u78), (3, ii u67), (35, u79), (19, ii u49), (51, S.sl 44 1), (11, S.t (T.rows 15 a.fClaims.n fun i => e52 (a.fClaims.get i))), (43, bb u50), (27, u80), (7, bb u51), (39, S.ptr 5 1), (23, ii u68), (15, ii u69), (47, S.ptr 0 6), (31, u81)] 56 [(0, B.box (List.map S.t (e33 a))), (44, B.lst false 3 1 [ss u52, ss u53, ss u54]), (34, B.box [ss u55, ii u56, ii u57, ii u58, S.t (T.rows 4 u59.n u59.g), S.t (T.rows 2 u60.n u60.g), ii u61, ii u62, ii u63, ii u64]), (5, B.box (List.map S.t (e52 v1)))]
abbrev T35_1 : Type := Bool → D52 → Int → D52 → BA → Int → Bool → Bool → D52 → BA → BA → BA → BA → Int → Int → Int → Rw0 → Rw0 → Int → Int → Int → Int → D52 → BA → Int → Int → Int → Rw0 → Rw0 → Int → Int → Int → Int → Bool → Int → BA → Int → Int → Int → Rw0 → Rw0 → Int → Int → Int → Int → Bool → Bool → Bool → Bool → Int → Bool → Bool → BA → BA → BA → BA → Int → Int → Int → Rw0 → Rw0 → Int → Int → Int → Int → Bool → Bool → Int → Int → Int → S → Bool → S → S → S → S → S → Bool → S → S → S → S → OS
def K35_1 (a : D33) (kk : PK S) : T35_1 := fun v0 v1 v2 u3 u4 u5 u6 u7 u8 u9 u10 u11 u12 u13 u14 u15 u16 u17 u18 u19 u20 u21 u22 u23 u24 u25 u26 u27 u28 u29 u30 u31 u32 u33 u34 u35 u36 u37 u38 u39 u40 u41 u42 u43 u44 u45 u46 u47 u48 u49 u50 u51 u52 u53 u54 u55 u56 u57 u58 u59 u60 u61 u62 u63 u64 u65 u66 u67 u68 u69 u70 u71 u72 u73 u74 u75 u76 u77 u78 u79 u80 u81=> kk 10 12 37 (s35_1 a v0 v1 v2 u3 u4 u5 u6 u7 u8 u9 u10 u11 u12 u13 u14 u15 u16 u17 u18 u19 u20 u21 u22 u23 u24 u25 u26 u27 u28 u29 u30 u31 u32 u33 u34 u35 u36 u37 u38 u39 u40 u41 u42 u43 u44 u45 u46 u47 u48 u49 u50 u51 u52 u53 u54 u55 u56 u57 u58 u59 u60 u61 u62 u63 u64 u65 u66 u67 u68 u69 u70 u71 u72 u73 u74 u75 u76 u77 u78 u79 u80 u81)
def s35_2 (a : D33) (u0 : D52) (u1 : BA) (u2 : Int) (u3 : Bool) (u4 : D52) (u5 : BA) (u6 u7 u8 : Int) (u9 u10 : Rw0) (u11 u12 u13 u14 : Int) (u15 : D52) (u16 : BA) (u17 u18 u19 : Int) (u20 u21 : Rw0) (u22 u23 u24 u25 : Int) (u26 : Bool) (u27 : Int) (u28 : BA) (u29 u30 u31 : Int) (u32 u33 : Rw0) (u34 u35 u36 u37 : Int) (u38 u39 u40 : Bool) (u41 : Int) (u42 u43 : Bool) (u44 : BA) (u45 u46 u47 : Int) (u48 u49 : Rw0) (u50 u51 u52 u53 : Int) (u54 : D52) (u55 u56 : Bool) (u57 u58 u59 u60 : Int) (u61 : S) (u62 : Bool) (u63 u64 u65 u66 u67 : S) (u68 : Bool) (u69 u70 u71 u72 : S) : St := mkSt [(32, u61), (16, S.pt (e52 u0)), (48, S.ud), (40, ss u1), (24, bb u55), (4, S.ptr 5 0), (36, bb u62), (20, ii u2), (52, S.ud), (12, ii (ofN a.fClaims.n)), (44, bb u3), (28, u63), (34, u64), (18, ag (e52 u4)), (50, S.ud), (42, S.agg [ss u5, ii u6, ii u7, ii u8, S.t (T.rows 4 u9.n u9.g), S.t (T.rows 2 u10.n u10.g), ii u11, ii u12, ii u13, ii u14]), (26, u65), (6, S.ptr 34 0), (38, ag (e33 a)), (54, bb true), (14, bb u56), (46, bb true), (30, u66), (1, S.ptr 0 0), (33, u67), (17, ag (e52 u15)), (49, S.ud), (41, S.tup [S.agg [ss u16, ii u17, ii u18, ii u19, S.t (T.rows 4 u20.n u20.g), S.t (T.rows 2 u21.n u21.g), ii u22, ii u23, ii u24, ii u25], bb u26]), (25, bb u68), (5, ii u27), (37, S.tup [S.agg [ss u28, ii u29, ii u30, ii u31, S.t (T.rows 4 u32.n u32.g), S.t (T.rows 2 u33.n u33.g), ii u34, ii u35, ii u36, ii u37], bb u38]), (21, bb u39), (53, S.ud), (13, ii u57), (45, bb u40), (29, u69), (3, ii u58), (35, u70), (19, ii u41), (51, S.ud), (11, S.t (T.rows 15 a.fClaims.n fun i => e52 (a.fClaims.get i))), (43, bb u42), (27, u71), (7, bb u43), (39, S.ptr 5 1), (23, ii u59), (15, ii u60), (47, S.ud), (31, u72)] 56 [(0, B.box (List.map S.t (e33 a))), (34, B.box [ss u44, ii u45, ii u46, ii u47, S.t (T.rows 4 u48.n u48.g), S.t (T.rows 2 u49.n u49.g), ii u50, ii u51, ii u52, ii u53]), (5, B.box (List.map S.t (e52 u54)))]
abbrev T35_2 : Type := D52 → BA → Int → Bool → D52 → BA → Int → Int → Int → Rw0 → Rw0 → Int → Int → Int → Int → D52 → BA → Int → Int → Int → Rw0 → Rw0 → Int → Int → Int → Int → Bool → Int → BA → Int → Int → Int → Rw0 → Rw0 → Int → Int → Int → Int → Bool → Bool → Bool → Int → Bool → Bool → BA → Int → Int → Int → Rw0 → Rw0 → Int → Int → Int → Int → D52 → Bool → Bool → Int → Int → Int → Int → S → Bool → S → S → S → S → S → Bool → S → S → S → S → OS
def K35_2 (a : D33) (kk : PK S) : T35_2 := fun u0 u1 u2 u3 u4 u5 u6 u7 u8 u9 u10 u11 u12 u13 u14 u15 u16 u17 u18 u19 u20 u21 u22 u23 u24 u25 u26 u27 u28 u29 u30 u31 u32 u33 u34 u35 u36 u37 u38 u39 u40 u41 u42 u43 u44 u45 u46 u47 u48 u49 u50 u51 u52 u53 u54 u55 u56 u57 u58 u59 u60 u61 u62 u63 u64 u65 u66 u67 u68 u69 u70 u71 u72=> kk 10 12 37 (s35_2 a u0 u1 u2 u3 u4 u5 u6 u7 u8 u9 u10 u11 u12 u13 u14 u15 u16 u17 u18 u19 u20 u21 u22 u23 u24 u25 u26 u27 u28 u29 u30 u31 u32 u33 u34 u35 u36 u37 u38 u39 u40 u41 u42 u43 u44 u45 u46 u47 u48 u49 u50 u51 u52 u53 u54 u55 u56 u57 u58 u59 u60 u61 u62 u63 u64 u65 u66 u67 u68 u69 u70 u71 u72)
def b35_0 (q : YF) (a : D33) (k1 : T35_1) (k2 : T35_2) (v0 : Int) : OS := bif ltI v0 (ofN a.fClaims.n) then elemO v0 a.fClaims.n fun h => yC q 75 [ag (e52 (a.fClaims.get (Fin.mk v0.toNat h)))] fun y => bif !eqI (y.i 0) 0 then some (ii (y.i 0)) else bif gtI v0 0 then elemO (subI .i64 v0 1) a.fClaims.n fun h_1 => bif !strLt (a.fClaims.get (Fin.mk (subI .i64 v0 1).toNat h_1)).fName (a.fClaims.get (Fin.mk v0.toNat h)).fName then some (ii 6) else yC q 76 [ag (e33 a), ss (a.fClaims.get (Fin.mk v0.toNat h)).fPool] fun y_1 => bif !y_1.b 10 then k2 (a.fClaims.get (Fin.mk v0.toNat h)) (a.fClaims.get (Fin.mk v0.toNat h)).fPool (y.i 0) (y_1.b 10) (a.fClaims.get (Fin.mk v0.toNat h)) (y_1.s 0) (y_1.i 1) (y_1.i 2) (y_1.i 3) (y_1.r 4) (y_1.r 5) (y_1.i 6) (y_1.i 7) (y_1.i 8) (y_1.i 9) (a.fClaims.get (Fin.mk v0.toNat h)) (y_1.s 0) (y_1.i 1) (y_1.i 2) (y_1.i 3) (y_1.r 4) (y_1.r 5) (y_1.i 6) (y_1.i 7) (y_1.i 8) (y_1.i 9) (y_1.b 10) (y.i 0) (y_1.s 0) (y_1.i 1) (y_1.i 2) (y_1.i 3) (y_1.r 4) (y_1.r 5) (y_1.i 6) (y_1.i 7) (y_1.i 8) (y_1.i 9) (y_1.b 10) (!eqI (y.i 0) 0) (!y_1.b 10) (y.i 0) (y_1.b 10) (y_1.b 10) (y_1.s 0) (y_1.i 1) (y_1.i 2) (y_1.i 3) (y_1.r 4) (y_1.r 5) (y_1.i 6) (y_1.i 7) (y_1.i 8) (y_1.i 9) (a.fClaims.get (Fin.mk v0.toNat h)) (gtI v0 0) (ltI v0 (ofN a.fClaims.n)) v0 v0 v0 v0 (ss (a.fClaims.get (Fin.mk (subI .i64 v0 1).toNat h_1)).fName) (!strLt (a.fClaims.get (Fin.mk (subI .i64 v0 1).toNat h_1)).fName (a.fClaims.get (Fin.mk v0.toNat h)).fName) (ii v0) (ss (a.fClaims.get (Fin.mk v0.toNat h)).fName) (S.ptr 0 9) (S.pt (e52 (a.fClaims.get (Fin.mk (subI .i64 v0 1).toNat h_1)))) (S.ptr 5 0) true (ii (subI .i64 v0 1)) (S.t (T.v (.bool !strLt (a.fClaims.get (Fin.mk (subI .i64 v0 1).toNat h_1)).fName (a.fClaims.get (Fin.mk v0.toNat h)).fName))) (S.t (T.rows 15 a.fClaims.n fun i => e52 (a.fClaims.get i))) (S.pt (e52 (a.fClaims.get (Fin.mk (subI .i64 v0 1).toNat h_1)))) else yC q 77 [S.t (T.rows 7 a.fTypes.n fun i => e112 (a.fTypes.get i)), S.t (T.rows 3 1 fun i => List.take 3 (List.drop (↑i * 3) [ts (a.fClaims.get (Fin.mk v0.toNat h)).fOffer_Type, ts (a.fClaims.get (Fin.mk v0.toNat h)).fOffer_Zone, ts (a.fClaims.get (Fin.mk v0.toNat h)).fOffer_Kind]))] fun y_2 => k1 (!y_2.b 0) (a.fClaims.get (Fin.mk v0.toNat h)) v0 (a.fClaims.get (Fin.mk v0.toNat h)) (a.fClaims.get (Fin.mk v0.toNat h)).fPool (y.i 0) (y_2.b 0) (y_1.b 10) (a.fClaims.get (Fin.mk v0.toNat h)) (a.fClaims.get (Fin.mk v0.toNat h)).fOffer_Type (a.fClaims.get (Fin.mk v0.toNat h)).fOffer_Zone (a.fClaims.get (Fin.mk v0.toNat h)).fOffer_Kind (y_1.s 0) (y_1.i 1) (y_1.i 2) (y_1.i 3) (y_1.r 4) (y_1.r 5) (y_1.i 6) (y_1.i 7) (y_1.i 8) (y_1.i 9) (a.fClaims.get (Fin.mk v0.toNat h)) (y_1.s 0) (y_1.i 1) (y_1.i 2) (y_1.i 3) (y_1.r 4) (y_1.r 5) (y_1.i 6) (y_1.i 7) (y_1.i 8) (y_1.i 9) (y_1.b 10) (y.i 0) (y_1.s 0) (y_1.i 1) (y_1.i 2) (y_1.i 3) (y_1.r 4) (y_1.r 5) (y_1.i 6) (y_1.i 7) (y_1.i 8) (y_1.i 9) (y_1.b 10) (!eqI (y.i 0) 0) (!y_2.b 0) (!y_1.b 10) (y.i 0) (y_1.b 10) (y_1.b 10) (a.fClaims.get (Fin.mk v0.toNat h)).fOffer_Type (a.fClaims.get (Fin.mk v0.toNat h)).fOffer_Zone (a.fClaims.get (Fin.mk v0.toNat h)).fOffer_Kind (y_1.s 0) (y_1.i 1) (y_1.i 2) (y_1.i 3) (y_1.r 4) (y_1.r 5) (y_1.i 6) (y_1.i 7) (y_1.i 8) (y_1.i 9) (gtI v0 0) (ltI v0 (ofN a.fClaims.n)) v0 v0 v0 (ss (a.fClaims.get (Fin.mk (subI .i64 v0 1).toNat h_1)).fName) (!strLt (a.fClaims.get (Fin.mk (subI .i64 v0 1).toNat h_1)).fName (a.fClaims.get (Fin.mk v0.toNat h)).fName) (ii v0) (ss (a.fClaims.get (Fin.mk v0.toNat h)).fName) (S.ptr 0 9) (S.pt (e52 (a.fClaims.get (Fin.mk (subI .i64 v0 1).toNat h_1)))) (S.ptr 5 0) true (ii (subI .i64 v0 1)) (S.t (T.v (.bool !strLt (a.fClaims.get (Fin.mk (subI .i64 v0 1).toNat h_1)).fName (a.fClaims.get (Fin.mk v0.toNat h)).fName))) (S.t (T.rows 15 a.fClaims.n fun i => e52 (a.fClaims.get i))) (S.pt (e52 (a.fClaims.get (Fin.mk (subI .i64 v0 1).toNat h_1)))) else yC q 76 [ag (e33 a), ss (a.fClaims.get (Fin.mk v0.toNat h)).fPool] fun y_1 => bif !y_1.b 10 then k2 (a.fClaims.get (Fin.mk v0.toNat h)) (a.fClaims.get (Fin.mk v0.toNat h)).fPool (y.i 0) (y_1.b 10) (a.fClaims.get (Fin.mk v0.toNat h)) (y_1.s 0) (y_1.i 1) (y_1.i 2) (y_1.i 3) (y_1.r 4) (y_1.r 5) (y_1.i 6) (y_1.i 7) (y_1.i 8) (y_1.i 9) (a.fClaims.get (Fin.mk v0.toNat h)) (y_1.s 0) (y_1.i 1) (y_1.i 2) (y_1.i 3) (y_1.r 4) (y_1.r 5) (y_1.i 6) (y_1.i 7) (y_1.i 8) (y_1.i 9) (y_1.b 10) (y.i 0) (y_1.s 0) (y_1.i 1) (y_1.i 2) (y_1.i 3) (y_1.r 4) (y_1.r 5) (y_1.i 6) (y_1.i 7) (y_1.i 8) (y_1.i 9) (y_1.b 10) (!eqI (y.i 0) 0) (!y_1.b 10) (y.i 0) (y_1.b 10) (y_1.b 10) (y_1.s 0) (y_1.i 1) (y_1.i 2) (y_1.i 3) (y_1.r 4) (y_1.r 5) (y_1.i 6) (y_1.i 7) (y_1.i 8) (y_1.i 9) (a.fClaims.get (Fin.mk v0.toNat h)) (gtI v0 0) (ltI v0 (ofN a.fClaims.n)) v0 v0 v0 v0 S.ud false S.ud S.ud S.ud S.ud S.ud false S.ud S.ud S.ud S.ud else yC q 77 [S.t (T.rows 7 a.fTypes.n fun i => e112 (a.fTypes.get i)), S.t (T.rows 3 1 fun i => List.take 3 (List.drop (↑i * 3) [ts (a.fClaims.get (Fin.mk v0.toNat h)).fOffer_Type, ts (a.fClaims.get (Fin.mk v0.toNat h)).fOffer_Zone, ts (a.fClaims.get (Fin.mk v0.toNat h)).fOffer_Kind]))] fun y_2 => k1 (!y_2.b 0) (a.fClaims.get (Fin.mk v0.toNat h)) v0 (a.fClaims.get (Fin.mk v0.toNat h)) (a.fClaims.get (Fin.mk v0.toNat h)).fPool (y.i 0) (y_2.b 0) (y_1.b 10) (a.fClaims.get (Fin.mk v0.toNat h)) (a.fClaims.get (Fin.mk v0.toNat h)).fOffer_Type (a.fClaims.get (Fin.mk v0.toNat h)).fOffer_Zone (a.fClaims.get (Fin.mk v0.toNat h)).fOffer_Kind (y_1.s 0) (y_1.i 1) (y_1.i 2) (y_1.i 3) (y_1.r 4) (y_1.r 5) (y_1.i 6) (y_1.i 7) (y_1.i 8) (y_1.i 9) (a.fClaims.get (Fin.mk v0.toNat h)) (y_1.s 0) (y_1.i 1) (y_1.i 2) (y_1.i 3) (y_1.r 4) (y_1.r 5) (y_1.i 6) (y_1.i 7) (y_1.i 8) (y_1.i 9) (y_1.b 10) (y.i 0) (y_1.s 0) (y_1.i 1) (y_1.i 2) (y_1.i 3) (y_1.r 4) (y_1.r 5) (y_1.i 6) (y_1.i 7) (y_1.i 8) (y_1.i 9) (y_1.b 10) (!eqI (y.i 0) 0) (!y_2.b 0) (!y_1.b 10) (y.i 0) (y_1.b 10) (y_1.b 10) (a.fClaims.get (Fin.mk v0.toNat h)).fOffer_Type (a.fClaims.get (Fin.mk v0.toNat h)).fOffer_Zone (a.fClaims.get (Fin.mk v0.toNat h)).fOffer_Kind (y_1.s 0) (y_1.i 1) (y_1.i 2) (y_1.i 3) (y_1.r 4) (y_1.r 5) (y_1.i 6) (y_1.i 7) (y_1.i 8) (y_1.i 9) (gtI v0 0) (ltI v0 (ofN a.fClaims.n)) v0 v0 v0 S.ud false S.ud S.ud S.ud S.ud S.ud false S.ud S.ud S.ud S.ud else some (ii 0)
def b35_1 (q : YF) (a : D33) (k0 : Int → OS) (v0 : Bool) (v1 : D52) (v2 : Int) (u3 : D52) (u4 : BA) (u5 : Int) (u6 u7 : Bool) (u8 : D52) (u9 u10 u11 u12 : BA) (u13 u14 u15 : Int) (u16 u17 : Rw0) (u18 u19 u20 u21 : Int) (u22 : D52) (u23 : BA) (u24 u25 u26 : Int) (u27 u28 : Rw0) (u29 u30 u31 u32 : Int) (u33 : Bool) (u34 : Int) (u35 : BA) (u36 u37 u38 : Int) (u39 u40 : Rw0) (u41 u42 u43 u44 : Int) (u45 u46 u47 u48 : Bool) (u49 : Int) (u50 u51 : Bool) (u52 u53 u54 u55 : BA) (u56 u57 u58 : Int) (u59 u60 : Rw0) (u61 u62 u63 u64 : Int) (u65 u66 : Bool) (u67 u68 u69 : Int) (u70 : S) (u71 : Bool) (u72 u73 u74 u75 u76 : S) (u77 : Bool) (u78 u79 u80 u81 : S) : OS := bif v0 then some (ii 5) else yC q 77 [S.t (T.rows 7 a.fTypes.n fun i => e112 (a.fTypes.get i)), S.t (T.rows 3 v1.fOpts.n fun i => e47 (v1.fOpts.get i))] fun y => bif !y.b 0 then some (ii 5) else yC q 78 [S.t (T.rows 7 a.fTypes.n fun i => e112 (a.fTypes.get i)), S.agg [ss v1.fOffer_Type, ss v1.fOffer_Zone, ss v1.fOffer_Kind]] fun y => bif !(eqI v1.fCap_0 (y.i 0) && (eqI v1.fCap_1 (y.i 1) && true)) then some (ii 1) else k0 (addI .i64 v2 1)
def b35_2 (q : YF) (a : D33) (u0 : D52) (u1 : BA) (u2 : Int) (u3 : Bool) (u4 : D52) (u5 : BA) (u6 u7 u8 : Int) (u9 u10 : Rw0) (u11 u12 u13 u14 : Int) (u15 : D52) (u16 : BA) (u17 u18 u19 : Int) (u20 u21 : Rw0) (u22 u23 u24 u25 : Int) (u26 : Bool) (u27 : Int) (u28 : BA) (u29 u30 u31 : Int) (u32 u33 : Rw0) (u34 u35 u36 u37 : Int) (u38 u39 u40 : Bool) (u41 : Int) (u42 u43 : Bool) (u44 : BA) (u45 u46 u47 : Int) (u48 u49 : Rw0) (u50 u51 u52 u53 : Int) (u54 : D52) (u55 u56 : Bool) (u57 u58 u59 u60 : Int) (u61 : S) (u62 : Bool) (u63 u64 u65 u66 u67 : S) (u68 : Bool) (u69 u70 u71 u72 : S) : OS := some (ii 5)
def e35_in (q : YF) (a : D33) (k0 : Int → OS) : OS := k0 0
structure X35 where
 x0 : Int → OS
 x1 : Bool → D52 → Int → OS
 x2 : OS
def D35_0 (X : X35) : Int → OS := fun v0 => X.x0 v0
def D35_1 (X : X35) : T35_1 := fun v0 v1 v2 _ _ _ _ _ _ _ _ _ _ _ _ _ _ _ _ _ _ _ _ _ _ _ _ _ _ _ _ _ _ _ _ _ _ _ _ _ _ _ _ _ _ _ _ _ _ _ _ _ _ _ _ _ _ _ _ _ _ _ _ _ _ _ _ _ _ _ _ _ _ _ _ _ _ _ _ _ _ _ => X.x1 v0 v1 v2
def D35_2 (X : X35) : T35_2 := fun _ _ _ _ _ _ _ _ _ _ _ _ _ _ _ _ _ _ _ _ _ _ _ _ _ _ _ _ _ _ _ _ _ _ _ _ _ _ _ _ _ _ _ _ _ _ _ _ _ _ _ _ _ _ _ _ _ _ _ _ _ _ _ _ _ _ _ _ _ _ _ _ _ => X.x2
def X35s (q : YF) (a : D33) (X : X35) : X35 := ⟨fun v0 => b35_0 q a (D35_1 X) (D35_2 X) v0,
 fun v0 v1 v2 => b35_1 q a (D35_0 X) v0 v1 v2 dd dd dd dd dd dd dd dd dd dd dd dd dd dd dd dd dd dd dd dd dd dd dd dd dd dd dd dd dd dd dd dd dd dd dd dd dd dd dd dd dd dd dd dd dd dd dd dd dd dd dd dd dd dd dd dd dd dd dd dd dd dd dd dd dd dd dd dd dd dd dd dd dd dd dd dd dd dd dd,
 b35_2 q a dd dd dd dd dd dd dd dd dd dd dd dd dd dd dd dd dd dd dd dd dd dd dd dd dd dd dd dd dd dd dd dd dd dd dd dd dd dd dd dd dd dd dd dd dd dd dd dd dd dd dd dd dd dd dd dd dd dd dd dd dd dd dd dd dd dd dd dd dd dd dd dd dd⟩
def X35n (q : YF) (a : D33) : Nat → X35
 | 0 => ⟨fun _ => none, fun _ _ _ => none, none⟩
 | n + 1 => X35s q a (X35n q a n)
theorem l35_0 (q : YF) (a : D33) (kk : PK S) : K35_0 a (P35 q kk) = b35_0 q a (K35_1 a kk) (K35_2 a kk) := by
 kernel_rfl
theorem l35_1 (q : YF) (a : D33) (kk : PK S) : K35_1 a (P35 q kk) = b35_1 q a (K35_0 a kk) := by
 kernel_rfl
theorem l35_2 (q : YF) (a : D33) (kk : PK S) : K35_2 a (P35 q kk) = b35_2 q a := by
 kernel_rfl
theorem l35_in (q : YF) (a : D33) (kk : PK S) : BG q kk 35 Tryz.f35 [ag (e33 a)] = e35_in q a (K35_0 a kk) := by
 kernel_rfl
theorem h35 (q : YF) (a : D33) : ∀ n, K35_0 a (H35 q n) = D35_0 (X35n q a n) ∧ K35_1 a (H35 q n) = D35_1 (X35n q a n) ∧ K35_2 a (H35 q n) = D35_2 (X35n q a n)
 | 0 => ⟨rfl, rfl, rfl⟩
 | n + 1 => by
  obtain ⟨h0, h1, h2⟩ := h35 q a n
  exact ⟨(l35_0 q a (H35 q n)).trans (by rw [h1, h2]; kernel_rfl), (l35_1 q a (H35 q n)).trans (by rw [h0]; kernel_rfl), (l35_2 q a (H35 q n)).trans (by kernel_rfl)⟩
theorem W35 (a : D33) (n : Nat) (x : S) (h : e35_in (regs O) a (D35_0 (X35n (regs O) a n)) = some x) : (W O).callT 35 [ag (e33 a)] = some x := by
 refine WG (fn := Tryz.f35) (by kernel_rfl) (by kernel_rfl) (n := n) ?_
 refine (l35_in (regs O) a (H35 (regs O) n)).trans ?_
 obtain ⟨h0, h1, h2⟩ := h35 (regs O) a n
 rw [h0]
 exact h
abbrev P36 (q : YF) (kk : PK S) : PK S := PG q 36 Tryz.f36 kk
abbrev H36 (q : YF) : Nat → PK S := HG q 36 Tryz.f36
def s36_0 (a : D61) (v0 : Bool) (u1 u2 : Int) (u3 : Bool) (u4 : Int) (u5 : Bool) (u6 : Int) (u7 u8 : Bool) (u9 u10 : Int) (u11 u12 : Bool) (u13 : Int) (u14 : Bool) (u15 : Int) (u16 : Bool) (u17 : Int) (u18 u19 u20 : S) (u21 : Bool) (u22 : S) : St := mkSt [(0, ag (e61 a)), (32, ii a.fPrio), (16, S.ptr 0 1), (48, S.t (T.rows 3 a.fSpread.n fun i => e70 (a.fSpread.get i))), (24, ii u1), (56, bb v0), (4, ii u2), (36, S.t (T.rows 4 a.fReqs.n fun i => e68 (a.fReqs.get i))), (20, bb u3), (52, u18), (12, ss a.fName), (44, ii u4), (28, ii a.fPrio), (2, ii 0), (34, bb (gtI a.fPrio 1000)), (18, bb u5), (50, bb (gtI (ofN a.fSpread.n) 3)), (42, S.t (T.rows 3 a.fTols.n fun i => e160 (a.fTols.get i))), (38, ii u6), (22, S.agg [ii a.fNeed_0, ii a.fNeed_1]), (54, u19), (14, bb u7), (30, bb false), (1, S.ptr 0 0), (33, bb (gtI a.fPrio 1000)), (17, ss a.fApp), (49, ii (ofN a.fSpread.n)), (41, S.ptr 0 6), (25, bb u8), (5, ii u9), (37, ii u10), (21, S.ptr 0 2), (53, u20), (13, bb u11), (45, bb u12), (29, bb (ltI a.fPrio (Int.negSucc 999))), (3, ii u13), (35, S.ptr 0 5), (19, bb u14), (51, bb u21), (11, S.ptr 0 0), (43, ii u15), (27, S.ptr 0 4), (39, bb u16), (23, ii u17), (55, u22), (15, bb false), (47, S.ptr 0 7), (31, S.ptr 0 4)] 54 [(0, B.box (List.map S.t (e61 a)))]
abbrev T36_0 : Type := Bool → Int → Int → Bool → Int → Bool → Int → Bool → Bool → Int → Int → Bool → Bool → Int → Bool → Int → Bool → Int → S → S → S → Bool → S → OS
def K36_0 (a : D61) (kk : PK S) : T36_0 := fun v0 u1 u2 u3 u4 u5 u6 u7 u8 u9 u10 u11 u12 u13 u14 u15 u16 u17 u18 u19 u20 u21 u22=> kk 14 11 38 (s36_0 a v0 u1 u2 u3 u4 u5 u6 u7 u8 u9 u10 u11 u12 u13 u14 u15 u16 u17 u18 u19 u20 u21 u22)
def s36_1 (a : D61) (v0 : Int) : St := mkSt [(64, S.t (T.rows 3 a.fSpread.n fun i => e70 (a.fSpread.get i))), (66, ii v0), (1, S.ptr 0 0), (65, ii (ofN a.fSpread.n))] 1 [(0, B.box (List.map S.t (e61 a)))]
def K36_1 (a : D61) (kk : PK S) : Int → OS := fun v0=> kk 17 0 0 (s36_1 a v0)
def b36_0 (q : YF) (a : D61) (k1 : Int → OS) (v0 : Bool) (u1 u2 : Int) (u3 : Bool) (u4 : Int) (u5 : Bool) (u6 : Int) (u7 u8 : Bool) (u9 u10 : Int) (u11 u12 : Bool) (u13 : Int) (u14 : Bool) (u15 : Int) (u16 : Bool) (u17 : Int) (u18 u19 u20 : S) (u21 : Bool) (u22 : S) : OS := bif v0 then some (ii 3) else bif gtI (ofN a.fApart.n) 3 then some (ii 3) else k1 0
def b36_1 (q : YF) (a : D61) (k1 : Int → OS) (v0 : Int) : OS := bif ltI v0 (ofN a.fSpread.n) then elemO v0 a.fSpread.n fun h => yC q 80 [S.t (T.rows 2 1 fun i => List.take 2 (List.drop (↑i * 2) [ts (a.fSpread.get (Fin.mk v0.toNat h)).fKey, ts (a.fSpread.get (Fin.mk v0.toNat h)).fApp]))] fun y => bif !eqI (y.i 0) 0 then some (ii (y.i 0)) else bif ltI (a.fSpread.get (Fin.mk v0.toNat h)).fSkew 1 then some (ii 1) else bif gtI (a.fSpread.get (Fin.mk v0.toNat h)).fSkew 16 then some (ii 1) else k1 (addI .i64 v0 1) else yC q 80 [S.t (T.rows 2 a.fNear.n fun i => e138 (a.fNear.get i))] fun y => bif !eqI (y.i 0) 0 then some (ii (y.i 0)) else yC q 80 [S.t (T.rows 2 a.fApart.n fun i => e138 (a.fApart.get i))] fun y => bif !eqI (y.i 0) 0 then some (ii (y.i 0)) else yC q 74 [ii a.fSince, ii 0, ii 1099511627776] fun y => bif !y.b 0 then some (ii 1) else bif !strEq a.fOn (bs []) then yC q 71 [ss a.fOn] fun y => bif !y.b 0 then some (ii 7) else some (ii 0) else some (ii 0)
def e36_in (q : YF) (a : D61) (k0 : T36_0) : OS := yC q 71 [ss a.fName] fun y => bif !y.b 0 then some (ii 7) else yC q 71 [ss a.fApp] fun y_1 => bif !y_1.b 0 then some (ii 7) else yC q 49 [S.agg [ii a.fNeed_0, ii a.fNeed_1]] fun y_2 => bif !eqI (y_2.i 0) 0 then some (ii (y_2.i 0)) else bif ltI a.fPrio (Int.negSucc 999) then some (ii 1) else bif gtI a.fPrio 1000 then some (ii 1) else yC q 72 [S.t (T.rows 4 a.fReqs.n fun i => e68 (a.fReqs.get i))] fun y_3 => bif !eqI (y_3.i 0) 0 then some (ii (y_3.i 0)) else yC q 79 [S.t (T.rows 3 a.fTols.n fun i => e160 (a.fTols.get i))] fun y_4 => bif !eqI (y_4.i 0) 0 then some (ii (y_4.i 0)) else bif gtI (ofN a.fSpread.n) 3 then k0 true (y_2.i 0) (y_3.i 0) (!y_1.b 0) (y_4.i 0) (y_1.b 0) (y_3.i 0) (!y.b 0) (!eqI (y_2.i 0) 0) (y_4.i 0) (y_3.i 0) (y.b 0) (!eqI (y_4.i 0) 0) (y_2.i 0) (!y_1.b 0) (y_4.i 0) (!eqI (y_3.i 0) 0) (y_2.i 0) S.ud S.ud S.ud true S.ud else k0 (gtI (ofN a.fNear.n) 3) (y_2.i 0) (y_3.i 0) (!y_1.b 0) (y_4.i 0) (y_1.b 0) (y_3.i 0) (!y.b 0) (!eqI (y_2.i 0) 0) (y_4.i 0) (y_3.i 0) (y.b 0) (!eqI (y_4.i 0) 0) (y_2.i 0) (!y_1.b 0) (y_4.i 0) (!eqI (y_3.i 0) 0) (y_2.i 0) (S.ptr 0 8) (ii (ofN a.fNear.n)) (S.t (T.rows 2 a.fNear.n fun i => e138 (a.fNear.get i))) false (bb (gtI (ofN a.fNear.n) 3))
structure X36 where
 x0 : Bool → OS
 x1 : Int → OS
def D36_0 (X : X36) : T36_0 := fun v0 _ _ _ _ _ _ _ _ _ _ _ _ _ _ _ _ _ _ _ _ _ _ => X.x0 v0
def D36_1 (X : X36) : Int → OS := fun v0 => X.x1 v0
def X36s (q : YF) (a : D61) (X : X36) : X36 := ⟨fun v0 => b36_0 q a (D36_1 X) v0 dd dd dd dd dd dd dd dd dd dd dd dd dd dd dd dd dd dd dd dd dd dd,
 fun v0 => b36_1 q a (D36_1 X) v0⟩
def X36n (q : YF) (a : D61) : Nat → X36
 | 0 => ⟨fun _ => none, fun _ => none⟩
 | n + 1 => X36s q a (X36n q a n)
theorem l36_0 (q : YF) (a : D61) (kk : PK S) : K36_0 a (P36 q kk) = b36_0 q a (K36_1 a kk) := by
 kernel_rfl
theorem l36_1 (q : YF) (a : D61) (kk : PK S) : K36_1 a (P36 q kk) = b36_1 q a (K36_1 a kk) := by
 kernel_rfl
theorem l36_in (q : YF) (a : D61) (kk : PK S) : BG q kk 36 Tryz.f36 [ag (e61 a)] = e36_in q a (K36_0 a kk) := by
 kernel_rfl
theorem h36 (q : YF) (a : D61) : ∀ n, K36_0 a (H36 q n) = D36_0 (X36n q a n) ∧ K36_1 a (H36 q n) = D36_1 (X36n q a n)
 | 0 => ⟨rfl, rfl⟩
 | n + 1 => by
  obtain ⟨h0, h1⟩ := h36 q a n
  exact ⟨(l36_0 q a (H36 q n)).trans (by rw [h1]; kernel_rfl), (l36_1 q a (H36 q n)).trans (by rw [h1]; kernel_rfl)⟩
theorem W36 (a : D61) (n : Nat) (x : S) (h : e36_in (regs O) a (D36_0 (X36n (regs O) a n)) = some x) : (W O).callT 36 [ag (e61 a)] = some x := by
 refine WG (fn := Tryz.f36) (by kernel_rfl) (by kernel_rfl) (n := n) ?_
 refine (l36_in (regs O) a (H36 (regs O) n)).trans ?_
 obtain ⟨h0, h1⟩ := h36 (regs O) a n
 rw [h0]
 exact h
abbrev P37 (q : YF) (kk : PK S) : PK S := PG q 37 Tryz.f37 kk
abbrev H37 (q : YF) : Nat → PK S := HG q 37 Tryz.f37
def s37_0 (a : D33) (b : BA) (v0 : Int) : St := mkSt [(4, S.ptr 0 0), (10, ii (ofN a.fClaims.n)), (1, ss b), (9, S.t (T.rows 15 a.fClaims.n fun i => e52 (a.fClaims.get i))), (11, ii v0)] 1 [(0, B.box [ss (bs []), ss (bs []), ii 0, ss (bs []), ss (bs []), ss (bs []), ii 0, ii 0, ii 0, S.t (T.v (.slice none 0 0)), ii 0, ss (bs []), ii 0, ii 0, bb false])]
def K37_0 (a : D33) (b : BA) (kk : PK S) : Int → OS := fun v0=> kk 2 0 0 (s37_0 a b v0)
def b37_0 (q : YF) (a : D33) (b : BA) (k0 : Int → OS) (v0 : Int) : OS := bif ltI v0 (ofN a.fClaims.n) then elemO v0 a.fClaims.n fun h => bif strEq (a.fClaims.get (Fin.mk v0.toNat h)).fName b then some (S.tup [ag (e52 (a.fClaims.get (Fin.mk v0.toNat h))), bb true]) else k0 (addI .i64 v0 1) else some (S.tup [S.agg [ss (bs []), ss (bs []), ii 0, ss (bs []), ss (bs []), ss (bs []), ii 0, ii 0, ii 0, S.t (T.rows 3 0 fun i => False.rec (fun x => List T) (by first | omega | (have := i.2; omega) | (have := i_1.2; omega))), ii 0, ss (bs []), ii 0, ii 0, bb false], bb false])
def e37_in (q : YF) (a : D33) (b : BA) (k0 : Int → OS) : OS := k0 0
structure X37 where
 x0 : Int → OS
def D37_0 (X : X37) : Int → OS := fun v0 => X.x0 v0
def X37s (q : YF) (a : D33) (b : BA) (X : X37) : X37 := ⟨fun v0 => b37_0 q a b (D37_0 X) v0⟩
def X37n (q : YF) (a : D33) (b : BA) : Nat → X37
 | 0 => ⟨fun _ => none⟩
 | n + 1 => X37s q a b (X37n q a b n)
theorem l37_0 (q : YF) (a : D33) (b : BA) (kk : PK S) : K37_0 a b (P37 q kk) = b37_0 q a b (K37_0 a b kk) := by
 kernel_rfl
theorem l37_in (q : YF) (a : D33) (b : BA) (kk : PK S) : BG q kk 37 Tryz.f37 [ag (e33 a), ss b] = e37_in q a b (K37_0 a b kk) := by
 kernel_rfl
theorem h37 (q : YF) (a : D33) (b : BA) : ∀ n, K37_0 a b (H37 q n) = D37_0 (X37n q a b n)
 | 0 => rfl
 | n + 1 => by
  have h0 := h37 q a b n
  exact (l37_0 q a b (H37 q n)).trans (by rw [h0]; kernel_rfl)
theorem W37 (a : D33) (b : BA) (n : Nat) (x : S) (h : e37_in (regs O) a b (D37_0 (X37n (regs O) a b n)) = some x) : (W O).callT 37 [ag (e33 a), ss b] = some x := by
 refine WG (fn := Tryz.f37) (by kernel_rfl) (by kernel_rfl) (n := n) ?_
 refine (l37_in (regs O) a b (H37 (regs O) n)).trans ?_
 have h0 := h37 (regs O) a b n
 rw [h0]
 exact h
end
end Go.Proofs.YtonkoellfaopiaaGreatDoor.H
