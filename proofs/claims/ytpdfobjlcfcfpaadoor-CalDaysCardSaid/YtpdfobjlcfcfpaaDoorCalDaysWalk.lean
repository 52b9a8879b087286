/- The law CalDays, walked: it returns true for every date, year, month, day and number of nanoseconds. -/
import Derived.Test.YtpdfobjlcfcfpaaDoorCalShown
import Derived.Test.YtpdfobjlcfcfpaaDoorRef04
import Derived.Deep.RegionHeld3
set_option linter.unusedVariables false
set_option linter.unusedSimpArgs false
namespace Go.Proofs.YtpdfobjlcfcfpaaDoor
open Go.RowKit
def CellsAt (B : Nat) (y m d hh mi ss n z : Int) (w : World) : Prop :=
  w.cell? ⟨B, 0, none⟩ = some (.int .i64 y) ∧ w.cell? ⟨B, 1, none⟩ = some (.int .i64 m) ∧ w.cell? ⟨B, 2, none⟩ = some (.int .i64 d) ∧ w.cell? ⟨B, 3, none⟩ = some (.int .i64 hh) ∧
  w.cell? ⟨B, 4, none⟩ = some (.int .i64 mi) ∧ w.cell? ⟨B, 5, none⟩ = some (.int .i64 ss) ∧ w.cell? ⟨B, 6, none⟩ = some (.int .i64 n) ∧ w.cell? ⟨B, 7, none⟩ = some (.int .i64 z)
theorem CellsAt.below {B : Nat} {y m d hh mi ss n z : Int} {w w' : World} (h : CellsAt B y m d hh mi ss n z w) (hb : Below w.heap.size w w') : CellsAt B y m d hh mi ss n z w' := by
  have hB : B < w.heap.size := by
    have h0 := h.1
    rcases Nat.lt_or_ge B w.heap.size with h' | h'
    · exact h'
    · simp [World.cell?, Array.getElem?_eq_none h'] at h0
  have k : ∀ o, w'.cell? ⟨B, o, none⟩ = w.cell? ⟨B, o, none⟩ := fun o => hb.cell (p := ⟨B, o, none⟩) hB
  unfold CellsAt
  simp only [k]
  exact h
def SW (w w' : World) : Prop := Tab w' ∧ Below w.heap.size w w'
theorem SW.tab {w w' : World} (h : SW w w') : Tab w' := h.1
theorem date_any' (n : Int) (w : World) (ht : Tab w) (a0 : -9223372036854775808 ≤ n) (a1 : n ≤ 9223372036854775807) :
    Calls Tryd.prog 15 #[.int .i64 n] w fun e w' => e = .returned (.agg #[.int .i64 (dY n), .int .i64 (dM n), .int .i64 (dD n), .int .i64 (dh n), .int .i64 (dm n), .int .i64 (ds n), .int .i64 (dn n), .int .i64 0]) ∧ Below w.heap.size w w' := date_any n w ht a0 a1
theorem rdate_any' (n : Int) (w : World) (a0 : -9223372036854775808 ≤ n) (a1 : n ≤ 9223372036854775807) :
    Calls Tryd.prog 16 #[.int .i64 n] w fun e w' => e = .returned (.agg #[.int .i64 (dY n), .int .i64 (dM n), .int .i64 (dD n), .int .i64 (dh n), .int .i64 (dm n), .int .i64 (ds n), .int .i64 (dn n), .int .i64 0]) ∧ Below w.heap.size w w' := rdate_any n w a0 a1
theorem keepB {y m d hh mi ss n z : Int} {w W w' : World} (hb : Below W.heap.size W w') (h : SW w W) (c0 : W.cell? ⟨w.heap.size + 1, 0, none⟩ = some (.int .i64 y)) (c1 : W.cell? ⟨w.heap.size + 1, 1, none⟩ = some (.int .i64 m)) (c2 : W.cell? ⟨w.heap.size + 1, 2, none⟩ = some (.int .i64 d)) (c3 : W.cell? ⟨w.heap.size + 1, 3, none⟩ = some (.int .i64 hh)) (c4 : W.cell? ⟨w.heap.size + 1, 4, none⟩ = some (.int .i64 mi)) (c5 : W.cell? ⟨w.heap.size + 1, 5, none⟩ = some (.int .i64 ss)) (c6 : W.cell? ⟨w.heap.size + 1, 6, none⟩ = some (.int .i64 n)) (c7 : W.cell? ⟨w.heap.size + 1, 7, none⟩ = some (.int .i64 z)) :
    SW w w' ∧ w'.cell? ⟨w.heap.size + 1, 0, none⟩ = some (.int .i64 y) ∧ w'.cell? ⟨w.heap.size + 1, 1, none⟩ = some (.int .i64 m) ∧ w'.cell? ⟨w.heap.size + 1, 2, none⟩ = some (.int .i64 d) ∧ w'.cell? ⟨w.heap.size + 1, 3, none⟩ = some (.int .i64 hh) ∧ w'.cell? ⟨w.heap.size + 1, 4, none⟩ = some (.int .i64 mi) ∧ w'.cell? ⟨w.heap.size + 1, 5, none⟩ = some (.int .i64 ss) ∧ w'.cell? ⟨w.heap.size + 1, 6, none⟩ = some (.int .i64 n) ∧ w'.cell? ⟨w.heap.size + 1, 7, none⟩ = some (.int .i64 z) :=
  ⟨⟨h.1.below hb, into hb h.2 h.2.size⟩, CellsAt.below ⟨c0, c1, c2, c3, c4, c5, c6, c7⟩ hb⟩
theorem keepD {y m d hh mi ss n z : Int} {w W : World} (h : SW w W) (c0 : W.cell? ⟨w.heap.size + 1, 0, none⟩ = some (.int .i64 y)) (c1 : W.cell? ⟨w.heap.size + 1, 1, none⟩ = some (.int .i64 m)) (c2 : W.cell? ⟨w.heap.size + 1, 2, none⟩ = some (.int .i64 d)) (c3 : W.cell? ⟨w.heap.size + 1, 3, none⟩ = some (.int .i64 hh)) (c4 : W.cell? ⟨w.heap.size + 1, 4, none⟩ = some (.int .i64 mi)) (c5 : W.cell? ⟨w.heap.size + 1, 5, none⟩ = some (.int .i64 ss)) (c6 : W.cell? ⟨w.heap.size + 1, 6, none⟩ = some (.int .i64 n)) (c7 : W.cell? ⟨w.heap.size + 1, 7, none⟩ = some (.int .i64 z)) :
    SW w W.drew ∧ W.drew.cell? ⟨w.heap.size + 1, 0, none⟩ = some (.int .i64 y) ∧ W.drew.cell? ⟨w.heap.size + 1, 1, none⟩ = some (.int .i64 m) ∧ W.drew.cell? ⟨w.heap.size + 1, 2, none⟩ = some (.int .i64 d) ∧ W.drew.cell? ⟨w.heap.size + 1, 3, none⟩ = some (.int .i64 hh) ∧ W.drew.cell? ⟨w.heap.size + 1, 4, none⟩ = some (.int .i64 mi) ∧ W.drew.cell? ⟨w.heap.size + 1, 5, none⟩ = some (.int .i64 ss) ∧ W.drew.cell? ⟨w.heap.size + 1, 6, none⟩ = some (.int .i64 n) ∧ W.drew.cell? ⟨w.heap.size + 1, 7, none⟩ = some (.int .i64 z) :=
  ⟨⟨h.1, h.2.drew⟩, c0, c1, c2, c3, c4, c5, c6, c7⟩
theorem SWc.tab {w W : World} {R : Prop} (h : SW w W ∧ R) : Tab W := h.1.1
theorem SWc.below {w W : World} {R : Prop} (h : SW w W ∧ R) : Below w.heap.size w W := h.1.2
theorem keepBc {y m d hh mi ss n z : Int} {w W w' : World} (hb : Below W.heap.size W w') (h : SW w W ∧ W.cell? ⟨w.heap.size + 1, 0, none⟩ = some (.int .i64 y) ∧ W.cell? ⟨w.heap.size + 1, 1, none⟩ = some (.int .i64 m) ∧ W.cell? ⟨w.heap.size + 1, 2, none⟩ = some (.int .i64 d) ∧ W.cell? ⟨w.heap.size + 1, 3, none⟩ = some (.int .i64 hh) ∧ W.cell? ⟨w.heap.size + 1, 4, none⟩ = some (.int .i64 mi) ∧ W.cell? ⟨w.heap.size + 1, 5, none⟩ = some (.int .i64 ss) ∧ W.cell? ⟨w.heap.size + 1, 6, none⟩ = some (.int .i64 n) ∧ W.cell? ⟨w.heap.size + 1, 7, none⟩ = some (.int .i64 z)) : SW w w' ∧ w'.cell? ⟨w.heap.size + 1, 0, none⟩ = some (.int .i64 y) ∧ w'.cell? ⟨w.heap.size + 1, 1, none⟩ = some (.int .i64 m) ∧ w'.cell? ⟨w.heap.size + 1, 2, none⟩ = some (.int .i64 d) ∧ w'.cell? ⟨w.heap.size + 1, 3, none⟩ = some (.int .i64 hh) ∧ w'.cell? ⟨w.heap.size + 1, 4, none⟩ = some (.int .i64 mi) ∧ w'.cell? ⟨w.heap.size + 1, 5, none⟩ = some (.int .i64 ss) ∧ w'.cell? ⟨w.heap.size + 1, 6, none⟩ = some (.int .i64 n) ∧ w'.cell? ⟨w.heap.size + 1, 7, none⟩ = some (.int .i64 z) :=
  keepB hb h.1 h.2.1 h.2.2.1 h.2.2.2.1 h.2.2.2.2.1 h.2.2.2.2.2.1 h.2.2.2.2.2.2.1 h.2.2.2.2.2.2.2.1 h.2.2.2.2.2.2.2.2
theorem keepDc {y m d hh mi ss n z : Int} {w W : World} (h : SW w W ∧ W.cell? ⟨w.heap.size + 1, 0, none⟩ = some (.int .i64 y) ∧ W.cell? ⟨w.heap.size + 1, 1, none⟩ = some (.int .i64 m) ∧ W.cell? ⟨w.heap.size + 1, 2, none⟩ = some (.int .i64 d) ∧ W.cell? ⟨w.heap.size + 1, 3, none⟩ = some (.int .i64 hh) ∧ W.cell? ⟨w.heap.size + 1, 4, none⟩ = some (.int .i64 mi) ∧ W.cell? ⟨w.heap.size + 1, 5, none⟩ = some (.int .i64 ss) ∧ W.cell? ⟨w.heap.size + 1, 6, none⟩ = some (.int .i64 n) ∧ W.cell? ⟨w.heap.size + 1, 7, none⟩ = some (.int .i64 z)) : SW w W.drew ∧ W.drew.cell? ⟨w.heap.size + 1, 0, none⟩ = some (.int .i64 y) ∧ W.drew.cell? ⟨w.heap.size + 1, 1, none⟩ = some (.int .i64 m) ∧ W.drew.cell? ⟨w.heap.size + 1, 2, none⟩ = some (.int .i64 d) ∧ W.drew.cell? ⟨w.heap.size + 1, 3, none⟩ = some (.int .i64 hh) ∧ W.drew.cell? ⟨w.heap.size + 1, 4, none⟩ = some (.int .i64 mi) ∧ W.drew.cell? ⟨w.heap.size + 1, 5, none⟩ = some (.int .i64 ss) ∧ W.drew.cell? ⟨w.heap.size + 1, 6, none⟩ = some (.int .i64 n) ∧ W.drew.cell? ⟨w.heap.size + 1, 7, none⟩ = some (.int .i64 z) :=
  keepD h.1 h.2.1 h.2.2.1 h.2.2.2.1 h.2.2.2.2.1 h.2.2.2.2.2.1 h.2.2.2.2.2.2.1 h.2.2.2.2.2.2.2.1 h.2.2.2.2.2.2.2.2
set_option maxHeartbeats 4000000 in
set_option maxRecDepth 100000 in
theorem days_law (y m d hh mi ss n z yy mm dd nn : Int) (w : World) (ht : Tab w) (a0 : -9223372036854775808 ≤ nn) (a1 : nn ≤ 9223372036854775807) :
    Calls Tryd.prog 3 #[.agg #[.int .i64 y, .int .i64 m, .int .i64 d, .int .i64 hh, .int .i64 mi, .int .i64 ss, .int .i64 n, .int .i64 z, .int .i64 yy, .int .i64 mm, .int .i64 dd, .int .i64 nn]] w fun e w' => e = .returned (.bool true) ∧ Below w.heap.size w w' := by
  have ht1 := (ht.alloc (.cells #[.int .i64 y, .int .i64 m, .int .i64 d, .int .i64 hh, .int .i64 mi, .int .i64 ss, .int .i64 n, .int .i64 z, .int .i64 yy, .int .i64 mm, .int .i64 dd, .int .i64 nn] 25)).alloc (.cells #[.int .i64 y, .int .i64 m, .int .i64 d, .int .i64 hh, .int .i64 mi, .int .i64 ss, .int .i64 n, .int .i64 z] 23)
  have HT := Lib.hid ht1; clear ht1
  go_enter Tryd.func3, Tryd.ntmps3
  go_upto_region 11 with (first | (go_at_call 4; refine (shown_true _ HT.out).mono ?_; rintro e w' ⟨rfl, rfl⟩) | (go_at_call 5; refine (days_any _ _ _ _ HT.out).mono ?_; rintro e w' ⟨rfl, rfl⟩) | (go_at_call 6; refine (rdays_any _ _ _ _).mono ?_; rintro e w' ⟨rfl, rfl⟩) | (go_at_call 7; refine (nanos_any _ _ _ _ _ _ _ _ _ HT.out).mono ?_; rintro e w1 ⟨rfl, hb⟩; obtain ⟨hc, hf⟩ := bcell hb) | (go_at_call 8; refine (rnanos_any _ _ _ _ _ _ _ _ _).mono ?_; rintro e w1 ⟨rfl, hb1⟩; replace hb := Below.trans hb (hb1.mono hb.size); clear hb1; obtain ⟨hc, hf⟩ := bcell hb))
  have hC : CellsAt (w.heap.size + 1) y m d hh mi ss n z w1 := by
    have h0 : CellsAt (w.heap.size + 1) y m d hh mi ss n z ((w.alloc (.cells #[.int .i64 y, .int .i64 m, .int .i64 d, .int .i64 hh, .int .i64 mi, .int .i64 ss, .int .i64 n, .int .i64 z, .int .i64 yy, .int .i64 mm, .int .i64 dd, .int .i64 nn] 25)).alloc (.cells #[.int .i64 y, .int .i64 m, .int .i64 d, .int .i64 hh, .int .i64 mi, .int .i64 ss, .int .i64 n, .int .i64 z] 23)) := by
      unfold CellsAt; simp [go_sem]
    exact h0.below hb
  have hT := HT.out.below hb
  have hBB : Below w.heap.size w w1 := into hb (((Below.refl _ _).alloc (Nat.le_refl _) _).alloc (by simp) _) (by simp; omega)
  clear hb hc hf HT
  obtain ⟨c0, c1, c2, c3, c4, c5, c6, c7⟩ := hC
  have hS : SW w w1 := ⟨hT, hBB⟩
  clear hT hBB ht
  go_region_held3 (fun w' => SW w w' ∧ w'.cell? ⟨w.heap.size + 1, 0, none⟩ = some (.int .i64 y) ∧ w'.cell? ⟨w.heap.size + 1, 1, none⟩ = some (.int .i64 m) ∧ w'.cell? ⟨w.heap.size + 1, 2, none⟩ = some (.int .i64 d) ∧ w'.cell? ⟨w.heap.size + 1, 3, none⟩ = some (.int .i64 hh) ∧ w'.cell? ⟨w.heap.size + 1, 4, none⟩ = some (.int .i64 mi) ∧ w'.cell? ⟨w.heap.size + 1, 5, none⟩ = some (.int .i64 ss) ∧ w'.cell? ⟨w.heap.size + 1, 6, none⟩ = some (.int .i64 n) ∧ w'.cell? ⟨w.heap.size + 1, 7, none⟩ = some (.int .i64 z)) (first | exact keepD (by assumption) (by assumption) (by assumption) (by assumption) (by assumption) (by assumption) (by assumption) (by assumption) (by assumption) | exact keepDc (by assumption) | exact keepBc (by assumption) (by assumption) | go_keep)
    (first | (go_at_call 9; refine (leap_any _ _).mono ?_; rintro e w' ⟨rfl, rfl⟩) | (go_at_call 10; refine (rleap_any _ _).mono ?_; rintro e w' ⟨rfl, rfl⟩) | (go_at_call 11; refine (len_any _ _ _ (SWc.tab (by assumption))).mono ?_; rintro e w' ⟨rfl, rfl⟩) | (go_at_call 12; refine (rlen_any _ _ _).mono ?_; rintro e w' ⟨rfl, rfl⟩) | (go_at_call 13; refine (right_any _ _ _ _ _ _ _ _ _ (SWc.tab (by assumption))).mono ?_; rintro e w' ⟨rfl, hb⟩) | (go_at_call 14; refine (rright_any _ _ _ _ _ _ _ _ _).mono ?_; rintro e w' ⟨rfl, hb⟩) | (go_at_call 15; refine (date_any' _ _ (SWc.tab (by assumption)) a0 a1).mono ?_; rintro e w' ⟨rfl, hb⟩) | (go_at_call 16; refine (rdate_any' _ _ a0 a1).mono ?_; rintro e w' ⟨rfl, hb⟩))
  all_goals
    go_wp2_with fail
    go_ret
    exact ⟨rfl, by first | exact SWc.below (by assumption) | exact SWc.below (keepBc (by assumption) (by assumption))⟩
end Go.Proofs.YtpdfobjlcfcfpaaDoor
