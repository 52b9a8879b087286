/- The law CalZones, walked: it returns true for every date and zone. -/
import Derived.Test.YtlnnnbbpilcgkaaDoorRRRCalShown
set_option linter.unusedVariables false
set_option linter.unusedSimpArgs false
namespace Go.Proofs.YtlnnnbbpilcgkaaDoorRRR
open Go.RowKit
set_option maxHeartbeats 1000000 in
theorem zones_any (y m d hh mi ss n z zone : Int) (w : World) (ht : Tab w) :
    Calls Tryd.prog 4 #[.agg #[.int .i64 y, .int .i64 m, .int .i64 d, .int .i64 hh, .int .i64 mi, .int .i64 ss, .int .i64 n, .int .i64 z], .int .i64 zone] w fun e w' => e = .returned (.bool true) ∧ Below w.heap.size w w' := by
  have ht1 := (ht.alloc (.cells #[.int .i64 y, .int .i64 m, .int .i64 d, .int .i64 hh, .int .i64 mi, .int .i64 ss, .int .i64 n, .int .i64 z] 30))
  have ht2 := (ht1.alloc (.cells #[.int .i64 y, .int .i64 m, .int .i64 d, .int .i64 hh, .int .i64 mi, .int .i64 ss, .int .i64 n, .int .i64 zone] 30))
  have HT1 := Lib.hid ht1; have HT2 := Lib.hid ht2; clear ht1 ht2
  cases h1 : rightB y m d hh mi ss n z with
  | false =>
    have hE : (nanosE y m d hh mi ss n z != 0) = true := by simp [nanosE, h1]
    go_enter Tryd.func4, Tryd.ntmps4
    go_wp2_with (first | (go_at_call 6; refine (shown_true _ HT1.out).mono ?_; rintro e w' ⟨rfl, rfl⟩) | (go_at_call 10; refine (nanos_any _ _ _ _ _ _ _ _ _ (by first | exact HT2.out | exact HT2.out.below hb)).mono ?_; rintro e w1 ⟨rfl, hb1⟩; (first | replace hb := Below.trans hb (hb1.mono hb.size) | have hb := hb1); clear hb1; obtain ⟨hc, hf⟩ := bcell hb))
    go_ret
    exact ⟨rfl, into hb (((Below.refl _ _).alloc (Nat.le_refl _) _).alloc (by simp) _) (by simp; omega)⟩
  | true =>
  cases h2 : rightB y m d hh mi ss n zone with
  | false =>
    have hE : (nanosE y m d hh mi ss n z != 0) = false := by simp [nanosE, h1]
    have hE' : (nanosE y m d hh mi ss n zone != 0) = true := by simp [nanosE, h2]
    go_enter Tryd.func4, Tryd.ntmps4
    go_wp2_with (first | (go_at_call 6; refine (shown_true _ HT1.out).mono ?_; rintro e w' ⟨rfl, rfl⟩) | (go_at_call 10; refine (nanos_any _ _ _ _ _ _ _ _ _ (by first | exact HT2.out | exact HT2.out.below hb)).mono ?_; rintro e w1 ⟨rfl, hb1⟩; (first | replace hb := Below.trans hb (hb1.mono hb.size) | have hb := hb1); clear hb1; obtain ⟨hc, hf⟩ := bcell hb))
    go_ret
    exact ⟨rfl, into hb (((Below.refl _ _).alloc (Nat.le_refl _) _).alloc (by simp) _) (by simp; omega)⟩
  | true =>
    have hE : (nanosE y m d hh mi ss n z != 0) = false := by simp [nanosE, h1]
    have hE' : (nanosE y m d hh mi ss n zone != 0) = false := by simp [nanosE, h2]
    obtain ⟨_, _, _, _, _, _, _, _, _, _, z1, z2⟩ := right_parts h1
    obtain ⟨_, _, _, _, _, _, _, _, _, _, z3, z4⟩ := right_parts h2
    have n1 := nanos_bd h1
    have n2 := nanos_bd h2
    have hd : (nanosN y m d hh mi ss n z - nanosN y m d hh mi ss n zone == (zone - z) * 60000000000) = true := by
      rw [beq_iff_eq]; simp only [nanosN, h1, h2, if_true]; unfold nanosI; omega
    have m1 : -9160000000000000000 ≤ nanosN y m d hh mi ss n z ∧ nanosN y m d hh mi ss n z ≤ 9160000000000000000 := by simpa [nanosN, h1] using n1
    have m2 : -173000000000000 ≤ nanosN y m d hh mi ss n z - nanosN y m d hh mi ss n zone ∧ nanosN y m d hh mi ss n z - nanosN y m d hh mi ss n zone ≤ 173000000000000 := by rw [beq_iff_eq] at hd; omega
    obtain ⟨m3, m4⟩ := m2
    clear n1 n2 m1 h1 h2
    go_enter Tryd.func4, Tryd.ntmps4
    go_wp2_with (first | (go_at_call 6; refine (shown_true _ HT1.out).mono ?_; rintro e w' ⟨rfl, rfl⟩) | (go_at_call 10; refine (nanos_any _ _ _ _ _ _ _ _ _ (by first | exact HT2.out | exact HT2.out.below hb)).mono ?_; rintro e w1 ⟨rfl, hb1⟩; (first | replace hb := Below.trans hb (hb1.mono hb.size) | have hb := hb1); clear hb1; obtain ⟨hc, hf⟩ := bcell hb))
    go_ret
    exact ⟨rfl, into hb (((Below.refl _ _).alloc (Nat.le_refl _) _).alloc (by simp) _) (by simp; omega)⟩
end Go.Proofs.YtlnnnbbpilcgkaaDoorRRR
