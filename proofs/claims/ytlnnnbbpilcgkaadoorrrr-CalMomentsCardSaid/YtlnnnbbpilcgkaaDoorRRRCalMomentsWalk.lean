/- The law CalMoments, walked: it returns true for every date and number of nanoseconds. -/
import Derived.Test.YtlnnnbbpilcgkaaDoorRRRCalShown
import Derived.Test.YtlnnnbbpilcgkaaDoorRRRCalDate
set_option linter.unusedVariables false
set_option linter.unusedSimpArgs false
namespace Go.Proofs.YtlnnnbbpilcgkaaDoorRRR
open Go.RowKit
theorem date_any' (n : Int) (w : World) (ht : Tab w) (a0 : -9223372036854775808 ≤ n) (a1 : n ≤ 9223372036854775807) :
    Calls Tryd.prog 11 #[.int .i64 n] w fun e w' => e = .returned (.agg #[.int .i64 (dY n), .int .i64 (dM n), .int .i64 (dD n), .int .i64 (dh n), .int .i64 (dm n), .int .i64 (ds n), .int .i64 (dn n), .int .i64 0]) ∧ Below w.heap.size w w' := date_any n w ht a0 a1
theorem date_of (y m d hh mi ss n : Int) (w : World) (ht : Tab w) (h : rightB y m d hh mi ss n 0 = true) (y1 : 1700 < y) (y2 : y < 2250) :
    Calls Tryd.prog 11 #[.int .i64 (nanosN y m d hh mi ss n 0)] w fun e w' => e = .returned (.agg #[.int .i64 y, .int .i64 m, .int .i64 d, .int .i64 hh, .int .i64 mi, .int .i64 ss, .int .i64 n, .int .i64 0]) ∧ Below w.heap.size w w' := by
  have e : nanosN y m d hh mi ss n 0 = nanosI y m d hh mi ss n 0 := by simp [nanosN, h]
  obtain ⟨b1, b2⟩ := nanos_bd h
  obtain ⟨_, hb⟩ := date_back h y1 y2
  obtain ⟨e1, e2, e3, e4, e5, e6, e7⟩ := hb rfl
  refine (date_any' _ w ht (by omega) (by omega)).mono ?_
  rintro e w' ⟨rfl, hb⟩
  rw [‹nanosN y m d hh mi ss n 0 = _›, e1, e2, e3, e4, e5, e6, e7]
  exact ⟨rfl, hb⟩
/-- what the second half of the law does -/
def Half (w : World) (a : Array Value) (wx : World) : Prop := Below (w.alloc (.cells a 30)).heap.size (w.alloc (.cells a 30)) wx
set_option maxHeartbeats 2000000 in
set_option maxRecDepth 100000 in
theorem moments_any (y m d hh mi ss n z k : Int) (w : World) (ht : Tab w) (k0 : -9223372036854775808 ≤ k) (k1 : k ≤ 9223372036854775807) :
    Calls Tryd.prog 5 #[.agg #[.int .i64 y, .int .i64 m, .int .i64 d, .int .i64 hh, .int .i64 mi, .int .i64 ss, .int .i64 n, .int .i64 z], .int .i64 k] w fun e w' => e = .returned (.bool true) ∧ Below w.heap.size w w' := by
  have ht1 := (ht.alloc (.cells #[.int .i64 y, .int .i64 m, .int .i64 d, .int .i64 hh, .int .i64 mi, .int .i64 ss, .int .i64 n, .int .i64 z] 30))
  have HT1 := Lib.hid ht1; clear ht1
  cases h1 : rightB y m d hh mi ss n z with
  | false =>
    have hE : (nanosE y m d hh mi ss n z == 0) = false := by simp [nanosE, h1]
    go_enter Tryd.func5, Tryd.ntmps5
    go_upto_if 31 with (first | (go_at_call 6; refine (shown_true _ HT1.out).mono ?_; rintro e w' ⟨rfl, rfl⟩) | (go_at_call 10; refine (nanos_any _ _ _ _ _ _ _ _ _ HT1.out).mono ?_; rintro e w1 ⟨rfl, hb1⟩; (first | replace hb := Below.trans hb (hb1.mono hb.size) | have hb := hb1); clear hb1; obtain ⟨hc, hf⟩ := bcell hb))
    go_cut [] (fun wx => Half w #[.int .i64 y, .int .i64 m, .int .i64 d, .int .i64 hh, .int .i64 mi, .int .i64 ss, .int .i64 n, .int .i64 z] wx)
    case first =>
      go_wp2
      go_meet
      exact hb
    case rest =>
      have hb := hcut
      unfold Half at hb
      clear hcut
      obtain ⟨hc, hf⟩ := bcell hb
      have htx := HT1.out.below hb
      have HTX := Lib.hid htx; clear htx
      have hr := date_right k
      have hE : (nanosE (dY k) (dM k) (dD k) (dh k) (dm k) (ds k) (dn k) 0 != 0) = false := by simp [nanosE, hr]
      have hNN : nanosN (dY k) (dM k) (dD k) (dh k) (dm k) (ds k) (dn k) 0 = nanosI (dY k) (dM k) (dD k) (dh k) (dm k) (ds k) (dn k) 0 := by simp [nanosN, hr]
      have hnear := date_near k
      rw [← hNN] at hnear
      obtain ⟨nb1, nb2⟩ := nanos_bd hr
      rw [← hNN] at nb1 nb2
      clear hNN
      cases e1 : (dY k == 1700) <;> cases e2 : (dY k == 2250)
      all_goals
        have hn3 : dY k ≠ 1700 → dY k ≠ 2250 → (0 ≤ k - nanosN (dY k) (dM k) (dD k) (dh k) (dm k) (ds k) (dn k) 0 ∧ k - nanosN (dY k) (dM k) (dD k) (dh k) (dm k) (ds k) (dn k) 0 < 1000) := by
          intro n1 n2
          rcases hnear with q | q | q
          · exact absurd q n1
          · exact absurd q n2
          · exact q
        simp only [beq_iff_eq, beq_eq_false_iff_ne] at e1 e2
        first
          | (obtain ⟨n1, n2⟩ := hn3 e1 e2; clear hn3 hnear; have f1 : (dY k == 1700) = false := beq_eq_false_iff_ne.2 e1; have f2 : (dY k == 2250) = false := beq_eq_false_iff_ne.2 e2)
          | (clear hn3 hnear; have f1 : (dY k == 1700) = true := beq_iff_eq.2 e1)
          | (clear hn3 hnear; have f1 : (dY k == 1700) = false := beq_eq_false_iff_ne.2 e1; have f2 : (dY k == 2250) = true := beq_iff_eq.2 e2)
        clear e1 e2
        go_wp2_with (first | (go_at_call 11; refine (date_any' _ _ HTX.out k0 k1).mono ?_; rintro e w2 ⟨rfl, hb1⟩; replace hb := Below.trans hb (hb1.mono hb.size); clear hb1; obtain ⟨hc, hf⟩ := bcell hb) | (go_at_call 10; refine (nanos_any _ _ _ _ _ _ _ _ _ ((HT1.out.below hb).alloc _)).mono ?_; rintro e w3 ⟨rfl, hb3⟩; obtain ⟨hc3, hf3⟩ := bcell hb3) | (go_at_call 12; refine (right_any _ _ _ _ _ _ _ _ _ (((HT1.out.below hb).alloc _).below hb3)).mono ?_; rw [hr]; rintro e w4 ⟨rfl, hb4⟩; replace hb3 := Below.trans hb3 (hb4.mono hb3.size); clear hb4; obtain ⟨hc3, hf3⟩ := bcell hb3))
        go_ret
        exact ⟨rfl, into hb3 ((into hb ((Below.refl _ _).alloc (Nat.le_refl _) _) (by simp)).alloc (by have := hb.size; simp at this ⊢; omega) _) (by have := hb.size; simp at this ⊢; omega)⟩

  | true =>
  have hE : (nanosE y m d hh mi ss n z == 0) = true := by simp [nanosE, h1]
  by_cases y1 : y ≤ 1700
  ·
    clear h1
    go_enter Tryd.func5, Tryd.ntmps5
    go_upto_if 31 with (first | (go_at_call 6; refine (shown_true _ HT1.out).mono ?_; rintro e w' ⟨rfl, rfl⟩) | (go_at_call 10; refine (nanos_any _ _ _ _ _ _ _ _ _ HT1.out).mono ?_; rintro e w1 ⟨rfl, hb1⟩; (first | replace hb := Below.trans hb (hb1.mono hb.size) | have hb := hb1); clear hb1; obtain ⟨hc, hf⟩ := bcell hb))
    go_cut [] (fun wx => Half w #[.int .i64 y, .int .i64 m, .int .i64 d, .int .i64 hh, .int .i64 mi, .int .i64 ss, .int .i64 n, .int .i64 z] wx)
    case first =>
      go_wp2
      go_meet
      exact hb
    case rest =>
      have hb := hcut
      unfold Half at hb
      clear hcut
      obtain ⟨hc, hf⟩ := bcell hb
      have htx := HT1.out.below hb
      have HTX := Lib.hid htx; clear htx
      have hr := date_right k
      have hE : (nanosE (dY k) (dM k) (dD k) (dh k) (dm k) (ds k) (dn k) 0 != 0) = false := by simp [nanosE, hr]
      have hNN : nanosN (dY k) (dM k) (dD k) (dh k) (dm k) (ds k) (dn k) 0 = nanosI (dY k) (dM k) (dD k) (dh k) (dm k) (ds k) (dn k) 0 := by simp [nanosN, hr]
      have hnear := date_near k
      rw [← hNN] at hnear
      obtain ⟨nb1, nb2⟩ := nanos_bd hr
      rw [← hNN] at nb1 nb2
      clear hNN
      cases e1 : (dY k == 1700) <;> cases e2 : (dY k == 2250)
      all_goals
        have hn3 : dY k ≠ 1700 → dY k ≠ 2250 → (0 ≤ k - nanosN (dY k) (dM k) (dD k) (dh k) (dm k) (ds k) (dn k) 0 ∧ k - nanosN (dY k) (dM k) (dD k) (dh k) (dm k) (ds k) (dn k) 0 < 1000) := by
          intro n1 n2
          rcases hnear with q | q | q
          · exact absurd q n1
          · exact absurd q n2
          · exact q
        simp only [beq_iff_eq, beq_eq_false_iff_ne] at e1 e2
        first
          | (obtain ⟨n1, n2⟩ := hn3 e1 e2; clear hn3 hnear; have f1 : (dY k == 1700) = false := beq_eq_false_iff_ne.2 e1; have f2 : (dY k == 2250) = false := beq_eq_false_iff_ne.2 e2)
          | (clear hn3 hnear; have f1 : (dY k == 1700) = true := beq_iff_eq.2 e1)
          | (clear hn3 hnear; have f1 : (dY k == 1700) = false := beq_eq_false_iff_ne.2 e1; have f2 : (dY k == 2250) = true := beq_iff_eq.2 e2)
        clear e1 e2
        go_wp2_with (first | (go_at_call 11; refine (date_any' _ _ HTX.out k0 k1).mono ?_; rintro e w2 ⟨rfl, hb1⟩; replace hb := Below.trans hb (hb1.mono hb.size); clear hb1; obtain ⟨hc, hf⟩ := bcell hb) | (go_at_call 10; refine (nanos_any _ _ _ _ _ _ _ _ _ ((HT1.out.below hb).alloc _)).mono ?_; rintro e w3 ⟨rfl, hb3⟩; obtain ⟨hc3, hf3⟩ := bcell hb3) | (go_at_call 12; refine (right_any _ _ _ _ _ _ _ _ _ (((HT1.out.below hb).alloc _).below hb3)).mono ?_; rw [hr]; rintro e w4 ⟨rfl, hb4⟩; replace hb3 := Below.trans hb3 (hb4.mono hb3.size); clear hb4; obtain ⟨hc3, hf3⟩ := bcell hb3))
        go_ret
        exact ⟨rfl, into hb3 ((into hb ((Below.refl _ _).alloc (Nat.le_refl _) _) (by simp)).alloc (by have := hb.size; simp at this ⊢; omega) _) (by have := hb.size; simp at this ⊢; omega)⟩
  by_cases y2 : 2250 ≤ y
  ·
    have y1n : 1700 < y := by omega
    clear h1
    go_enter Tryd.func5, Tryd.ntmps5
    go_upto_if 31 with (first | (go_at_call 6; refine (shown_true _ HT1.out).mono ?_; rintro e w' ⟨rfl, rfl⟩) | (go_at_call 10; refine (nanos_any _ _ _ _ _ _ _ _ _ HT1.out).mono ?_; rintro e w1 ⟨rfl, hb1⟩; (first | replace hb := Below.trans hb (hb1.mono hb.size) | have hb := hb1); clear hb1; obtain ⟨hc, hf⟩ := bcell hb))
    go_cut [] (fun wx => Half w #[.int .i64 y, .int .i64 m, .int .i64 d, .int .i64 hh, .int .i64 mi, .int .i64 ss, .int .i64 n, .int .i64 z] wx)
    case first =>
      go_wp2
      go_meet
      exact hb
    case rest =>
      have hb := hcut
      unfold Half at hb
      clear hcut
      obtain ⟨hc, hf⟩ := bcell hb
      have htx := HT1.out.below hb
      have HTX := Lib.hid htx; clear htx
      have hr := date_right k
      have hE : (nanosE (dY k) (dM k) (dD k) (dh k) (dm k) (ds k) (dn k) 0 != 0) = false := by simp [nanosE, hr]
      have hNN : nanosN (dY k) (dM k) (dD k) (dh k) (dm k) (ds k) (dn k) 0 = nanosI (dY k) (dM k) (dD k) (dh k) (dm k) (ds k) (dn k) 0 := by simp [nanosN, hr]
      have hnear := date_near k
      rw [← hNN] at hnear
      obtain ⟨nb1, nb2⟩ := nanos_bd hr
      rw [← hNN] at nb1 nb2
      clear hNN
      cases e1 : (dY k == 1700) <;> cases e2 : (dY k == 2250)
      all_goals
        have hn3 : dY k ≠ 1700 → dY k ≠ 2250 → (0 ≤ k - nanosN (dY k) (dM k) (dD k) (dh k) (dm k) (ds k) (dn k) 0 ∧ k - nanosN (dY k) (dM k) (dD k) (dh k) (dm k) (ds k) (dn k) 0 < 1000) := by
          intro n1 n2
          rcases hnear with q | q | q
          · exact absurd q n1
          · exact absurd q n2
          · exact q
        simp only [beq_iff_eq, beq_eq_false_iff_ne] at e1 e2
        first
          | (obtain ⟨n1, n2⟩ := hn3 e1 e2; clear hn3 hnear; have f1 : (dY k == 1700) = false := beq_eq_false_iff_ne.2 e1; have f2 : (dY k == 2250) = false := beq_eq_false_iff_ne.2 e2)
          | (clear hn3 hnear; have f1 : (dY k == 1700) = true := beq_iff_eq.2 e1)
          | (clear hn3 hnear; have f1 : (dY k == 1700) = false := beq_eq_false_iff_ne.2 e1; have f2 : (dY k == 2250) = true := beq_iff_eq.2 e2)
        clear e1 e2
        go_wp2_with (first | (go_at_call 11; refine (date_any' _ _ HTX.out k0 k1).mono ?_; rintro e w2 ⟨rfl, hb1⟩; replace hb := Below.trans hb (hb1.mono hb.size); clear hb1; obtain ⟨hc, hf⟩ := bcell hb) | (go_at_call 10; refine (nanos_any _ _ _ _ _ _ _ _ _ ((HT1.out.below hb).alloc _)).mono ?_; rintro e w3 ⟨rfl, hb3⟩; obtain ⟨hc3, hf3⟩ := bcell hb3) | (go_at_call 12; refine (right_any _ _ _ _ _ _ _ _ _ (((HT1.out.below hb).alloc _).below hb3)).mono ?_; rw [hr]; rintro e w4 ⟨rfl, hb4⟩; replace hb3 := Below.trans hb3 (hb4.mono hb3.size); clear hb4; obtain ⟨hc3, hf3⟩ := bcell hb3))
        go_ret
        exact ⟨rfl, into hb3 ((into hb ((Below.refl _ _).alloc (Nat.le_refl _) _) (by simp)).alloc (by have := hb.size; simp at this ⊢; omega) _) (by have := hb.size; simp at this ⊢; omega)⟩
  have y1n : 1700 < y := by omega
  have y2n : y < 2250 := by omega
  by_cases hz0 : z = 0
  ·
    subst hz0
    obtain ⟨nb3, nb4⟩ := nanos_bd h1
    have hNe : nanosN y m d hh mi ss n 0 = nanosI y m d hh mi ss n 0 := by simp [nanosN, h1]
    rw [← hNe] at nb3 nb4
    have hEn : (nanosE y m d hh mi ss n 0 != 0) = false := by simp [nanosE, h1]
    have H1 := Lib.hid h1
    clear hNe h1
    go_enter Tryd.func5, Tryd.ntmps5
    go_upto_if 31 with (first | (go_at_call 6; refine (shown_true _ HT1.out).mono ?_; rintro e w' ⟨rfl, rfl⟩) | (go_at_call 10; refine (nanos_any _ _ _ _ _ _ _ _ _ HT1.out).mono ?_; rintro e w1 ⟨rfl, hb1⟩; (first | replace hb := Below.trans hb (hb1.mono hb.size) | have hb := hb1); clear hb1; obtain ⟨hc, hf⟩ := bcell hb))
    go_cut [] (fun wx => Half w #[.int .i64 y, .int .i64 m, .int .i64 d, .int .i64 hh, .int .i64 mi, .int .i64 ss, .int .i64 n, .int .i64 0] wx)
    case first =>
      have HTX := Lib.hid (HT1.out.below hb)
      go_wp2_with (first | (go_at_call 11; refine (date_of _ _ _ _ _ _ _ _ HTX.out H1.out y1n y2n).mono ?_; rintro e w2 ⟨rfl, hb1⟩; replace hb := Below.trans hb (hb1.mono hb.size); clear hb1; obtain ⟨hc, hf⟩ := bcell hb) | (go_at_call 10; refine (nanos_any _ _ _ _ _ _ _ _ _ ((HT1.out.below hb).alloc _)).mono ?_; rintro e w3 ⟨rfl, hb3⟩; obtain ⟨hc3, hf3⟩ := bcell hb3; have hb4 := into hb3 (hb.alloc hb.size _) (Nat.le_trans hb.size (by simp)); obtain ⟨hc4, hf4⟩ := bcell hb4))
      go_meet
      exact hb4
    case rest =>
      have hb := hcut
      unfold Half at hb
      clear hcut
      obtain ⟨hc, hf⟩ := bcell hb
      have htx := HT1.out.below hb
      have HTX := Lib.hid htx; clear htx
      have hr := date_right k
      have hE : (nanosE (dY k) (dM k) (dD k) (dh k) (dm k) (ds k) (dn k) 0 != 0) = false := by simp [nanosE, hr]
      have hNN : nanosN (dY k) (dM k) (dD k) (dh k) (dm k) (ds k) (dn k) 0 = nanosI (dY k) (dM k) (dD k) (dh k) (dm k) (ds k) (dn k) 0 := by simp [nanosN, hr]
      have hnear := date_near k
      rw [← hNN] at hnear
      obtain ⟨nb1, nb2⟩ := nanos_bd hr
      rw [← hNN] at nb1 nb2
      clear hNN
      cases e1 : (dY k == 1700) <;> cases e2 : (dY k == 2250)
      all_goals
        have hn3 : dY k ≠ 1700 → dY k ≠ 2250 → (0 ≤ k - nanosN (dY k) (dM k) (dD k) (dh k) (dm k) (ds k) (dn k) 0 ∧ k - nanosN (dY k) (dM k) (dD k) (dh k) (dm k) (ds k) (dn k) 0 < 1000) := by
          intro n1 n2
          rcases hnear with q | q | q
          · exact absurd q n1
          · exact absurd q n2
          · exact q
        simp only [beq_iff_eq, beq_eq_false_iff_ne] at e1 e2
        first
          | (obtain ⟨n1, n2⟩ := hn3 e1 e2; clear hn3 hnear; have f1 : (dY k == 1700) = false := beq_eq_false_iff_ne.2 e1; have f2 : (dY k == 2250) = false := beq_eq_false_iff_ne.2 e2)
          | (clear hn3 hnear; have f1 : (dY k == 1700) = true := beq_iff_eq.2 e1)
          | (clear hn3 hnear; have f1 : (dY k == 1700) = false := beq_eq_false_iff_ne.2 e1; have f2 : (dY k == 2250) = true := beq_iff_eq.2 e2)
        clear e1 e2
        go_wp2_with (first | (go_at_call 11; refine (date_any' _ _ HTX.out k0 k1).mono ?_; rintro e w2 ⟨rfl, hb1⟩; replace hb := Below.trans hb (hb1.mono hb.size); clear hb1; obtain ⟨hc, hf⟩ := bcell hb) | (go_at_call 10; refine (nanos_any _ _ _ _ _ _ _ _ _ ((HT1.out.below hb).alloc _)).mono ?_; rintro e w3 ⟨rfl, hb3⟩; obtain ⟨hc3, hf3⟩ := bcell hb3) | (go_at_call 12; refine (right_any _ _ _ _ _ _ _ _ _ (((HT1.out.below hb).alloc _).below hb3)).mono ?_; rw [hr]; rintro e w4 ⟨rfl, hb4⟩; replace hb3 := Below.trans hb3 (hb4.mono hb3.size); clear hb4; obtain ⟨hc3, hf3⟩ := bcell hb3))
        go_ret
        exact ⟨rfl, into hb3 ((into hb ((Below.refl _ _).alloc (Nat.le_refl _) _) (by simp)).alloc (by have := hb.size; simp at this ⊢; omega) _) (by have := hb.size; simp at this ⊢; omega)⟩
  ·
    have hz1 : (z == 0) = false := beq_eq_false_iff_ne.2 hz0
    obtain ⟨nb3, nb4⟩ := nanos_bd h1
    have hNe : nanosN y m d hh mi ss n z = nanosI y m d hh mi ss n z := by simp [nanosN, h1]
    rw [← hNe] at nb3 nb4
    obtain ⟨hbk, _⟩ := date_back h1 y1n y2n
    rw [← hNe] at hbk
    have hrX := date_right (nanosN y m d hh mi ss n z)
    have hEX : (nanosE (dY (nanosN y m d hh mi ss n z)) (dM (nanosN y m d hh mi ss n z)) (dD (nanosN y m d hh mi ss n z)) (dh (nanosN y m d hh mi ss n z)) (dm (nanosN y m d hh mi ss n z)) (ds (nanosN y m d hh mi ss n z)) (dn (nanosN y m d hh mi ss n z)) 0 != 0) = false := by simp [nanosE, hrX]
    have hNX : nanosN (dY (nanosN y m d hh mi ss n z)) (dM (nanosN y m d hh mi ss n z)) (dD (nanosN y m d hh mi ss n z)) (dh (nanosN y m d hh mi ss n z)) (dm (nanosN y m d hh mi ss n z)) (ds (nanosN y m d hh mi ss n z)) (dn (nanosN y m d hh mi ss n z)) 0 = nanosN y m d hh mi ss n z := by rw [nanosN, if_pos hrX]; exact hbk
    have HNX := Lib.hid hNX
    clear hNX hbk hNe h1 hz0
    go_enter Tryd.func5, Tryd.ntmps5
    go_upto_if 31 with (first | (go_at_call 6; refine (shown_true _ HT1.out).mono ?_; rintro e w' ⟨rfl, rfl⟩) | (go_at_call 10; refine (nanos_any _ _ _ _ _ _ _ _ _ HT1.out).mono ?_; rintro e w1 ⟨rfl, hb1⟩; (first | replace hb := Below.trans hb (hb1.mono hb.size) | have hb := hb1); clear hb1; obtain ⟨hc, hf⟩ := bcell hb))
    go_cut [] (fun wx => Half w #[.int .i64 y, .int .i64 m, .int .i64 d, .int .i64 hh, .int .i64 mi, .int .i64 ss, .int .i64 n, .int .i64 z] wx)
    case first =>
      have HTX := Lib.hid (HT1.out.below hb)
      go_wp2_with (first | (go_at_call 11; refine (date_any' _ _ HTX.out (by omega) (by omega)).mono ?_; rintro e w2 ⟨rfl, hb1⟩; replace hb := Below.trans hb (hb1.mono hb.size); clear hb1; obtain ⟨hc, hf⟩ := bcell hb) | (go_at_call 10; refine (nanos_any _ _ _ _ _ _ _ _ _ ((HT1.out.below hb).alloc _)).mono ?_; rw [HNX.out]; rintro e w3 ⟨rfl, hb3⟩; obtain ⟨hc3, hf3⟩ := bcell hb3; have hb4 := into hb3 (hb.alloc hb.size _) (Nat.le_trans hb.size (by simp)); obtain ⟨hc4, hf4⟩ := bcell hb4))
      go_meet
      exact hb4
    case rest =>
      have hb := hcut
      unfold Half at hb
      clear hcut
      obtain ⟨hc, hf⟩ := bcell hb
      have htx := HT1.out.below hb
      have HTX := Lib.hid htx; clear htx
      have hr := date_right k
      have hE : (nanosE (dY k) (dM k) (dD k) (dh k) (dm k) (ds k) (dn k) 0 != 0) = false := by simp [nanosE, hr]
      have hNN : nanosN (dY k) (dM k) (dD k) (dh k) (dm k) (ds k) (dn k) 0 = nanosI (dY k) (dM k) (dD k) (dh k) (dm k) (ds k) (dn k) 0 := by simp [nanosN, hr]
      have hnear := date_near k
      rw [← hNN] at hnear
      obtain ⟨nb1, nb2⟩ := nanos_bd hr
      rw [← hNN] at nb1 nb2
      clear hNN
      cases e1 : (dY k == 1700) <;> cases e2 : (dY k == 2250)
      all_goals
        have hn3 : dY k ≠ 1700 → dY k ≠ 2250 → (0 ≤ k - nanosN (dY k) (dM k) (dD k) (dh k) (dm k) (ds k) (dn k) 0 ∧ k - nanosN (dY k) (dM k) (dD k) (dh k) (dm k) (ds k) (dn k) 0 < 1000) := by
          intro n1 n2
          rcases hnear with q | q | q
          · exact absurd q n1
          · exact absurd q n2
          · exact q
        simp only [beq_iff_eq, beq_eq_false_iff_ne] at e1 e2
        first
          | (obtain ⟨n1, n2⟩ := hn3 e1 e2; clear hn3 hnear; have f1 : (dY k == 1700) = false := beq_eq_false_iff_ne.2 e1; have f2 : (dY k == 2250) = false := beq_eq_false_iff_ne.2 e2)
          | (clear hn3 hnear; have f1 : (dY k == 1700) = true := beq_iff_eq.2 e1)
          | (clear hn3 hnear; have f1 : (dY k == 1700) = false := beq_eq_false_iff_ne.2 e1; have f2 : (dY k == 2250) = true := beq_iff_eq.2 e2)
        clear e1 e2
        go_wp2_with (first | (go_at_call 11; refine (date_any' _ _ HTX.out k0 k1).mono ?_; rintro e w2 ⟨rfl, hb1⟩; replace hb := Below.trans hb (hb1.mono hb.size); clear hb1; obtain ⟨hc, hf⟩ := bcell hb) | (go_at_call 10; refine (nanos_any _ _ _ _ _ _ _ _ _ ((HT1.out.below hb).alloc _)).mono ?_; rintro e w3 ⟨rfl, hb3⟩; obtain ⟨hc3, hf3⟩ := bcell hb3) | (go_at_call 12; refine (right_any _ _ _ _ _ _ _ _ _ (((HT1.out.below hb).alloc _).below hb3)).mono ?_; rw [hr]; rintro e w4 ⟨rfl, hb4⟩; replace hb3 := Below.trans hb3 (hb4.mono hb3.size); clear hb4; obtain ⟨hc3, hf3⟩ := bcell hb3))
        go_ret
        exact ⟨rfl, into hb3 ((into hb ((Below.refl _ _).alloc (Nat.le_refl _) _) (by simp)).alloc (by have := hb.size; simp at this ⊢; omega) _) (by have := hb.size; simp at this ⊢; omega)⟩
end Go.Proofs.YtlnnnbbpilcgkaaDoorRRR
