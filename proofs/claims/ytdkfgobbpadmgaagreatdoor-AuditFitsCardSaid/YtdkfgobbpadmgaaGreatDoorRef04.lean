/- What each call of the reference of chapter 4 returns, for every argument: the same plain functions that package cal is held against. -/
import Derived.Test.YtdkfgobbpadmgaaGreatDoorCalDate
set_option linter.unusedVariables false
set_option linter.unusedSimpArgs false
namespace Go.Proofs.YtdkfgobbpadmgaaGreatDoor
open Go.RowKit
theorem tmod_zero (y k : Int) : (y.tmod k == 0) = decide (k ∣ y) := by
  rw [Bool.eq_iff_iff, beq_iff_eq, decide_eq_true_eq]
  exact ⟨Int.dvd_of_tmod_eq_zero, Int.tmod_eq_zero_of_dvd⟩
theorem leap_400 (y : Int) (h : (y.tmod 400 == 0) = true) : leapB y = true := by
  rw [tmod_zero, decide_eq_true_eq] at h
  have h4 : (y.tmod 4 == 0) = true := by rw [tmod_zero, decide_eq_true_eq]; omega
  have h0 : (y.tmod 400 == 0) = true := by rw [tmod_zero, decide_eq_true_eq]; exact h
  simp [leapB, h4, h0]
set_option maxHeartbeats 400000 in
theorem rleap_any (y : Int) (w : World) : Calls Tryz.prog 92 #[.int .i64 y] w fun e w' => e = .returned (.bool (leapB y)) ∧ w = w' := by
  cases h400 : (y.tmod 400 == 0) with
  | true =>
    have hl := Lib.hid (leap_400 y h400)
    go_enter Tryz.func92, Tryz.ntmps92
    go_wp2
    go_ret
    exact ⟨ret_val (congrArg Value.bool hl.out.symm), rfl⟩
  | false =>
  cases h4 : (y.tmod 4 == 0) with
  | false =>
    have hl := Lib.hid (show leapB y = false by simp [leapB, h4])
    go_enter Tryz.func92, Tryz.ntmps92
    go_wp2
    go_ret
    exact ⟨ret_val (congrArg Value.bool hl.out.symm), rfl⟩
  | true =>
  cases h1 : (y.tmod 100 == 0)
  all_goals
    have h1' : (y.tmod 100 != 0) = !(y.tmod 100 == 0) := rfl
    rw [h1] at h1'
    have hl := Lib.hid (show leapB y = !(y.tmod 100 == 0) by simp [leapB, h4, h400])
    rw [h1] at hl
    simp only [Bool.not_true, Bool.not_false] at h1' hl
    go_enter Tryz.func92, Tryz.ntmps92
    go_wp2
    go_ret
    exact ⟨ret_val (congrArg Value.bool hl.out.symm), rfl⟩
set_option maxHeartbeats 1000000 in
theorem rlen_any (y m : Int) (w : World) : Calls Tryz.prog 79 #[.int .i64 y, .int .i64 m] w fun e w' => e = .returned (.int .i64 (lenI y m)) ∧ w = w' := by
  by_cases h2 : m = 2
  · subst h2
    cases hl : leapB y
    · have hv := Lib.hid (show lenI y 2 = 28 by simp [lenI, hl, tab])
      go_enter Tryz.func79, Tryz.ntmps79
      go_wp2_with (go_at_call 92; refine (rleap_any _ _).mono ?_; rintro e w' ⟨rfl, rfl⟩)
      go_ret
      exact ⟨ret_val (congrArg (Value.int .i64) hv.out.symm), rfl⟩
    · have hv := Lib.hid (show lenI y 2 = 29 by simp [lenI, hl])
      go_enter Tryz.func79, Tryz.ntmps79
      go_wp2_with (go_at_call 92; refine (rleap_any _ _).mono ?_; rintro e w' ⟨rfl, rfl⟩)
      go_ret
      exact ⟨ret_val (congrArg (Value.int .i64) hv.out.symm), rfl⟩
  by_cases hm : 1 ≤ m ∧ m ≤ 12
  · have hc : m = 1 ∨ m = 3 ∨ m = 4 ∨ m = 5 ∨ m = 6 ∨ m = 7 ∨ m = 8 ∨ m = 9 ∨ m = 10 ∨ m = 11 ∨ m = 12 := by omega
    clear hm h2
    rcases hc with rfl | rfl | rfl | rfl | rfl | rfl | rfl | rfl | rfl | rfl | rfl
    all_goals
      go_enter Tryz.func79, Tryz.ntmps79
      go_wp2
      go_ret
      exact ⟨ret_val (by simp [lenI, tab]), rfl⟩
  · have hv := Lib.hid (show lenI y m = 0 by rw [lenI, if_pos (by omega)])
    have e2 : (m == 2) = false := beq_eq_false_iff_ne.2 h2
    have e4 : (m == 4) = false := beq_eq_false_iff_ne.2 (by omega)
    have e6 : (m == 6) = false := beq_eq_false_iff_ne.2 (by omega)
    have e9 : (m == 9) = false := beq_eq_false_iff_ne.2 (by omega)
    have e11 : (m == 11) = false := beq_eq_false_iff_ne.2 (by omega)
    by_cases h1 : 1 ≤ m
    · have h12 : decide (m ≤ 12) = false := decide_eq_false (by omega)
      clear hm
      go_enter Tryz.func79, Tryz.ntmps79
      go_wp2
      go_ret
      exact ⟨ret_val (congrArg (Value.int .i64) hv.out.symm), rfl⟩
    · have h1' : decide (1 ≤ m) = false := decide_eq_false h1
      clear hm
      go_enter Tryz.func79, Tryz.ntmps79
      go_wp2
      go_ret
      exact ⟨ret_val (congrArg (Value.int .i64) hv.out.symm), rfl⟩
set_option maxHeartbeats 1000000 in
theorem rday_any (y m d : Int) (w : World) : Calls Tryz.prog 78 #[.int .i64 y, .int .i64 m, .int .i64 d] w fun e w' => e = .returned (.bool (dayB y m d)) ∧ w = w' := by
  by_cases a1 : 1700 ≤ y
  rotate_left
  · have a1' : decide (1700 ≤ y) = false := decide_eq_false a1
    have hv : dayB y m d = false := by
      simp [dayB, inB, a1]
    have HV := Lib.hid hv; clear hv
    go_enter Tryz.func78, Tryz.ntmps78
    go_wp2
    go_ret
    exact ⟨ret_val (congrArg Value.bool HV.out.symm), rfl⟩
  by_cases a2 : y ≤ 2250
  rotate_left
  · have a2' : decide (y ≤ 2250) = false := decide_eq_false a2
    have hv : dayB y m d = false := by
      simp [dayB, inB, a2]
    have HV := Lib.hid hv; clear hv
    go_enter Tryz.func78, Tryz.ntmps78
    go_wp2
    go_ret
    exact ⟨ret_val (congrArg Value.bool HV.out.symm), rfl⟩
  by_cases a3 : 1 ≤ m
  rotate_left
  · have a3' : decide (1 ≤ m) = false := decide_eq_false a3
    have hv : dayB y m d = false := by
      have : lenI y m = 0 := by rw [lenI, if_pos (by omega)]
      simp only [dayB, inB, this]; simp; intros; omega
    have HV := Lib.hid hv; clear hv
    go_enter Tryz.func78, Tryz.ntmps78
    go_wp2
    go_ret
    exact ⟨ret_val (congrArg Value.bool HV.out.symm), rfl⟩
  by_cases a4 : m ≤ 12
  rotate_left
  · have a4' : decide (m ≤ 12) = false := decide_eq_false a4
    have hv : dayB y m d = false := by
      have : lenI y m = 0 := by rw [lenI, if_pos (by omega)]
      simp only [dayB, inB, this]; simp; intros; omega
    have HV := Lib.hid hv; clear hv
    go_enter Tryz.func78, Tryz.ntmps78
    go_wp2
    go_ret
    exact ⟨ret_val (congrArg Value.bool HV.out.symm), rfl⟩
  by_cases a5 : 1 ≤ d
  rotate_left
  · have a5' : decide (1 ≤ d) = false := decide_eq_false a5
    have hv : dayB y m d = false := by
      simp [dayB, inB, a5]
    have HV := Lib.hid hv; clear hv
    go_enter Tryz.func78, Tryz.ntmps78
    go_wp2
    go_ret
    exact ⟨ret_val (congrArg Value.bool HV.out.symm), rfl⟩
  have hv : dayB y m d = decide (d ≤ lenI y m) := by simp [dayB, inB, a1, a2, a5]
  have HV := Lib.hid hv; clear hv
  go_enter Tryz.func78, Tryz.ntmps78
  go_wp2_with (go_at_call 79; refine (rlen_any _ _ _).mono ?_; rintro e w' ⟨rfl, rfl⟩)
  go_ret
  exact ⟨ret_val (congrArg Value.bool HV.out.symm), rfl⟩
set_option maxHeartbeats 2000000 in
theorem rright_any (y m d hh mi ss n z : Int) (w : World) :
    Calls Tryz.prog 54 #[.agg #[.int .i64 y, .int .i64 m, .int .i64 d, .int .i64 hh, .int .i64 mi, .int .i64 ss, .int .i64 n, .int .i64 z]] w fun e w' => e = .returned (.bool (rightB y m d hh mi ss n z)) ∧ Below w.heap.size w w' := by
  cases b0 : (!dayB y m d) with
  | true =>
    have b0' : dayB y m d = false := by simpa using b0
    have hv : rightB y m d hh mi ss n z = false := by
      simp only [rightB, inB]
      simp [b0']
    have HV := Lib.hid hv; clear hv
    go_enter Tryz.func54, Tryz.ntmps54
    go_wp2_with (go_at_call 78; refine (rday_any _ _ _ _).mono ?_; rintro e w' ⟨rfl, rfl⟩)
    go_ret
    exact ⟨ret_val (congrArg Value.bool HV.out.symm), (Below.refl _ _).alloc (Nat.le_refl _) _⟩
  | false =>
  by_cases b1 : hh < 0
  · have b0' : dayB y m d = true := by simpa using b0
    have hq : (decide (0 ≤ hh) && decide (hh ≤ 23)) = false := by simp; omega
    have hv : rightB y m d hh mi ss n z = false := by
      simp only [rightB, inB]
      rw [hq]; simp
    have HV := Lib.hid hv; clear hv
    go_enter Tryz.func54, Tryz.ntmps54
    go_wp2_with (go_at_call 78; refine (rday_any _ _ _ _).mono ?_; rintro e w' ⟨rfl, rfl⟩)
    go_ret
    exact ⟨ret_val (congrArg Value.bool HV.out.symm), (Below.refl _ _).alloc (Nat.le_refl _) _⟩
  have b1' : decide (hh < 0) = false := decide_eq_false b1
  by_cases b2 : 23 < hh
  · have b0' : dayB y m d = true := by simpa using b0
    have hq : (decide (0 ≤ hh) && decide (hh ≤ 23)) = false := by simp; omega
    have hv : rightB y m d hh mi ss n z = false := by
      simp only [rightB, inB]
      rw [hq]; simp
    have HV := Lib.hid hv; clear hv
    go_enter Tryz.func54, Tryz.ntmps54
    go_wp2_with (go_at_call 78; refine (rday_any _ _ _ _).mono ?_; rintro e w' ⟨rfl, rfl⟩)
    go_ret
    exact ⟨ret_val (congrArg Value.bool HV.out.symm), (Below.refl _ _).alloc (Nat.le_refl _) _⟩
  have b2' : decide (23 < hh) = false := decide_eq_false b2
  by_cases b3 : mi < 0
  · have b0' : dayB y m d = true := by simpa using b0
    have hq : (decide (0 ≤ mi) && decide (mi ≤ 59)) = false := by simp; omega
    have hv : rightB y m d hh mi ss n z = false := by
      simp only [rightB, inB]
      rw [hq]; simp
    have HV := Lib.hid hv; clear hv
    go_enter Tryz.func54, Tryz.ntmps54
    go_wp2_with (go_at_call 78; refine (rday_any _ _ _ _).mono ?_; rintro e w' ⟨rfl, rfl⟩)
    go_ret
    exact ⟨ret_val (congrArg Value.bool HV.out.symm), (Below.refl _ _).alloc (Nat.le_refl _) _⟩
  have b3' : decide (mi < 0) = false := decide_eq_false b3
  by_cases b4 : 59 < mi
  · have b0' : dayB y m d = true := by simpa using b0
    have hq : (decide (0 ≤ mi) && decide (mi ≤ 59)) = false := by simp; omega
    have hv : rightB y m d hh mi ss n z = false := by
      simp only [rightB, inB]
      rw [hq]; simp
    have HV := Lib.hid hv; clear hv
    go_enter Tryz.func54, Tryz.ntmps54
    go_wp2_with (go_at_call 78; refine (rday_any _ _ _ _).mono ?_; rintro e w' ⟨rfl, rfl⟩)
    go_ret
    exact ⟨ret_val (congrArg Value.bool HV.out.symm), (Below.refl _ _).alloc (Nat.le_refl _) _⟩
  have b4' : decide (59 < mi) = false := decide_eq_false b4
  by_cases b5 : ss < 0
  · have b0' : dayB y m d = true := by simpa using b0
    have hq : (decide (0 ≤ ss) && decide (ss ≤ 59)) = false := by simp; omega
    have hv : rightB y m d hh mi ss n z = false := by
      simp only [rightB, inB]
      rw [hq]; simp
    have HV := Lib.hid hv; clear hv
    go_enter Tryz.func54, Tryz.ntmps54
    go_wp2_with (go_at_call 78; refine (rday_any _ _ _ _).mono ?_; rintro e w' ⟨rfl, rfl⟩)
    go_ret
    exact ⟨ret_val (congrArg Value.bool HV.out.symm), (Below.refl _ _).alloc (Nat.le_refl _) _⟩
  have b5' : decide (ss < 0) = false := decide_eq_false b5
  by_cases b6 : 59 < ss
  · have b0' : dayB y m d = true := by simpa using b0
    have hq : (decide (0 ≤ ss) && decide (ss ≤ 59)) = false := by simp; omega
    have hv : rightB y m d hh mi ss n z = false := by
      simp only [rightB, inB]
      rw [hq]; simp
    have HV := Lib.hid hv; clear hv
    go_enter Tryz.func54, Tryz.ntmps54
    go_wp2_with (go_at_call 78; refine (rday_any _ _ _ _).mono ?_; rintro e w' ⟨rfl, rfl⟩)
    go_ret
    exact ⟨ret_val (congrArg Value.bool HV.out.symm), (Below.refl _ _).alloc (Nat.le_refl _) _⟩
  have b6' : decide (59 < ss) = false := decide_eq_false b6
  have b0' : dayB y m d = true := by simpa using b0
  have q1 : (decide (0 ≤ hh) && decide (hh ≤ 23)) = true := by simp; omega
  have q2 : (decide (0 ≤ mi) && decide (mi ≤ 59)) = true := by simp; omega
  have q3 : (decide (0 ≤ ss) && decide (ss ≤ 59)) = true := by simp; omega
  have Q1 := Lib.hid q1; have Q2 := Lib.hid q2; have Q3 := Lib.hid q3; clear q1 q2 q3
  by_cases c1 : 0 ≤ n
  rotate_left
  · have c1' : decide (0 ≤ n) = false := decide_eq_false c1
    have hv : rightB y m d hh mi ss n z = false := by
      simp only [rightB, inB]
      rw [Q1.out, Q2.out, Q3.out, b0']; simp [c1]
    have HV := Lib.hid hv; clear hv
    go_enter Tryz.func54, Tryz.ntmps54
    go_wp2_with (go_at_call 78; refine (rday_any _ _ _ _).mono ?_; rintro e w' ⟨rfl, rfl⟩)
    go_ret
    exact ⟨ret_val (congrArg Value.bool HV.out.symm), (Below.refl _ _).alloc (Nat.le_refl _) _⟩
  by_cases c2 : n ≤ 999999999
  rotate_left
  · have c2' : decide (n ≤ 999999999) = false := decide_eq_false c2
    have hv : rightB y m d hh mi ss n z = false := by
      simp only [rightB, inB]
      rw [Q1.out, Q2.out, Q3.out, b0']; simp [c2]
    have HV := Lib.hid hv; clear hv
    go_enter Tryz.func54, Tryz.ntmps54
    go_wp2_with (go_at_call 78; refine (rday_any _ _ _ _).mono ?_; rintro e w' ⟨rfl, rfl⟩)
    go_ret
    exact ⟨ret_val (congrArg Value.bool HV.out.symm), (Below.refl _ _).alloc (Nat.le_refl _) _⟩
  cases c3 : (n % 1000 == 0) with
  | false =>
    have hv : rightB y m d hh mi ss n z = false := by
      simp only [rightB, inB]
      rw [Q1.out, Q2.out, Q3.out, b0', Int.tmod_eq_emod_of_nonneg c1, c3]; simp
    have HV := Lib.hid hv; clear hv
    go_enter Tryz.func54, Tryz.ntmps54
    go_wp2_with (go_at_call 78; refine (rday_any _ _ _ _).mono ?_; rintro e w' ⟨rfl, rfl⟩)
    go_ret
    exact ⟨ret_val (congrArg Value.bool HV.out.symm), (Below.refl _ _).alloc (Nat.le_refl _) _⟩
  | true =>
  by_cases c4 : -1439 ≤ z
  rotate_left
  · have c4' : decide (-1439 ≤ z) = false := decide_eq_false c4
    have hv : rightB y m d hh mi ss n z = false := by
      simp only [rightB, inB]
      rw [Q1.out, Q2.out, Q3.out, b0', Int.tmod_eq_emod_of_nonneg c1, c3]; simp [c4]
    have HV := Lib.hid hv; clear hv
    go_enter Tryz.func54, Tryz.ntmps54
    go_wp2_with (go_at_call 78; refine (rday_any _ _ _ _).mono ?_; rintro e w' ⟨rfl, rfl⟩)
    go_ret
    exact ⟨ret_val (congrArg Value.bool HV.out.symm), (Below.refl _ _).alloc (Nat.le_refl _) _⟩
  have hv : rightB y m d hh mi ss n z = decide (z ≤ 1439) := by
    simp only [rightB, inB]
    rw [Q1.out, Q2.out, Q3.out, b0', Int.tmod_eq_emod_of_nonneg c1, c3]; simp [c1, c2, c4]
  have HV := Lib.hid hv; clear hv
  go_enter Tryz.func54, Tryz.ntmps54
  go_wp2_with (go_at_call 78; refine (rday_any _ _ _ _).mono ?_; rintro e w' ⟨rfl, rfl⟩)
  go_ret
  exact ⟨ret_val (congrArg Value.bool HV.out.symm), (Below.refl _ _).alloc (Nat.le_refl _) _⟩
def daysN (y m d : Int) : Int := if dayB y m d = true then daysI y m d else 0
def daysE (y m d : Int) : Int := if dayB y m d = true then 0 else 1
theorem days_any (y m d : Int) (w : World) (ht : Tab w) :
    Calls Tryz.prog 40 #[.int .i64 y, .int .i64 m, .int .i64 d] w fun e w' => e = .returned (.tuple #[.int .i64 (daysN y m d), .int .i64 (daysE y m d)]) ∧ w = w' := by
  cases h : dayB y m d
  · have e1 : daysN y m d = 0 := by simp [daysN, h]
    have e2 : daysE y m d = 1 := by simp [daysE, h]
    rw [e1, e2]
    exact days_no _ _ _ w ht h
  · have e1 : daysN y m d = daysI y m d := by simp [daysN, h]
    have e2 : daysE y m d = 0 := by simp [daysE, h]
    rw [e1, e2]
    exact days_yes _ _ _ w ht h
theorem len_feb (y : Int) : lenI y 2 = 28 + lpI y := by
  unfold lenI lpI
  cases leapB y <;> simp [tab]
set_option maxHeartbeats 400000 in
theorem rdays_no (y m d : Int) (w : World) (h : dayB y m d = false) :
    Calls Tryz.prog 55 #[.int .i64 y, .int .i64 m, .int .i64 d] w fun e w' => e = .returned (.tuple #[.int .i64 0, .int .i64 1]) ∧ w = w' := by
  go_enter Tryz.func55, Tryz.ntmps55
  go_wp2_with (go_at_call 78; refine (rday_any _ _ _ _).mono ?_; rintro e w' ⟨rfl, rfl⟩)
  go_ret2
  exact ⟨rfl, rfl⟩
set_option maxHeartbeats 2000000 in
theorem rdays_yes (y m d : Int) (w : World) (h : dayB y m d = true) :
    Calls Tryz.prog 55 #[.int .i64 y, .int .i64 m, .int .i64 d] w fun e w' => e = .returned (.tuple #[.int .i64 (daysI y m d), .int .i64 0]) ∧ w = w' := by
  obtain ⟨y0, y1, m0, m1, d0, d1, _⟩ := day_parts h
  have H := Lib.hid h; clear h
  have hk0 := cum_bd y (m - 1).toNat
  have hC : 0 ≤ d - 1 + cumN y (m - 1).toNat ∧ d - 1 + cumN y (m - 1).toNat ≤ 400 := by omega
  have hD : daysI y m d = (d - 1 + cumN y (m - 1).toNat) + (yearsI y - yearsI 1970) := by simp only [daysI]; omega
  have HD := Lib.hid hD; clear hD
  have b1970 := Lib.hid years_1970
  have bM : ∀ x : Int, 1700 ≤ x → x ≤ 2250 → -98615 ≤ yearsI x - yearsI 1970 ∧ yearsI x - yearsI 1970 ≤ 102268 := by
    intro x h1 h2
    have a1 := years_mono (a := 1700) (b := x) (by omega) h1
    have a2 := years_mono (a := x) (b := 2250) (by omega) h2
    have e1 : yearsI 1700 - yearsI 1970 = -98615 := by decide
    have e2 : yearsI 2250 - yearsI 1970 = 102268 := by decide
    omega
  have BM := Lib.hid bM; clear bM
  go_enter Tryz.func55, Tryz.ntmps55
  go_wp2_with (go_at_call 78; refine (rday_any _ _ _ _).mono ?_; rw [H.out]; rintro e w' ⟨rfl, rfl⟩)
  go_loopg [9, 10] (m - 1).toNat (fun g s i wr => ∃ k : Nat, (k : Int) + 1 ≤ m ∧ g = (m - 1).toNat - k ∧ i = .int .i64 (k + 1) ∧ s = .int .i64 (d - 1 + cumN y k) ∧ w = wr)
  case atStart => exact ⟨0, by omega, by omega, rfl, by simp [cumN], rfl⟩
  case round =>
    obtain ⟨k, hk, hg, rfl, rfl, rfl⟩ := hrel
    have HG := Lib.hid hg; clear hg
    have b3 := cum_bd y k
    have b4 := len_bd y (k + 1)
    by_cases hlt : (k : Int) + 1 < m
    · go_wp2_with (go_at_call 79; refine (rlen_any _ _ _).mono ?_; rintro e w' ⟨rfl, rfl⟩)
      go_roundg ((m - 1).toNat - (k + 1))
      case measure => rw [HG.out]; omega
      case rel => exact ⟨k + 1, by omega, rfl, by go_num, by simp only [cumN]; go_num, rfl⟩
    · have hlt' : decide ((k : Int) + 1 < m) = false := decide_eq_false hlt
      obtain rfl : k = (m - 1).toNat := by omega
      clear b3 b4 HG hk hk0
      generalize hCC : d - 1 + cumN y (m - 1).toNat = C at *
      have HCC := Lib.hid hCC; clear hCC
      obtain ⟨c0, c1⟩ := hC
      go_wp2
      go_loopg [9, 11] (y - 1970).toNat (fun g s i wr => ∃ x : Int, 1970 ≤ x ∧ (x ≤ y ∨ x = 1970) ∧ g = (y - x).toNat ∧ i = .int .i64 x ∧ s = .int .i64 (C + (yearsI x - yearsI 1970)) ∧ w = wr)
      case atStart => exact ⟨1970, by omega, .inr rfl, rfl, rfl, by simp, rfl⟩
      case round =>
        obtain ⟨x, hx, hx2, hg, rfl, rfl, rfl⟩ := hrel
        have HG := Lib.hid hg; clear hg
        have hx3 : x ≤ 2250 := by omega
        obtain ⟨bx1, bx2⟩ := BM.out x (by omega) hx3
        have hf := Lib.hid (len_feb x)
        have hl := lp_01 x
        have hs := Lib.hid (years_succ x (by omega))
        by_cases hlt : x < y
        · have hb := len_bd x 2
          go_wp2_with (go_at_call 79; refine (rlen_any _ _ _).mono ?_; rintro e w' ⟨rfl, rfl⟩)
          go_roundg (y - (x + 1)).toNat
          case measure => rw [HG.out]; omega
          case rel => exact ⟨x + 1, by omega, .inl (by omega), rfl, rfl, congrArg (Value.int .i64) (by rw [hs.out, hf.out]; omega), rfl⟩
        · have hlt' : decide (x < y) = false := decide_eq_false hlt
          clear hf hl hs
          go_wp2
          go_loopg [9, 12] (1970 - y).toNat (fun g s i wr => ∃ z : Int, y ≤ z ∧ (z ≤ 1970 ∨ z = y) ∧ g = (1970 - z).toNat ∧ i = .int .i64 z ∧ s = .int .i64 (C + (yearsI x - yearsI 1970) - (yearsI z - yearsI y)) ∧ w = wr)
          case atStart => exact ⟨y, by omega, .inr rfl, rfl, rfl, by simp, rfl⟩
          case round =>
            obtain ⟨z, hz, hz2, hg, rfl, rfl, rfl⟩ := hrel
            have HGz := Lib.hid hg; clear hg
            obtain ⟨bz1, bz2⟩ := BM.out z (by omega) (by omega)
            obtain ⟨by1, by2⟩ := BM.out y (by omega) (by omega)
            have hf := Lib.hid (len_feb z)
            have hl := lp_01 z
            have hs := Lib.hid (years_succ z (by omega))
            by_cases hlt2 : z < 1970
            · have hb := len_bd z 2
              go_wp2_with (go_at_call 79; refine (rlen_any _ _ _).mono ?_; rintro e w' ⟨rfl, rfl⟩)
              go_roundg (1970 - (z + 1)).toNat
              case measure => rw [HGz.out]; omega
              case rel => exact ⟨z + 1, by omega, .inl (by omega), rfl, rfl, congrArg (Value.int .i64) (by rw [hs.out, hf.out]; omega), rfl⟩
            · have hlt2' : decide (z < 1970) = false := decide_eq_false hlt2
              have hxz : x = z := by omega
              have HXZ := Lib.hid hxz; clear hxz
              go_wp2
              go_ret2
              exact ⟨ret_pair (by rw [HD.out, HXZ.out]; omega) rfl, rfl⟩
theorem rdays_any (y m d : Int) (w : World) :
    Calls Tryz.prog 55 #[.int .i64 y, .int .i64 m, .int .i64 d] w fun e w' => e = .returned (.tuple #[.int .i64 (daysN y m d), .int .i64 (daysE y m d)]) ∧ w = w' := by
  cases h : dayB y m d
  · have e1 : daysN y m d = 0 := by simp [daysN, h]
    have e2 : daysE y m d = 1 := by simp [daysE, h]
    rw [e1, e2]
    exact rdays_no _ _ _ w h
  · have e1 : daysN y m d = daysI y m d := by simp [daysN, h]
    have e2 : daysE y m d = 0 := by simp [daysE, h]
    rw [e1, e2]
    exact rdays_yes _ _ _ w h
set_option maxHeartbeats 1000000 in
theorem rnanos_any (y m d hh mi ss n z : Int) (w : World) :
    Calls Tryz.prog 25 #[.agg #[.int .i64 y, .int .i64 m, .int .i64 d, .int .i64 hh, .int .i64 mi, .int .i64 ss, .int .i64 n, .int .i64 z]] w fun e w' => e = .returned (.tuple #[.int .i64 (nanosN y m d hh mi ss n z), .int .i64 (nanosE y m d hh mi ss n z)]) ∧ Below w.heap.size w w' := by
  cases h : rightB y m d hh mi ss n z with
  | false =>
    have e1 : nanosN y m d hh mi ss n z = 0 := by simp [nanosN, h]
    have e2 : nanosE y m d hh mi ss n z = 1 := by simp [nanosE, h]
    have E1 := Lib.hid e1; have E2 := Lib.hid e2; clear e1 e2
    go_enter Tryz.func25, Tryz.ntmps25
    go_wp2_with (go_at_call 54; refine (rright_any _ _ _ _ _ _ _ _ _).mono ?_; rintro e w1 ⟨rfl, hb⟩)
    go_ret2
    exact ⟨ret_pair E1.out.symm E2.out.symm, ((Below.refl _ _).alloc (Nat.le_refl _) _).trans (hb.mono (by simp))⟩
  | true =>
    obtain ⟨hd, a1, a2, a3, a4, a5, a6, a7, a8, hn, a9, a10⟩ := right_parts h
    have e1 : nanosN y m d hh mi ss n z = (daysI y m d * 86400 + hh * 3600 + mi * 60 + ss - z * 60) * 1000000000 + n := by simp only [nanosN, h, if_true]; unfold nanosI; omega
    have e2 : nanosE y m d hh mi ss n z = 0 := by simp [nanosE, h]
    have E1 := Lib.hid e1; have E2 := Lib.hid e2; have HN := Lib.hid hn; clear e1 e2 hn
    obtain ⟨b1, b2⟩ := days_bd hd
    go_enter Tryz.func25, Tryz.ntmps25
    go_wp2_with (first | (go_at_call 54; refine (rright_any _ _ _ _ _ _ _ _ _).mono ?_; rintro e w1 ⟨rfl, hb⟩; obtain ⟨hc, hf⟩ := bcell hb) | (go_at_call 55; refine (rdays_yes _ _ _ _ hd).mono ?_; rintro e w' ⟨rfl, rfl⟩))
    go_ret2
    exact ⟨ret_pair E1.out.symm E2.out.symm, ((Below.refl _ _).alloc (Nat.le_refl _) _).trans (hb.mono (by simp))⟩
/-- nanoseconds, within the years that there are, from 1700 on -/
def loI : Int := -8520336000000000000
def hiI : Int := 8867491199999999000
def clampI (n : Int) : Int := if n < loI then loI else if hiI < n then hiI else n
def leftI (n : Int) : Int := clampI n - loI
theorem left_bd (n : Int) : 0 ≤ leftI n ∧ leftI n ≤ 17387827199999999000 := by
  unfold leftI clampI loI hiI
  split
  · omega
  · split <;> omega
theorem left_split (n : Int) : leftI n / 86400000000000 = ddI n + 98615 ∧ leftI n % 86400000000000 / 1000 = rsI n / 1000 := by
  unfold leftI clampI loI hiI ddI rsI
  split
  · rename_i h
    have h1 : n / 86400000000000 < -98615 := by omega
    rw [if_pos h1, if_pos h1]
    omega
  · rename_i h
    have h1 : ¬ n / 86400000000000 < -98615 := by omega
    rw [if_neg h1, if_neg h1]
    split
    · rename_i h2
      by_cases h3 : 102632 < n / 86400000000000
      · rw [if_pos h3, if_pos h3]; omega
      · rw [if_neg h3, if_neg h3]; omega
    · rename_i h2
      have h3 : ¬ 102632 < n / 86400000000000 := by omega
      rw [if_neg h3, if_neg h3]
      omega
set_option maxHeartbeats 4000000 in
set_option maxRecDepth 100000 in
theorem rdate_any (n : Int) (w : World) (a0 : -9223372036854775808 ≤ n) (a1 : n ≤ 9223372036854775807) :
    Calls Tryz.prog 57 #[.int .i64 n] w fun e w' => e = .returned (dateV n) ∧ Below w.heap.size w w' := by
  have HL := Lib.hid (show nanosN 1700 1 1 0 0 0 0 0 = -8520336000000000000 by decide)
  have HH := Lib.hid (show nanosN 2250 12 31 23 59 59 999999000 0 = 8867491199999999000 by decide)
  go_enter Tryz.func57, Tryz.ntmps57
  go_upto_if 22 with (first | (go_at_call 25; refine (rnanos_any _ _ _ _ _ _ _ _ _).mono ?_; (first | rw [HL.out] | rw [HH.out]); rintro e w1 ⟨rfl, hb1⟩; (first | replace hb := Below.trans hb (hb1.mono hb.size) | have hb := hb1); clear hb1; obtain ⟨hc, hf⟩ := bcell hb))
  go_cut [0] (fun s0 wx => s0 = .int .i64 (if n < loI then loI else n) ∧ w1 = wx)
  case first =>
    by_cases h : n < -8520336000000000000
    · go_wp2_with fail
      go_meet
      exact ⟨by rw [if_pos (by unfold loI; omega)]; rfl, rfl⟩
    · have h' : decide (n < -8520336000000000000) = false := decide_eq_false h
      go_wp2_with fail
      go_meet
      exact ⟨by rw [if_neg (by unfold loI; omega)], rfl⟩
  case rest =>
  obtain ⟨rfl, rfl⟩ := hcut
  have hm : ∃ v, (if n < loI then loI else n) = v := ⟨_, rfl⟩
  obtain ⟨v, hv⟩ := hm
  rw [hv]
  have HV := Lib.hid hv; clear hv
  go_upto_if 26 with fail
  go_cut [0] (fun s0 wx => s0 = .int .i64 (clampI n) ∧ w1 = wx)
  case first =>
    have hc1 : clampI n = if hiI < v then hiI else v := by
      rw [← HV.out]; unfold clampI loI hiI
      split
      · rw [if_neg (by omega)]
      · rfl
    have HC := Lib.hid hc1; clear hc1
    by_cases h : 8867491199999999000 < v
    · go_wp2_with fail
      go_meet
      exact ⟨by rw [HC.out, if_pos (by unfold hiI; omega)]; rfl, rfl⟩
    · have h' : decide (8867491199999999000 < v) = false := decide_eq_false h
      go_wp2_with fail
      go_meet
      exact ⟨by rw [HC.out, if_neg (by unfold hiI; omega)], rfl⟩
  case rest =>
  obtain ⟨rfl, rfl⟩ := hcut
  clear HV v
  go_upto_region 8 with fail
  go_cut [7, 8] (fun s7 s8 wx => s7 = .int .u64 (leftI n) ∧ s8 = .int .u64 86400000000000 ∧ w1 = wx)
  case first =>
    have hq : IntKind.u64.wrap (wrap64 (clampI n + 8520336000000000000)) = leftI n := by
      have h1 := left_bd n
      have h2 : clampI n = leftI n - 8520336000000000000 := by unfold leftI loI; omega
      rw [h2]
      generalize leftI n = L at *
      simp only [IntKind.wrap, IntKind.signed, IntKind.bits, wrap64]
      simp
      omega
    have HQ := Lib.hid hq; clear hq
    go_wp2_with fail
    go_meet
    exact ⟨by rw [HQ.out], rfl, rfl⟩
  case rest =>
  obtain ⟨rfl, rfl, rfl⟩ := hcut
  have hlb := left_bd n
  have HLS := Lib.hid (left_split n)
  generalize leftI n = L at *
  obtain ⟨hl0, hl1⟩ := hlb
  have y17 := Lib.hid (show yearsI 1700 = 620912 by decide)
  have y22 := Lib.hid (show yearsI 2251 = 822160 by decide)
  have hz : w.heap.size < w1.heap.size := by
    have := hb.size
    simp at this
    omega
  obtain ⟨hc, hf⟩ := bcell hb
  have hc0 : ∀ o, w1.cell? ⟨w.heap.size, o, none⟩ = (w.alloc (.cells #[.int .i64 0, .int .i64 0, .int .i64 0, .int .i64 0, .int .i64 0, .int .i64 0, .int .i64 0, .int .i64 0] 46)).cell? ⟨w.heap.size, o, none⟩ := fun o => hc _ _ (by simp)
  have hf0 : ∀ o, w1.frozen? ⟨w.heap.size, o, none⟩ = (w.alloc (.cells #[.int .i64 0, .int .i64 0, .int .i64 0, .int .i64 0, .int .i64 0, .int .i64 0, .int .i64 0, .int .i64 0] 46)).frozen? ⟨w.heap.size, o, none⟩ := fun o => hf _ _ (by simp)
  clear hc hf
  go_wp2_with fail
  go_loopg [7] 551 (fun g s wr => ∃ y : Int, 1700 ≤ y ∧ y ≤ 2250 ∧ g = (2251 - y).toNat ∧ s = .int .u64 (L - (yearsI y - 620912) * 86400000000000) ∧ 0 ≤ L - (yearsI y - 620912) * 86400000000000 ∧ wr = (w1.alloc (.cells #[.int .i64 y, .int .i64 1, .int .i64 1, .int .i64 0, .int .i64 0, .int .i64 0, .int .i64 0, .int .i64 0] 46)))
  case atStart => exact ⟨1700, by omega, by omega, rfl, congrArg (Value.int .u64) (by rw [y17.out]; omega), by rw [y17.out]; omega, rfl⟩
  case round =>
    obtain ⟨y, hy1, hy2, hg, rfl, hl, rfl⟩ := hrel
    have HG := Lib.hid hg; clear hg
    have hf := Lib.hid (len_feb y)
    have hp := lp_01 y
    have hs := Lib.hid (years_succ y (by omega))
    have hlf : 28 ≤ lenI y 2 ∧ lenI y 2 ≤ 29 := by rw [hf.out]; omega
    obtain ⟨hlf1, hlf2⟩ := hlf
    generalize hLL : L - (yearsI y - 620912) * 86400000000000 = LL at *
    have HLL := Lib.hid hLL; clear hLL
    have hLLb : LL ≤ 17387827199999999000 := by
      have := HLL.out
      have := years_mono (a := 1700) (b := y) (by omega) hy1
      have := y17.out
      omega
    by_cases hlt : (337 + lenI y 2) * 86400000000000 ≤ LL
    · have hy3 : y + 1 ≤ 2250 := by
        rcases Int.lt_or_le y 2250 with h | h
        · omega
        · obtain rfl : y = 2250 := by omega
          have e1 := HLL.out
          have e2 := hs.out
          have e3 := hf.out
          have e4 : yearsI (2250 + 1) = 822160 := by decide
          omega
      go_wp2_with (go_at_call 79; refine (rlen_any _ _ _).mono ?_; rintro e w' ⟨rfl, rfl⟩)
      go_roundg (2251 - (y + 1)).toNat
      case measure => rw [HG.out]; omega
      case rel => exact ⟨y + 1, by omega, hy3, rfl, congrArg (Value.int .u64) (by rw [hs.out, ← HLL.out, hf.out]; omega), by rw [hs.out]; have := HLL.out; have := hf.out; omega, rfl⟩
    · have hlt' : decide ((337 + lenI y 2) * 86400000000000 ≤ LL) = false := decide_eq_false hlt
      go_wp2_with (go_at_call 79; refine (rlen_any _ _ _).mono ?_; rintro e w' ⟨rfl, rfl⟩)
      have hlim : LL < cumN y 12 * 86400000000000 := by rw [cum_12]; have := hf.out; omega
      have HLIM := Lib.hid hlim
      clear hlim hlt hlt' hlf1 hlf2 hp
      go_loopg [7] 12 (fun g s wr => ∃ m : Nat, m ≤ 11 ∧ g = 12 - m ∧ s = .int .u64 (LL - cumN y m * 86400000000000) ∧ 0 ≤ LL - cumN y m * 86400000000000 ∧ wr = (w1.alloc (.cells #[.int .i64 y, .int .i64 (m + 1), .int .i64 1, .int .i64 0, .int .i64 0, .int .i64 0, .int .i64 0, .int .i64 0] 46)))
      case atStart => exact ⟨0, by omega, rfl, congrArg (Value.int .u64) (by simp [cumN]), by simp [cumN]; omega, by simp⟩
      case round =>
        obtain ⟨m, hm, hg2, rfl, hl2, rfl⟩ := hrel
        have HG2 := Lib.hid hg2; clear hg2
        have hlm := len_bd y ((m : Int) + 1)
        have hlp := Lib.hid (len_pos y (m + 1) (by omega) (by omega))
        have hcm := cum_bd y m
        obtain ⟨hlm1, hlm2⟩ := hlm
        generalize hMM : LL - cumN y m * 86400000000000 = MM at *
        have HMM := Lib.hid hMM; clear hMM
        have hMMb : MM ≤ 17387827199999999000 := by have := HMM.out; omega
        by_cases hlt : lenI y ((m : Int) + 1) * 86400000000000 ≤ MM
        · have hm2 : m + 1 ≤ 11 := by
            rcases Nat.lt_or_ge m 11 with h | h
            · omega
            · obtain rfl : m = 11 := by omega
              have e1 := HMM.out
              have e2 := HLIM.out
              have e3 : cumN y 12 = cumN y 11 + lenI y (((11 : Nat) : Int) + 1) := rfl
              omega
          go_wp2_with (go_at_call 79; refine (rlen_any _ _ _).mono ?_; rintro e w' ⟨rfl, rfl⟩)
          go_roundg (12 - (m + 1))
          case measure => rw [HG2.out]; omega
          case rel => exact ⟨m + 1, hm2, rfl, congrArg (Value.int .u64) (by simp only [cumN]; have := HMM.out; omega), by simp only [cumN]; have := HMM.out; omega, by simp⟩
        · have hlt' : decide (lenI y ((m : Int) + 1) * 86400000000000 ≤ MM) = false := decide_eq_false hlt
          have hday : 1 ≤ lenI y ((m : Int) + 1) := by have := hlp.out; simp at this; omega
          have hD := Lib.hid (show ∀ k : Int, 0 ≤ k → k < lenI y ((m : Int) + 1) → dayB y (m + 1) (1 + k) = true from fun k k0 k1 => day_mk hy1 hy2 (by omega) (by omega))
          have hnot : MM < lenI y ((m : Int) + 1) * 86400000000000 := by omega
          have HN := Lib.hid hnot
          clear hnot hlt
          go_wp2_with (go_at_call 79; refine (rlen_any _ _ _).mono ?_; rintro e w' ⟨rfl, rfl⟩)
          go_loopg [7] 40 (fun g s wr => ∃ k : Nat, g = 40 - k ∧ (k : Int) < lenI y ((m : Int) + 1) ∧ s = .int .u64 (MM - k * 86400000000000) ∧ 0 ≤ MM - k * 86400000000000 ∧ wr = (w1.alloc (.cells #[.int .i64 y, .int .i64 (m + 1), .int .i64 (1 + (k : Int)), .int .i64 0, .int .i64 0, .int .i64 0, .int .i64 0, .int .i64 0] 46)))
          case atStart => exact ⟨0, rfl, by omega, congrArg (Value.int .u64) (by simp), by simp; omega, by simp⟩
          case round =>
            obtain ⟨k, hg3, hk, rfl, hl3, rfl⟩ := hrel
            have HG3 := Lib.hid hg3; clear hg3
            have hk40 : (k : Int) ≤ 31 := by omega
            generalize hKK : MM - (k : Int) * 86400000000000 = KK at *
            have HKK := Lib.hid hKK; clear hKK
            have hKKb : KK ≤ 17387827199999999000 := by have := HKK.out; omega
            by_cases hlt : (86400000000000 : Int) ≤ KK
            · have k1 := Lib.hid (show (((k + 1 : Nat) : Nat) : Int) < lenI y ((m : Int) + 1) by have := HKK.out; have := HN.out; omega)
              have k2 := Lib.hid (show KK - 86400000000000 = MM - ((k + 1 : Nat) : Int) * 86400000000000 by have := HKK.out; omega)
              have k3 := Lib.hid (show 0 ≤ MM - ((k + 1 : Nat) : Int) * 86400000000000 by have := HKK.out; omega)
              have k4 := Lib.hid (show (1 + (k : Int)) + 1 = 1 + ((k + 1 : Nat) : Int) by omega)
              go_wp2_with fail
              go_roundg (40 - (k + 1))
              case measure => rw [HG3.out]; omega
              case rel => exact ⟨k + 1, rfl, k1.out, congrArg (Value.int .u64) k2.out, k3.out, by rw [← k4.out]⟩
            · have hlt' : decide ((86400000000000 : Int) ≤ KK) = false := decide_eq_false hlt
              have hKK2 : KK < 86400000000000 := by omega
              have hd := hD.out (k : Int) (by omega) hk
              have he : daysI y (m + 1) (1 + (k : Int)) = ddI n := by
                have e1 := HLS.out.1
                have e2 := HKK.out
                have e3 := HMM.out
                have e4 := HLL.out
                simp only [daysI]
                rw [show (((m : Int) + 1 - 1).toNat) = m by omega, years_1970]
                omega
              have hr : KK / 1000 = rsI n / 1000 := by
                have e0 := HLS.out
                have e2 := HKK.out
                have e3 := HMM.out
                have e4 := HLL.out
                omega
              have hrb := rs_bd n
              have hV : dateV n = .agg #[.int .i64 y, .int .i64 (m + 1), .int .i64 (1 + (k : Int)), .int .i64 (KK / 3600000000000), .int .i64 (KK / 60000000000 % 60), .int .i64 (KK / 1000000000 % 60), .int .i64 (KK / 1000 % 1000000 * 1000), .int .i64 0] := by
                rw [dateV, civil_eq hd he]
                have q1 : rsI n / 1000000000 / 3600 = KK / 3600000000000 := by omega
                have q2 : rsI n / 1000000000 / 60 % 60 = KK / 60000000000 % 60 := by omega
                have q3 : rsI n / 1000000000 % 60 = KK / 1000000000 % 60 := by omega
                have q4 : rsI n % 1000000000 / 1000 * 1000 = KK / 1000 % 1000000 * 1000 := by omega
                rw [q1, q2, q3, q4]
              have HV := Lib.hid hV
              clear hV hrb hr he hd hlt
              go_wp2_with fail
              refine bodyPost_ret (v := .agg #[.int .i64 y, .int .i64 (m + 1), .int .i64 (1 + (k : Int)), .int .i64 (KK / 3600000000000), .int .i64 (KK / 60000000000 % 60), .int .i64 (KK / 1000000000 % 60), .int .i64 (KK / 1000 % 1000000 * 1000), .int .i64 0]) (by simp [results, Tryz.results57, go_sem, hc0, hz]) rfl ⟨ret_val HV.out.symm, ?_⟩
              refine Below.alloc ?_ (by simp [World.setCell]; omega) _
              repeat (refine Below.setCell ?_ (by simp) _)
              exact into hb ((Below.refl _ _).alloc (Nat.le_refl _) _) (by simp)
end Go.Proofs.YtdkfgobbpadmgaaGreatDoor
