/- The law CalRises, walked: it returns true for every year, month and day. -/
import Derived.Test.YtlnnnbbpilcgkaaDoorRRRCalShown
set_option linter.unusedVariables false
set_option linter.unusedSimpArgs false
namespace Go.Proofs.YtlnnnbbpilcgkaaDoorRRR
open Go.RowKit
theorem days_next_day {y m d : Int} (h : dayB y m d = true) (h' : d + 1 ≤ lenI y m) : dayB y m (d + 1) = true ∧ daysI y m (d + 1) = daysI y m d + 1 := by
  obtain ⟨a, b, c, e, f, g, i⟩ := day_parts h
  exact ⟨day_mk a b (by omega) h', by simp only [daysI]; omega⟩
theorem days_next_month {y m d : Int} (h : dayB y m d = true) (h' : lenI y m < d + 1) (hm : m < 12) : dayB y (m + 1) 1 = true ∧ daysI y (m + 1) 1 = daysI y m d + 1 := by
  obtain ⟨a, b, c, e, f, g, i⟩ := day_parts h
  have := len_pos y (m + 1).toNat (by omega) (by omega)
  have e1 : (((m + 1).toNat : Nat) : Int) = m + 1 := by omega
  rw [e1] at this
  refine ⟨day_mk a b (by omega) (by omega), ?_⟩
  have e2 : (m + 1 - 1).toNat = (m - 1).toNat + 1 := by omega
  have e3 : (((m - 1).toNat : Int) + 1) = m := by omega
  simp only [daysI, e2, cumN, e3]
  omega
theorem days_next_year {y m d : Int} (h : dayB y m d = true) (h' : lenI y m < d + 1) (hm : 12 ≤ m) (hy : y < 2250) : dayB (y + 1) 1 1 = true ∧ daysI (y + 1) 1 1 = daysI y m d + 1 := by
  obtain ⟨a, b, c, e, f, g, i⟩ := day_parts h
  obtain rfl : m = 12 := by omega
  have := len_pos (y + 1) 1 (by omega) (by omega)
  refine ⟨day_mk (by omega) (by omega) (by omega) (by simpa using (by omega : (1 : Int) ≤ lenI (y + 1) ((1 : Nat) : Int))), ?_⟩
  have e1 := cum_12 y
  have e2 := years_succ y (by omega)
  have e3 : cumN y 12 = cumN y 11 + lenI y 12 := rfl
  have e4 : ((12 : Int) - 1).toNat = 11 := rfl
  rw [days_first]
  simp only [daysI, e4]
  omega
theorem first_ok {y : Int} (a : 1700 ≤ y) (b : y ≤ 2250) : dayB y 1 1 = true := by
  have := len_pos y 1 (by omega) (by omega)
  exact day_mk a b (by omega) (by simpa using (by omega : (1 : Int) ≤ lenI y ((1 : Nat) : Int)))
set_option maxHeartbeats 1000000 in
theorem rises_any (y m d : Int) (w : World) (ht : Tab w) : Calls Tryd.prog 3 #[.int .i64 y, .int .i64 m, .int .i64 d] w fun e w' => e = .returned (.bool true) ∧ Below w.heap.size w w' := by
  have HT := Lib.hid ht; clear ht
  cases hd : dayB y m d
  · go_enter Tryd.func3, Tryd.ntmps3
    go_wp2_with (first | (go_at_call 6; refine (shown_true _ HT.out).mono ?_; rintro e w' ⟨rfl, rfl⟩) | (go_at_call 7; refine (days_no _ _ _ _ HT.out hd).mono ?_; rintro e w' ⟨rfl, rfl⟩))
    go_ret
    exact ⟨rfl, Below.refl _ _⟩
  obtain ⟨a, b, c, e, f, g, _⟩ := day_parts hd
  obtain ⟨b1, b2⟩ := days_bd hd
  by_cases hy : 2250 ≤ y
  · go_enter Tryd.func3, Tryd.ntmps3
    go_wp2_with (first | (go_at_call 6; refine (shown_true _ HT.out).mono ?_; rintro e w' ⟨rfl, rfl⟩) | (go_at_call 7; refine (days_yes _ _ _ _ HT.out hd).mono ?_; rintro e w' ⟨rfl, rfl⟩))
    go_ret
    exact ⟨rfl, Below.refl _ _⟩
  have hy' : y < 2250 := by omega
  have hf0 := first_ok a b
  have hf1 := first_ok (y := y + 1) (by omega) (by omega)
  obtain ⟨c1, c2⟩ := days_bd hf0
  obtain ⟨c3, c4⟩ := days_bd hf1
  have hs := years_succ y (by omega)
  have hdd : daysI (y + 1) 1 1 - daysI y 1 1 = if leapB y = true then 366 else 365 := by
    rw [days_first, days_first, hs]; unfold lpI; split <;> omega
  have HF0 := Lib.hid hf0; have HF1 := Lib.hid hf1; have HDD := Lib.hid hdd; have HD := Lib.hid hd
  clear hf0 hf1 hdd hd hs
  by_cases h1 : lenI y m < d + 1
  · by_cases h2 : 12 < m + 1
    · obtain ⟨n1, n2⟩ := days_next_year HD.out h1 (by omega) hy'
      have N1 := Lib.hid n1; have N2 := Lib.hid n2; clear n1 n2
      cases hl : leapB y
      all_goals
        have hdd := HDD.out
        rw [hl] at hdd; simp only [Bool.false_eq_true, if_false, if_true] at hdd
        have E := Lib.hid hdd; clear hdd
        have hx : (daysI (y + 1) 1 1 == daysI y m d + 1) = true := by rw [beq_iff_eq]; exact N2.out
        go_enter Tryd.func3, Tryd.ntmps3
        go_wp2_with (first | (go_at_call 6; refine (shown_true _ HT.out).mono ?_; rintro e w' ⟨rfl, rfl⟩) | (go_at_call 7; refine (days_yes _ _ _ _ HT.out (by first | exact HD.out | exact N1.out | exact HF0.out | exact HF1.out)).mono ?_; rintro e w' ⟨rfl, rfl⟩) | (go_at_call 8; refine (len_any _ _ _ HT.out).mono ?_; rintro e w' ⟨rfl, rfl⟩) | (go_at_call 9; refine (leap_any _ _).mono ?_; rintro e w' ⟨rfl, rfl⟩))
        go_ret
        exact ⟨ret_val (congrArg Value.bool (beq_iff_eq.2 E.out)), Below.refl _ _⟩
    · have h2' : m + 1 ≤ 12 := by omega
      obtain ⟨n1, n2⟩ := days_next_month HD.out h1 (by omega)
      have N1 := Lib.hid n1; have N2 := Lib.hid n2; clear n1 n2
      cases hl : leapB y
      all_goals
        have hdd := HDD.out
        rw [hl] at hdd; simp only [Bool.false_eq_true, if_false, if_true] at hdd
        have E := Lib.hid hdd; clear hdd
        have hx : (daysI y (m + 1) 1 == daysI y m d + 1) = true := by rw [beq_iff_eq]; exact N2.out
        go_enter Tryd.func3, Tryd.ntmps3
        go_wp2_with (first | (go_at_call 6; refine (shown_true _ HT.out).mono ?_; rintro e w' ⟨rfl, rfl⟩) | (go_at_call 7; refine (days_yes _ _ _ _ HT.out (by first | exact HD.out | exact N1.out | exact HF0.out | exact HF1.out)).mono ?_; rintro e w' ⟨rfl, rfl⟩) | (go_at_call 8; refine (len_any _ _ _ HT.out).mono ?_; rintro e w' ⟨rfl, rfl⟩) | (go_at_call 9; refine (leap_any _ _).mono ?_; rintro e w' ⟨rfl, rfl⟩))
        go_ret
        exact ⟨ret_val (congrArg Value.bool (beq_iff_eq.2 E.out)), Below.refl _ _⟩
  · have h1' : d + 1 ≤ lenI y m := by omega
    have h2' : m ≤ 12 := e
    obtain ⟨n1, n2⟩ := days_next_day HD.out h1'
    have N1 := Lib.hid n1; have N2 := Lib.hid n2; clear n1 n2
    cases hl : leapB y
    all_goals
      have hdd := HDD.out
      rw [hl] at hdd; simp only [Bool.false_eq_true, if_false, if_true] at hdd
      have E := Lib.hid hdd; clear hdd
      have hx : (daysI y m (d + 1) == daysI y m d + 1) = true := by rw [beq_iff_eq]; exact N2.out
      go_enter Tryd.func3, Tryd.ntmps3
      go_wp2_with (first | (go_at_call 6; refine (shown_true _ HT.out).mono ?_; rintro e w' ⟨rfl, rfl⟩) | (go_at_call 7; refine (days_yes _ _ _ _ HT.out (by first | exact HD.out | exact N1.out | exact HF0.out | exact HF1.out)).mono ?_; rintro e w' ⟨rfl, rfl⟩) | (go_at_call 8; refine (len_any _ _ _ HT.out).mono ?_; rintro e w' ⟨rfl, rfl⟩) | (go_at_call 9; refine (leap_any _ _).mono ?_; rintro e w' ⟨rfl, rfl⟩))
      go_ret
      exact ⟨ret_val (congrArg Value.bool (beq_iff_eq.2 E.out)), Below.refl _ _⟩
end Go.Proofs.YtlnnnbbpilcgkaaDoorRRR
