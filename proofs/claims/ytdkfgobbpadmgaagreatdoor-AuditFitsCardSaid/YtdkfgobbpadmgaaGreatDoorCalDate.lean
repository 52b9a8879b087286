/- The plain reckoning of cal's Date: each number of nanoseconds has a right date, of its microsecond, within the years that there are; and a right date comes back out of its nanoseconds. -/
import Derived.Test.YtdkfgobbpadmgaaGreatDoorCal
set_option linter.unusedVariables false
set_option linter.unusedSimpArgs false
namespace Go.Proofs.YtdkfgobbpadmgaaGreatDoor
open Go.RowKit
theorem step_at (f : Int → Int) (x : Int) : ∀ (k : Nat) (a : Int), f a ≤ x → x < f (a + k) → ∃ y, a ≤ y ∧ y < a + k ∧ f y ≤ x ∧ x < f (y + 1)
  | 0, a, h1, h2 => by simp at h2; omega
  | k + 1, a, h1, h2 => by
    rcases Int.lt_or_le x (f (a + 1)) with h | h
    · exact ⟨a, by omega, by omega, h1, h⟩
    · obtain ⟨y, y1, y2, y3, y4⟩ := step_at f x k (a + 1) h (by rw [show a + 1 + (k : Int) = a + ((k + 1 : Nat) : Int) by omega]; exact h2)
      exact ⟨y, by omega, by omega, y3, y4⟩
theorem civil_spec {dd : Int} (h1 : -98615 ≤ dd) (h2 : dd ≤ 102632) : dayB (civil dd).1 (civil dd).2.1 (civil dd).2.2 = true ∧ daysI (civil dd).1 (civil dd).2.1 (civil dd).2.2 = dd := by
  have e0 : yearsI 1700 - yearsI 1970 = -98615 := by decide
  have e1 : yearsI (1700 + ((551 : Nat) : Int)) - yearsI 1970 = 102633 := by decide
  obtain ⟨y, y1, y2, y3, y4⟩ := step_at (fun y => yearsI y - yearsI 1970) dd 551 1700 (by simp only [e0]; omega) (by simp only [e1]; omega)
  have y3 : yearsI y - yearsI 1970 ≤ dd := y3
  have y4 : dd < yearsI (y + 1) - yearsI 1970 := y4
  have ys := years_succ y (by omega)
  have c12 := cum_12 y
  obtain ⟨m, m1, m2, m3, m4⟩ := step_at (fun m => cumN y m.toNat) (dd - (yearsI y - yearsI 1970)) 12 0 (by simp [cumN]; omega) (by
    show _ < cumN y 12
    rw [c12]; omega)
  have m3 : cumN y m.toNat ≤ dd - (yearsI y - yearsI 1970) := m3
  have m4 : dd - (yearsI y - yearsI 1970) < cumN y (m + 1).toNat := m4
  have em : (m + 1).toNat = m.toNat + 1 := by omega
  have em2 : ((m.toNat : Nat) : Int) = m := by omega
  rw [em] at m4
  simp only [cumN, em2] at m4
  have hd : dayB y (m + 1) (1 + (dd - (yearsI y - yearsI 1970) - cumN y m.toNat)) = true := day_mk (by omega) (by omega) (by omega) (by omega)
  have he : daysI y (m + 1) (1 + (dd - (yearsI y - yearsI 1970) - cumN y m.toNat)) = dd := by
    simp only [daysI]
    rw [show (m + 1 - 1).toNat = m.toNat by congr 1; omega]
    omega
  rw [civil_eq hd he]
  exact ⟨hd, he⟩
noncomputable def dY (n : Int) : Int := (civil (ddI n)).1
noncomputable def dM (n : Int) : Int := (civil (ddI n)).2.1
noncomputable def dD (n : Int) : Int := (civil (ddI n)).2.2
def dh (n : Int) : Int := rsI n / 1000000000 / 3600
def dm (n : Int) : Int := rsI n / 1000000000 / 60 % 60
def ds (n : Int) : Int := rsI n / 1000000000 % 60
def dn (n : Int) : Int := rsI n % 1000000000 / 1000 * 1000
theorem dateV_eq (n : Int) : dateV n = .agg #[.int .i64 (dY n), .int .i64 (dM n), .int .i64 (dD n), .int .i64 (dh n), .int .i64 (dm n), .int .i64 (ds n), .int .i64 (dn n), .int .i64 0] := rfl
theorem right_mk {y m d hh mi ss n z : Int} (h : dayB y m d = true) (a : 0 ≤ hh ∧ hh ≤ 23) (b : 0 ≤ mi ∧ mi ≤ 59) (c : 0 ≤ ss ∧ ss ≤ 59) (e : 0 ≤ n ∧ n ≤ 999999999) (f : n % 1000 = 0) (g : -1439 ≤ z ∧ z ≤ 1439) : rightB y m d hh mi ss n z = true := by
  have hn : Int.tmod n 1000 = n % 1000 := Int.tmod_eq_emod_of_nonneg e.1
  simp [rightB, inB, h, a, b, c, e, g, hn, f]
theorem date_right (n : Int) : rightB (dY n) (dM n) (dD n) (dh n) (dm n) (ds n) (dn n) 0 = true := by
  obtain ⟨r1, r2⟩ := rs_bd n
  obtain ⟨d1, d2⟩ := dd_bd n
  obtain ⟨c1, _⟩ := civil_spec d1 d2
  unfold dh dm ds dn
  exact right_mk c1 (by omega) (by omega) (by omega) (by omega) (by omega) (by omega)
theorem date_nanos (n : Int) : nanosI (dY n) (dM n) (dD n) (dh n) (dm n) (ds n) (dn n) 0 = ddI n * 86400000000000 + rsI n - rsI n % 1000 := by
  obtain ⟨r1, r2⟩ := rs_bd n
  obtain ⟨d1, d2⟩ := dd_bd n
  obtain ⟨_, c2⟩ := civil_spec d1 d2
  have : daysI (dY n) (dM n) (dD n) = ddI n := c2
  unfold nanosI
  rw [this]
  unfold dh dm ds dn
  omega
/-- A moment within the years that there are is cut to microseconds; others are told by their year. -/
theorem date_near (n : Int) : dY n = 1700 ∨ dY n = 2250 ∨ (0 ≤ n - nanosI (dY n) (dM n) (dD n) (dh n) (dm n) (ds n) (dn n) 0 ∧ n - nanosI (dY n) (dM n) (dD n) (dh n) (dm n) (ds n) (dn n) 0 < 1000) := by
  rw [date_nanos]
  by_cases h1 : n / 86400000000000 < -98615
  · left
    have : ddI n = -98615 := by rw [ddI, if_pos h1]
    rw [dY, this, civil_eq day_low days_low]
  by_cases h2 : 102632 < n / 86400000000000
  · right; left
    have : ddI n = 102632 := by rw [ddI, if_neg h1, if_pos h2]
    rw [dY, this, civil_eq day_high days_high]
  · right; right
    have e1 : ddI n = n / 86400000000000 := by rw [ddI, if_neg h1, if_neg h2]
    have e2 : rsI n = n % 86400000000000 := by rw [rsI, if_neg h1, if_neg h2]
    rw [e1, e2]
    omega
/-- A right date of a year inside comes back out of its nanoseconds, in Zone 0. -/
theorem date_back {y m d hh mi ss n z : Int} (h : rightB y m d hh mi ss n z = true) (y1 : 1700 < y) (y2 : y < 2250) :
    nanosI (dY (nanosI y m d hh mi ss n z)) (dM (nanosI y m d hh mi ss n z)) (dD (nanosI y m d hh mi ss n z)) (dh (nanosI y m d hh mi ss n z)) (dm (nanosI y m d hh mi ss n z)) (ds (nanosI y m d hh mi ss n z)) (dn (nanosI y m d hh mi ss n z)) 0 = nanosI y m d hh mi ss n z ∧
    (z = 0 → dY (nanosI y m d hh mi ss n z) = y ∧ dM (nanosI y m d hh mi ss n z) = m ∧ dD (nanosI y m d hh mi ss n z) = d ∧ dh (nanosI y m d hh mi ss n z) = hh ∧ dm (nanosI y m d hh mi ss n z) = mi ∧ ds (nanosI y m d hh mi ss n z) = ss ∧ dn (nanosI y m d hh mi ss n z) = n) := by
  obtain ⟨hd, a1, a2, a3, a4, a5, a6, a7, a8, a9, a10, a11⟩ := right_parts h
  obtain ⟨i1, i2⟩ := days_in hd
  have k1 := years_mono (a := 1701) (b := y) (by omega) (by omega)
  have k2 := years_mono (a := y + 1) (b := 2250) (by omega) (by omega)
  have v1 : yearsI 1701 - yearsI 1970 = -98250 := by decide
  have v2 : yearsI 2250 - yearsI 1970 = 102268 := by decide
  have hN : nanosI y m d hh mi ss n z = (((daysI y m d * 24 + hh) * 60 + mi - z) * 60 + ss) * 1000000000 + n := rfl
  generalize hX : nanosI y m d hh mi ss n z = X at *
  generalize hK : daysI y m d = K at *
  have b1 : ¬ X / 86400000000000 < -98615 := by omega
  have b2 : ¬ 102632 < X / 86400000000000 := by omega
  have e1 : ddI X = X / 86400000000000 := by rw [ddI, if_neg b1, if_neg b2]
  have e2 : rsI X = X % 86400000000000 := by rw [rsI, if_neg b1, if_neg b2]
  refine ⟨by rw [date_nanos, e1, e2]; omega, fun hz => ?_⟩
  subst hz
  have e3 : ddI X = K := by rw [e1]; omega
  have e4 : rsI X = ((hh * 60 + mi) * 60 + ss) * 1000000000 + n := by rw [e2]; omega
  have e5 := civil_eq hd hK
  rw [dY, dM, dD, e3, e5]
  unfold dh dm ds dn
  rw [e4]
  refine ⟨rfl, rfl, rfl, ?_, ?_, ?_, ?_⟩ <;> omega
end Go.Proofs.YtdkfgobbpadmgaaGreatDoor
