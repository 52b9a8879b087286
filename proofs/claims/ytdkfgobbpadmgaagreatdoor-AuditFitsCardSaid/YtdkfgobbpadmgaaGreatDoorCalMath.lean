/- The plain reckoning of days and dates that the program text cal is held against: leap years, lengths of months, days since 1970, and that each day has one date. -/
import Init
set_option linter.unusedVariables false
set_option linter.unusedSimpArgs false
namespace Go.Proofs.YtdkfgobbpadmgaaGreatDoor
def leapB (y : Int) : Bool := (Int.tmod y 4 == 0) && (!(Int.tmod y 100 == 0) || (Int.tmod y 400 == 0))
def tab : List Int := [0, 31, 28, 31, 30, 31, 30, 31, 31, 30, 31, 30, 31]
def lenI (y m : Int) : Int := if m < 1 ∨ 12 < m then 0 else if m = 2 ∧ leapB y = true then 29 else tab.getD m.toNat 0
def inB (n lo hi : Int) : Bool := decide (lo ≤ n) && decide (n ≤ hi)
def dayB (y m d : Int) : Bool := inB y 1700 2250 && inB d 1 (lenI y m)
def yearsI (y : Int) : Int := 365 * y + (y - 1) / 4 - (y - 1) / 100 + (y - 1) / 400
def cumN (y : Int) : Nat → Int
  | 0 => 0
  | k + 1 => cumN y k + lenI y (k + 1)
def daysI (y m d : Int) : Int := yearsI y - yearsI 1970 + d - 1 + cumN y (m - 1).toNat
theorem len_bd (y m : Int) : 0 ≤ lenI y m ∧ lenI y m ≤ 31 := by
  unfold lenI
  split
  · omega
  · split
    · omega
    · rename_i h _
      obtain ⟨k, hk⟩ : ∃ k : Nat, m = k := ⟨m.toNat, by omega⟩
      subst hk
      have : k ≤ 12 := by omega
      match k, this with
      | 0, _ | 1, _ | 2, _ | 3, _ | 4, _ | 5, _ | 6, _ | 7, _ | 8, _ | 9, _ | 10, _ | 11, _ | 12, _ => simp [tab]
theorem day_parts {y m d : Int} (h : dayB y m d = true) : 1700 ≤ y ∧ y ≤ 2250 ∧ 1 ≤ m ∧ m ≤ 12 ∧ 1 ≤ d ∧ d ≤ 31 ∧ d ≤ lenI y m := by
  simp only [dayB, inB, Bool.and_eq_true, decide_eq_true_eq] at h
  have := len_bd y m
  by_cases hm : m < 1 ∨ 12 < m
  · have : lenI y m = 0 := by simp [lenI, hm]
    omega
  · omega
theorem day_mk {y m d : Int} (a : 1700 ≤ y) (b : y ≤ 2250) (c : 1 ≤ d) (e : d ≤ lenI y m) : dayB y m d = true := by
  simp [dayB, inB, a, b, c, e]
/-- 1 in a leap year, 0 in others -/
def lpI (y : Int) : Int := if leapB y = true then 1 else 0
theorem lp_01 (y : Int) : 0 ≤ lpI y ∧ lpI y ≤ 1 := by unfold lpI; split <;> omega
theorem years_succ (y : Int) (h : 1 ≤ y) : yearsI (y + 1) = yearsI y + 365 + lpI y := by
  have e4 : y.tmod 4 = y % 4 := Int.tmod_eq_emod_of_nonneg (by omega)
  have e100 : y.tmod 100 = y % 100 := Int.tmod_eq_emod_of_nonneg (by omega)
  have e400 : y.tmod 400 = y % 400 := Int.tmod_eq_emod_of_nonneg (by omega)
  unfold yearsI lpI leapB
  rw [e4, e100, e400]
  simp only [Bool.and_eq_true, Bool.or_eq_true, Bool.not_eq_true', beq_iff_eq, beq_eq_false_iff_ne, ne_eq]
  split <;> omega
theorem years_mono {a b : Int} (h : 1 ≤ a) (hab : a ≤ b) : yearsI a + 365 * (b - a) ≤ yearsI b := by unfold yearsI; omega
theorem len_pos (y : Int) (k : Nat) (h1 : 1 ≤ k) (h2 : k ≤ 12) : 28 ≤ lenI y k := by
  unfold lenI
  rw [if_neg (by omega)]
  split
  · omega
  · match k, h1, h2 with
    | 1, _, _ | 2, _, _ | 3, _, _ | 4, _, _ | 5, _, _ | 6, _, _ | 7, _, _ | 8, _, _ | 9, _, _ | 10, _, _ | 11, _, _ | 12, _, _ => simp [tab]
theorem cum_12 (y : Int) : cumN y 12 = 365 + lpI y := by
  have h2 : lenI y 2 = 28 + lpI y := by unfold lenI lpI; simp; split <;> simp [tab]
  simp only [cumN]
  simp [lenI, tab] at h2 ⊢
  unfold lpI at h2 ⊢
  split at h2 <;> simp_all
theorem cum_mono (y : Int) {a b : Nat} (h : a ≤ b) : cumN y a ≤ cumN y b := by
  induction b with
  | zero => have : a = 0 := by omega
            subst this; exact Int.le_refl _
  | succ b ih =>
    rcases Nat.lt_or_ge a (b + 1) with h' | h'
    · have := ih (by omega); have := (len_bd y (b + 1)).1; simp only [cumN]; omega
    · have : a = b + 1 := by omega
      subst this; exact Int.le_refl _
theorem days_first (y : Int) : daysI y 1 1 = yearsI y - yearsI 1970 := by simp [daysI, cumN]
/-- a day lies in its year -/
theorem days_in {y m d : Int} (h : dayB y m d = true) : yearsI y - yearsI 1970 ≤ daysI y m d ∧ daysI y m d < yearsI (y + 1) - yearsI 1970 := by
  obtain ⟨a, b, c, e, f, g, i⟩ := day_parts h
  have k1 := cum_mono y (a := 0) (b := (m - 1).toNat) (by omega)
  have k2 := cum_mono y (a := (m - 1).toNat + 1) (b := 12) (by omega)
  rw [cum_12 y] at k2
  have k4 := years_succ y (by omega)
  have em : (((m - 1).toNat : Int) + 1) = m := by omega
  simp only [cumN, em] at k1 k2
  simp only [daysI]
  omega
theorem days_inj {y m d y' m' d' : Int} (h : dayB y m d = true) (h' : dayB y' m' d' = true) (e : daysI y m d = daysI y' m' d') : y = y' ∧ m = m' ∧ d = d' := by
  obtain ⟨l1, l2⟩ := days_in h
  obtain ⟨r1, r2⟩ := days_in h'
  obtain ⟨a, b, c, e1, f, g, i⟩ := day_parts h
  obtain ⟨a', b', c', e1', f', g', i'⟩ := day_parts h'
  have hy : y = y' := by
    rcases Int.lt_trichotomy y y' with q | q | q
    · have := years_mono (a := y + 1) (b := y') (by omega) (by omega); omega
    · exact q
    · have := years_mono (a := y' + 1) (b := y) (by omega) (by omega); omega
  subst hy
  have em : (((m - 1).toNat : Int) + 1) = m := by omega
  have em' : (((m' - 1).toNat : Int) + 1) = m' := by omega
  have hm : m = m' := by
    rcases Int.lt_trichotomy m m' with q | q | q
    · have k2 := cum_mono y (a := (m - 1).toNat + 1) (b := (m' - 1).toNat) (by omega)
      simp only [cumN, em] at k2
      simp only [daysI] at e
      omega
    · exact q
    · have k2 := cum_mono y (a := (m' - 1).toNat + 1) (b := (m - 1).toNat) (by omega)
      simp only [cumN, em'] at k2
      simp only [daysI] at e
      omega
  subst hm
  simp only [daysI] at e
  exact ⟨rfl, rfl, by omega⟩
/-- the date of a day -/
noncomputable def civil (n : Int) : Int × Int × Int := Classical.epsilon fun p => dayB p.1 p.2.1 p.2.2 = true ∧ daysI p.1 p.2.1 p.2.2 = n
theorem civil_eq {y m d n : Int} (h : dayB y m d = true) (e : daysI y m d = n) : civil n = (y, m, d) := by
  obtain ⟨a, b⟩ := Classical.epsilon_spec (p := fun p : Int × Int × Int => dayB p.1 p.2.1 p.2.2 = true ∧ daysI p.1 p.2.1 p.2.2 = n) ⟨(y, m, d), h, e⟩
  obtain ⟨e1, e2, e3⟩ := days_inj a h (b.trans e.symm)
  exact Prod.ext e1 (Prod.ext e2 e3)
theorem years_1970 : yearsI 1970 = 719527 := by decide
theorem days_low : daysI 1700 1 1 = -98615 := by decide
theorem days_high : daysI 2250 12 31 = 102632 := by decide
theorem day_low : dayB 1700 1 1 = true := by decide
theorem day_high : dayB 2250 12 31 = true := by decide
end Go.Proofs.YtdkfgobbpadmgaaGreatDoor
