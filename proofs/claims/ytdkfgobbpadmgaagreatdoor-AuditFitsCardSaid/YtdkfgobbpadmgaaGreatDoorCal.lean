/- What each call of package cal returns, for every argument, in a world whose table of lengths is laid as the text lays it. -/
import Derived.Test.YtdkfgobbpadmgaaGreatDoorProg
import Derived.WalkKit
import Derived.KernelRfl
import Derived.RowKit3
import Derived.Below
import Derived.Lib.Hide
import Derived.LoopTactic
import Derived.Deep.QuietTactic
import Derived.BigQuiet
import Derived.Test.YtdkfgobbpadmgaaGreatDoorCalMath
import Derived.Deep.LoopGhost
import Derived.Deep.DeepCutAuto
import Derived.Deep.CutBlock
set_option linter.unusedVariables false
set_option linter.unusedSimpArgs false
namespace Go.Proofs.YtdkfgobbpadmgaaGreatDoor
open Go.RowKit
def Tab (w : World) : Prop := ∀ i : Nat, i < 13 → w.cell? ⟨2, i, none⟩ = some (.int .i64 (tab.getD i 0))
set_option maxHeartbeats 400000 in
theorem leap_any (y : Int) (w : World) : Calls Tryz.prog 87 #[.int .i64 y] w fun e w' => e = .returned (.bool (leapB y)) ∧ w = w' := by
  cases h4 : (Int.tmod y 4 == 0)
  · go_enter Tryz.func87, Tryz.ntmps87
    go_wp2
    go_ret
    exact ⟨by simp [leapB, h4], rfl⟩
  · cases h1 : (Int.tmod y 100 == 0)
    · have h1' : (Int.tmod y 100 != 0) = true := by simp [bne, h1]
      go_enter Tryz.func87, Tryz.ntmps87
      go_wp2
      go_ret
      exact ⟨by simp [leapB, h4, h1], rfl⟩
    · have h1' : (Int.tmod y 100 != 0) = false := by simp [bne, h1]
      go_enter Tryz.func87, Tryz.ntmps87
      go_wp2
      go_ret
      exact ⟨by simp [leapB, h4, h1], rfl⟩
set_option maxHeartbeats 400000 in
theorem len_any (y m : Int) (w : World) (ht : Tab w) : Calls Tryz.prog 69 #[.int .i64 y, .int .i64 m] w fun e w' => e = .returned (.int .i64 (lenI y m)) ∧ w = w' := by
  by_cases h1 : m < 1
  · go_enter Tryz.func69, Tryz.ntmps69
    go_wp2
    go_ret
    exact ⟨by simp [lenI, h1], rfl⟩
  by_cases h2 : 12 < m
  · have hle : 1 ≤ m := by omega
    go_enter Tryz.func69, Tryz.ntmps69
    go_wp2
    go_ret
    exact ⟨by simp [lenI, h2], rfl⟩
  have a1 : 1 ≤ m := by omega
  have a2 : m ≤ 12 := by omega
  clear h1 h2
  have hcell := ht m.toNat (by omega)
  clear ht
  cases hm : (m == 2)
  · go_enter Tryz.func69, Tryz.ntmps69
    go_wp2
    go_ret
    exact ⟨by simp only [beq_eq_false_iff_ne] at hm; simp [lenI, hm]; omega, rfl⟩
  · cases hl : leapB y
    · have hl' : (m == 2 && leapB y) = false := by simp [hl]
      go_enter Tryz.func69, Tryz.ntmps69
      go_wp2_with (go_at_call 87; refine (leap_any _ _).mono ?_; rintro e w' ⟨rfl, rfl⟩)
      go_ret
      exact ⟨by simp [lenI, hl]; omega, rfl⟩
    · go_enter Tryz.func69, Tryz.ntmps69
      go_wp2_with (go_at_call 87; refine (leap_any _ _).mono ?_; rintro e w' ⟨rfl, rfl⟩)
      go_ret
      simp only [beq_iff_eq] at hm
      exact ⟨by simp [lenI, hl, hm], rfl⟩
theorem ret_val {a b : Value} (h : a = b) : Ending.returned a = Ending.returned b := by rw [h]
set_option maxHeartbeats 400000 in
theorem within_any (n lo hi : Int) (w : World) : Calls Tryz.prog 66 #[.int .i64 n, .int .i64 lo, .int .i64 hi] w fun e w' => e = .returned (.bool (inB n lo hi)) ∧ w = w' := by
  by_cases h : lo ≤ n
  · go_enter Tryz.func66, Tryz.ntmps66
    go_wp2
    go_ret
    exact ⟨by simp [inB, h], rfl⟩
  · have h' : decide (lo ≤ n) = false := by simpa using h
    go_enter Tryz.func66, Tryz.ntmps66
    go_wp2
    go_ret
    exact ⟨by rw [show inB n lo hi = false by simp only [inB, h', Bool.false_and]]; rfl, rfl⟩
set_option maxHeartbeats 400000 in
theorem day_any (y m d : Int) (w : World) (ht : Tab w) : Calls Tryz.prog 67 #[.int .i64 y, .int .i64 m, .int .i64 d] w fun e w' => e = .returned (.bool (dayB y m d)) ∧ w = w' := by
  have HT := Lib.hid ht; clear ht
  cases h : inB y 1700 2250
  · go_enter Tryz.func67, Tryz.ntmps67
    go_wp2_with (go_at_call 66; refine (within_any _ _ _ _).mono ?_; rintro e w' ⟨rfl, rfl⟩)
    go_ret
    exact ⟨by simp [dayB, h], rfl⟩
  · go_enter Tryz.func67, Tryz.ntmps67
    go_wp2_with (first | (go_at_call 66; refine (within_any _ _ _ _).mono ?_; rintro e w' ⟨rfl, rfl⟩) | (go_at_call 69; refine (len_any _ _ _ HT.out).mono ?_; rintro e w' ⟨rfl, rfl⟩))
    go_ret
    exact ⟨by simp [dayB, h], rfl⟩
set_option maxHeartbeats 400000 in
theorem years_any (y : Int) (w : World) (h0 : 1 ≤ y) (h1 : y ≤ 10000) : Calls Tryz.prog 68 #[.int .i64 y] w fun e w' => e = .returned (.int .i64 (yearsI y)) ∧ w = w' := by
  go_enter Tryz.func68, Tryz.ntmps68
  go_wp2
  go_ret
  exact ⟨rfl, rfl⟩
set_option maxHeartbeats 400000 in
theorem days_no (y m d : Int) (w : World) (ht : Tab w) (h : dayB y m d = false) : Calls Tryz.prog 40 #[.int .i64 y, .int .i64 m, .int .i64 d] w fun e w' => e = .returned (.tuple #[.int .i64 0, .int .i64 1]) ∧ w = w' := by
  have HT := Lib.hid ht; clear ht
  go_enter Tryz.func40, Tryz.ntmps40
  go_wp2_with (go_at_call 67; refine (day_any _ _ _ _ HT.out).mono ?_; rintro e w' ⟨rfl, rfl⟩)
  go_ret2
  exact ⟨rfl, rfl⟩
theorem cum_bd (y : Int) (k : Nat) : 0 ≤ cumN y k ∧ cumN y k ≤ 31 * k := by
  induction k with
  | zero => simp [cumN]
  | succ k ih => have := len_bd y (k + 1); simp only [cumN]; omega
theorem years_bd (y : Int) (h0 : 1 ≤ y) (h1 : y ≤ 10000) : 0 ≤ yearsI y ∧ yearsI y ≤ 3660000 := by unfold yearsI; omega
set_option maxHeartbeats 400000 in
theorem days_yes (y m d : Int) (w : World) (ht : Tab w) (h : dayB y m d = true) : Calls Tryz.prog 40 #[.int .i64 y, .int .i64 m, .int .i64 d] w fun e w' => e = .returned (.tuple #[.int .i64 (daysI y m d), .int .i64 0]) ∧ w = w' := by
  have HT := Lib.hid ht; clear ht
  obtain ⟨y0, y1, m0, m1, d0, d1, _⟩ := day_parts h
  have b1 := years_bd y (by omega) (by omega)
  have b2 := years_bd 1970 (by omega) (by omega)
  go_enter Tryz.func40, Tryz.ntmps40
  go_wp2_with (first | (go_at_call 67; refine (day_any _ _ _ _ HT.out).mono ?_; rintro e w' ⟨rfl, rfl⟩) | (go_at_call 68; refine (years_any _ _ (by omega) (by omega)).mono ?_; rintro e w' ⟨rfl, rfl⟩))
  go_loop [8, 9] (fun n i => ∃ k : Nat, (k : Int) + 1 ≤ m ∧ i = .int .i64 (k + 1) ∧ n = .int .i64 (yearsI y - yearsI 1970 + d - 1 + cumN y k)) (fun _ i => (m - intOf i).toNat)
  case atStart => exact ⟨0, by omega, rfl, by simp [cumN]⟩
  case round =>
    obtain ⟨k, hk, rfl, rfl⟩ := hrel
    have b3 := cum_bd y k
    have b4 := len_bd y (k + 1)
    by_cases hlt : (k : Int) + 1 < m
    · go_wp2_with (go_at_call 69; refine (len_any _ _ _ HT.out).mono ?_; rintro e w' ⟨rfl, rfl⟩)
      go_round
      case rel => exact ⟨k + 1, by omega, by go_num, by simp only [cumN]; go_num⟩
      case measure => simp [intOf]; omega
    · have hkm : (m - 1).toNat = k := by omega
      have hf : daysI y m d = yearsI y - yearsI 1970 + d - 1 + cumN y k := by rw [daysI, hkm]
      have HF := Lib.hid hf; clear hf hkm
      go_wp2
      go_ret2
      exact ⟨ret_val (by rw [HF.out]; rfl), rfl⟩

def rightB (y m d hh mi ss n z : Int) : Bool := dayB y m d && (inB hh 0 23 && inB mi 0 59 && inB ss 0 59) && inB n 0 999999999 && (Int.tmod n 1000 == 0) && inB z (-1439) 1439
theorem Tab.size {w : World} (ht : Tab w) : 2 < w.heap.size := by
  have h := ht 0 (by omega)
  rcases Nat.lt_or_ge 2 w.heap.size with h' | h'
  · exact h'
  · simp [World.cell?, Array.getElem?_eq_none h'] at h
theorem Tab.below {w w' : World} (ht : Tab w) (hb : Below w.heap.size w w') : Tab w' :=
  fun i hi => (hb.cell (p := ⟨2, i, none⟩) ht.size).trans (ht i hi)
theorem Tab.alloc {w : World} (ht : Tab w) (o : Obj) : Tab (w.alloc o) := ht.below ((Below.refl _ _).alloc (Nat.le_refl _) o)
set_option maxHeartbeats 400000 in
theorem right_any (y m d hh mi ss n z : Int) (w : World) (ht : Tab w) :
    Calls Tryz.prog 39 #[.agg #[.int .i64 y, .int .i64 m, .int .i64 d, .int .i64 hh, .int .i64 mi, .int .i64 ss, .int .i64 n, .int .i64 z]] w fun e w' => e = .returned (.bool (rightB y m d hh mi ss n z)) ∧ Below w.heap.size w w' := by
  have HT := Lib.hid (ht.alloc (.cells #[.int .i64 y, .int .i64 m, .int .i64 d, .int .i64 hh, .int .i64 mi, .int .i64 ss, .int .i64 n, .int .i64 z] 46)); clear ht
  have key : ∀ c : Bool, (inB hh 0 23 && (inB mi 0 59 && inB ss 0 59)) = c → (inB hh 0 23 = false ∨ (inB hh 0 23 = true ∧ inB mi 0 59 = false) ∨ (inB hh 0 23 = true ∧ inB mi 0 59 = true ∧ inB ss 0 59 = c)) := by
    intro c hc
    cases h1 : inB hh 0 23 <;> cases h2 : inB mi 0 59 <;> simp_all
  cases h1 : inB hh 0 23 with
  | false =>
    cases h4 : dayB y m d
    all_goals
      have hf : rightB y m d hh mi ss n z = false := by simp [rightB, h1, h4]
      have HF := Lib.hid hf; clear hf
      go_enter Tryz.func39, Tryz.ntmps39
      go_wp2_with (first | (go_at_call 66; refine (within_any _ _ _ _).mono ?_; rintro e w' ⟨rfl, rfl⟩) | (go_at_call 67; refine (day_any _ _ _ _ HT.out).mono ?_; rintro e w' ⟨rfl, rfl⟩))
      go_ret
      exact ⟨ret_val (congrArg Value.bool HF.out.symm), (Below.refl _ _).alloc (Nat.le_refl _) _⟩
  | true =>
  cases h2 : inB mi 0 59 with
  | false =>
    cases h4 : dayB y m d
    all_goals
      have hf : rightB y m d hh mi ss n z = false := by simp [rightB, h1, h2, h4]
      have HF := Lib.hid hf; clear hf
      go_enter Tryz.func39, Tryz.ntmps39
      go_wp2_with (first | (go_at_call 66; refine (within_any _ _ _ _).mono ?_; rintro e w' ⟨rfl, rfl⟩) | (go_at_call 67; refine (day_any _ _ _ _ HT.out).mono ?_; rintro e w' ⟨rfl, rfl⟩))
      go_ret
      exact ⟨ret_val (congrArg Value.bool HF.out.symm), (Below.refl _ _).alloc (Nat.le_refl _) _⟩
  | true =>
  cases h4 : dayB y m d with
  | false =>
    cases h3 : inB ss 0 59
    all_goals
      have hf : rightB y m d hh mi ss n z = false := by simp [rightB, h1, h2, h3, h4]
      have HF := Lib.hid hf; clear hf
      go_enter Tryz.func39, Tryz.ntmps39
      go_wp2_with (first | (go_at_call 66; refine (within_any _ _ _ _).mono ?_; rintro e w' ⟨rfl, rfl⟩) | (go_at_call 67; refine (day_any _ _ _ _ HT.out).mono ?_; rintro e w' ⟨rfl, rfl⟩))
      go_ret
      exact ⟨ret_val (congrArg Value.bool HF.out.symm), (Below.refl _ _).alloc (Nat.le_refl _) _⟩
  | true =>
  cases h3 : inB ss 0 59 with
  | false =>
    have hf : rightB y m d hh mi ss n z = false := by simp [rightB, h1, h2, h3, h4]
    have HF := Lib.hid hf; clear hf
    go_enter Tryz.func39, Tryz.ntmps39
    go_wp2_with (first | (go_at_call 66; refine (within_any _ _ _ _).mono ?_; rintro e w' ⟨rfl, rfl⟩) | (go_at_call 67; refine (day_any _ _ _ _ HT.out).mono ?_; rintro e w' ⟨rfl, rfl⟩))
    go_ret
    exact ⟨ret_val (congrArg Value.bool HF.out.symm), (Below.refl _ _).alloc (Nat.le_refl _) _⟩
  | true =>
  cases h5 : inB n 0 999999999 with
  | false =>
    have hf : rightB y m d hh mi ss n z = false := by simp [rightB, h1, h2, h3, h4, h5]
    have HF := Lib.hid hf; clear hf
    go_enter Tryz.func39, Tryz.ntmps39
    go_wp2_with (first | (go_at_call 66; refine (within_any _ _ _ _).mono ?_; rintro e w' ⟨rfl, rfl⟩) | (go_at_call 67; refine (day_any _ _ _ _ HT.out).mono ?_; rintro e w' ⟨rfl, rfl⟩))
    go_ret
    exact ⟨ret_val (congrArg Value.bool HF.out.symm), (Below.refl _ _).alloc (Nat.le_refl _) _⟩
  | true =>
  cases h6 : (Int.tmod n 1000 == 0)
  all_goals
    have hf : rightB y m d hh mi ss n z = (Int.tmod n 1000 == 0 && inB z (-1439) 1439) := by simp [rightB, h1, h2, h3, h4, h5]
    rw [h6] at hf
    have HF := Lib.hid hf; clear hf
    go_enter Tryz.func39, Tryz.ntmps39
    go_wp2_with (first | (go_at_call 66; refine (within_any _ _ _ _).mono ?_; rintro e w' ⟨rfl, rfl⟩) | (go_at_call 67; refine (day_any _ _ _ _ HT.out).mono ?_; rintro e w' ⟨rfl, rfl⟩))
    go_ret
    exact ⟨ret_val (congrArg Value.bool HF.out.symm), (Below.refl _ _).alloc (Nat.le_refl _) _⟩

theorem bcell {W w1 : World} (hb : Below W.heap.size W w1) : (∀ b o, b < W.heap.size → w1.cell? ⟨b, o, none⟩ = W.cell? ⟨b, o, none⟩) ∧ (∀ b o, b < W.heap.size → w1.frozen? ⟨b, o, none⟩ = W.frozen? ⟨b, o, none⟩) :=
  ⟨fun b o h => hb.cell (p := ⟨b, o, none⟩) h, fun b o h => hb.frozen (p := ⟨b, o, none⟩) h⟩
def nanosI (y m d hh mi ss n z : Int) : Int := (((daysI y m d * 24 + hh) * 60 + mi - z) * 60 + ss) * 1000000000 + n
set_option maxHeartbeats 400000 in
theorem nanos_no (y m d hh mi ss n z : Int) (w : World) (ht : Tab w) (h : rightB y m d hh mi ss n z = false) :
    Calls Tryz.prog 15 #[.agg #[.int .i64 y, .int .i64 m, .int .i64 d, .int .i64 hh, .int .i64 mi, .int .i64 ss, .int .i64 n, .int .i64 z]] w fun e w' => e = .returned (.tuple #[.int .i64 0, .int .i64 1]) ∧ Below w.heap.size w w' := by
  have HT := Lib.hid (ht.alloc (.cells #[.int .i64 y, .int .i64 m, .int .i64 d, .int .i64 hh, .int .i64 mi, .int .i64 ss, .int .i64 n, .int .i64 z] 46)); clear ht
  go_enter Tryz.func15, Tryz.ntmps15
  go_wp2_with (go_at_call 39; refine (right_any _ _ _ _ _ _ _ _ _ HT.out).mono ?_; rintro e w1 ⟨rfl, hb⟩)
  go_ret2
  exact ⟨rfl, ((Below.refl _ _).alloc (Nat.le_refl _) _).trans (hb.mono (by simp))⟩
theorem right_parts {y m d hh mi ss n z : Int} (h : rightB y m d hh mi ss n z = true) : dayB y m d = true ∧ 0 ≤ hh ∧ hh ≤ 23 ∧ 0 ≤ mi ∧ mi ≤ 59 ∧ 0 ≤ ss ∧ ss ≤ 59 ∧ 0 ≤ n ∧ n ≤ 999999999 ∧ n % 1000 = 0 ∧ -1439 ≤ z ∧ z ≤ 1439 := by
  simp only [rightB, inB, Bool.and_eq_true, decide_eq_true_eq, beq_iff_eq] at h
  have hn : Int.tmod n 1000 = n % 1000 := Int.tmod_eq_emod_of_nonneg (by omega)
  rw [hn] at h
  obtain ⟨⟨⟨⟨a, b⟩, c⟩, d⟩, e⟩ := h
  exact ⟨a, by omega, by omega, by omega, by omega, by omega, by omega, by omega, by omega, d, by omega, by omega⟩
theorem days_bd {y m d : Int} (h : dayB y m d = true) : -106000 ≤ daysI y m d ∧ daysI y m d ≤ 106000 := by
  obtain ⟨y0, y1, m0, m1, d0, d1, _⟩ := day_parts h
  have b3 := cum_bd y (m - 1).toNat
  unfold daysI yearsI
  omega
set_option maxHeartbeats 400000 in
theorem nanos_yes (y m d hh mi ss n z : Int) (w : World) (ht : Tab w) (h : rightB y m d hh mi ss n z = true) :
    Calls Tryz.prog 15 #[.agg #[.int .i64 y, .int .i64 m, .int .i64 d, .int .i64 hh, .int .i64 mi, .int .i64 ss, .int .i64 n, .int .i64 z]] w fun e w' => e = .returned (.tuple #[.int .i64 (nanosI y m d hh mi ss n z), .int .i64 0]) ∧ Below w.heap.size w w' := by
  have ht1 := ht.alloc (.cells #[.int .i64 y, .int .i64 m, .int .i64 d, .int .i64 hh, .int .i64 mi, .int .i64 ss, .int .i64 n, .int .i64 z] 46)
  have HT := Lib.hid ht1; clear ht ht1
  obtain ⟨hd, _, _, _, _, _, _, _, _, hn, _, _⟩ := right_parts h
  have HN := Lib.hid hn; clear hn
  obtain ⟨_, _⟩ := days_bd hd
  go_enter Tryz.func15, Tryz.ntmps15
  go_wp2_with (first | (go_at_call 39; refine (right_any _ _ _ _ _ _ _ _ _ HT.out).mono ?_; rintro e w1 ⟨rfl, hb⟩; obtain ⟨hc, hf⟩ := bcell hb) | (go_at_call 40; refine (days_yes _ _ _ _ (HT.out.below hb) hd).mono ?_; rintro e w' ⟨rfl, rfl⟩))
  go_ret2
  exact ⟨rfl, ((Below.refl _ _).alloc (Nat.le_refl _) _).trans (hb.mono (by simp))⟩
def nanosN (y m d hh mi ss n z : Int) : Int := if rightB y m d hh mi ss n z = true then nanosI y m d hh mi ss n z else 0
def nanosE (y m d hh mi ss n z : Int) : Int := if rightB y m d hh mi ss n z = true then 0 else 1
theorem nanos_any (y m d hh mi ss n z : Int) (w : World) (ht : Tab w) :
    Calls Tryz.prog 15 #[.agg #[.int .i64 y, .int .i64 m, .int .i64 d, .int .i64 hh, .int .i64 mi, .int .i64 ss, .int .i64 n, .int .i64 z]] w fun e w' => e = .returned (.tuple #[.int .i64 (nanosN y m d hh mi ss n z), .int .i64 (nanosE y m d hh mi ss n z)]) ∧ Below w.heap.size w w' := by
  cases h : rightB y m d hh mi ss n z
  · have e1 : nanosN y m d hh mi ss n z = 0 := by simp [nanosN, h]
    have e2 : nanosE y m d hh mi ss n z = 1 := by simp [nanosE, h]
    rw [e1, e2]
    exact nanos_no _ _ _ _ _ _ _ _ w ht h
  · have e1 : nanosN y m d hh mi ss n z = nanosI y m d hh mi ss n z := by simp [nanosN, h]
    have e2 : nanosE y m d hh mi ss n z = 0 := by simp [nanosE, h]
    rw [e1, e2]
    exact nanos_yes _ _ _ _ _ _ _ _ w ht h
theorem nanos_bd {y m d hh mi ss n z : Int} (h : rightB y m d hh mi ss n z = true) : -9160000000000000000 ≤ nanosI y m d hh mi ss n z ∧ nanosI y m d hh mi ss n z ≤ 9160000000000000000 := by
  obtain ⟨hd, a1, a2, a3, a4, a5, a6, a7, a8, a9, a10, a11⟩ := right_parts h
  obtain ⟨_, _⟩ := days_bd hd
  unfold nanosI
  omega
theorem into {B B' : Nat} {a b c : World} (h2 : Below B' b c) (h1 : Below B a b) (hB : B ≤ B') : Below B a c := h1.trans (h2.mono hB)
theorem below_drewN {B : Nat} {a w : World} (h : Below B a w) (n : Nat) : Below B a (w.drewN n) := ⟨h.os, h.tape, h.output, h.size, h.block⟩
theorem ret_pair {a b c d : Int} {k k' : IntKind} (h : a = c) (h' : b = d) : Ending.returned (.tuple #[.int k a, .int k' b]) = Ending.returned (.tuple #[.int k c, .int k' d]) := by rw [h, h']
theorem floor_lo {n k : Int} (hk : 0 < k) (hn : n < 0) (h : n.tmod k < 0) : n / k = n.tdiv k - 1 ∧ n % k = n.tmod k + k ∧ -k < n.tmod k ∧ n + 1 ≤ n.tdiv k ∧ n.tdiv k ≤ 0 := by
  have e := Int.mul_tdiv_add_tmod n k
  have l : -k < n.tmod k := by
    exact Int.lt_tmod_of_pos n hk
  have u := (Int.ediv_emod_unique (a := n) (b := k) (q := n.tdiv k - 1) (r := n.tmod k + k) hk).2 ⟨by rw [Int.mul_sub]; omega, by omega, by omega⟩
  have b1 : n + 1 ≤ n.tdiv k := by
    rcases Int.lt_or_le (n.tdiv k) (n + 1) with h' | h'
    · have := Int.mul_le_mul_of_nonneg_left (show n.tdiv k ≤ n by omega) (show 0 ≤ k by omega)
      have h2 : k * n ≤ 1 * n := Int.mul_le_mul_of_nonpos_right (by omega) (by omega)
      omega
    · exact h'
  have b2 : n.tdiv k ≤ 0 := by
    rcases Int.lt_or_le 0 (n.tdiv k) with h' | h'
    · have := Int.mul_le_mul_of_nonneg_left (show 1 ≤ n.tdiv k by omega) (show 0 ≤ k by omega)
      omega
    · exact h'
  exact ⟨u.1, u.2, l, b1, b2⟩
theorem floor_eq {n k : Int} (hk : 0 < k) (hn : n < 0) (h : ¬ n.tmod k < 0) : n / k = n.tdiv k ∧ n % k = n.tmod k := by
  have e := Int.mul_tdiv_add_tmod n k
  have l : n.tmod k < k := Int.tmod_lt_of_pos n hk
  have u := (Int.ediv_emod_unique (a := n) (b := k) (q := n.tdiv k) (r := n.tmod k) hk).2 ⟨by omega, by omega, by omega⟩
  exact u
set_option maxHeartbeats 400000 in
theorem cut_any (n k : Int) (w : World) (h0 : 0 < k) (h1 : k ≤ 9223372036854775807) (a0 : -9223372036854775808 ≤ n) (a1 : n ≤ 9223372036854775807) :
    Calls Tryz.prog 88 #[.int .i64 n, .int .i64 k] w fun e w' => e = .returned (.tuple #[.int .i64 (n / k), .int .i64 (n % k)]) ∧ ∃ j, w' = w.drewN j := by
  have hk0 : (k == 0) = false := by simp; omega
  by_cases hn : 0 ≤ n
  · have hm : 0 ≤ n % k := Int.emod_nonneg _ (by omega)
    go_enter Tryz.func88, Tryz.ntmps88
    go_wp2
    go_quiet (fail)
    go_wp2
    go_ret2
    exact ⟨rfl, _, rfl⟩
  have hn' : n < 0 := by omega
  by_cases hz : n.tmod k < 0
  · obtain ⟨e1, e2, _, _, _⟩ := floor_lo h0 hn' hz
    have E1 := Lib.hid e1; have E2 := Lib.hid e2; clear e1 e2
    go_enter Tryz.func88, Tryz.ntmps88
    go_wp2
    go_quiet (fail)
    go_wp2
    go_ret2
    exact ⟨ret_pair E1.out.symm E2.out.symm, _, rfl⟩
  · obtain ⟨e1, e2⟩ := floor_eq h0 hn' hz
    have E1 := Lib.hid e1; have E2 := Lib.hid e2; clear e1 e2
    have hz' : decide (n.tmod k < 0) = false := by simpa using hz
    go_enter Tryz.func88, Tryz.ntmps88
    go_wp2
    go_quiet (fail)
    go_wp2
    go_ret2
    exact ⟨ret_pair E1.out.symm E2.out.symm, _, rfl⟩
set_option maxHeartbeats 400000 in
theorem behind_yes (y : Int) (w : World) (ht : Tab w) (h : dayB y 1 1 = true) : Calls Tryz.prog 89 #[.int .i64 y] w fun e w' => e = .returned (.int .i64 (daysI y 1 1)) ∧ w = w' := by
  have HT := Lib.hid ht; clear ht
  obtain ⟨_, _⟩ := days_bd h
  go_enter Tryz.func89, Tryz.ntmps89
  go_wp2_with (go_at_call 40; refine (days_yes _ _ _ _ HT.out h).mono ?_; rintro e w' ⟨rfl, rfl⟩)
  go_ret
  exact ⟨rfl, rfl⟩
def ddI (n : Int) : Int := if n / 86400000000000 < -98615 then -98615 else if 102632 < n / 86400000000000 then 102632 else n / 86400000000000
def rsI (n : Int) : Int := if n / 86400000000000 < -98615 then 0 else if 102632 < n / 86400000000000 then 86399999999999 else n % 86400000000000
theorem dd_bd (n : Int) : -98615 ≤ ddI n ∧ ddI n ≤ 102632 := by unfold ddI; split <;> (try split) <;> omega
theorem rs_bd (n : Int) : 0 ≤ rsI n ∧ rsI n ≤ 86399999999999 := by unfold rsI; split <;> (try split) <;> omega
/-- the first guess of a year -/
def ygI (dd : Int) : Int := if dd < 0 then 1970 + dd.tdiv 366 - 1 else 1970 + dd.tdiv 366
theorem yg_bd (dd : Int) (h : -98615 ≤ dd ∧ dd ≤ 102632) : 1700 ≤ ygI dd ∧ ygI dd ≤ 2250 := by
  unfold ygI
  split
  · have e := Int.neg_tdiv (-dd) 366
    rw [Int.neg_neg, Int.tdiv_eq_ediv_of_nonneg (a := -dd) (by omega)] at e
    omega
  · rw [Int.tdiv_eq_ediv_of_nonneg (by omega)]
    omega
theorem q_bd (dd : Int) (h : -98615 ≤ dd ∧ dd ≤ 102632) : -269 ≤ dd.tdiv 366 ∧ dd.tdiv 366 ≤ 280 := by
  rcases Int.lt_or_le dd 0 with h' | h'
  · have e := Int.neg_tdiv (-dd) 366
    rw [Int.neg_neg, Int.tdiv_eq_ediv_of_nonneg (a := -dd) (by omega)] at e
    omega
  · rw [Int.tdiv_eq_ediv_of_nonneg (by omega)]
    omega
theorem Tab.drewN {w : World} (ht : Tab w) (j : Nat) : Tab (w.drewN j) := ht
noncomputable def dateV (n : Int) : Value := .agg #[.int .i64 (civil (ddI n)).1, .int .i64 (civil (ddI n)).2.1, .int .i64 (civil (ddI n)).2.2, .int .i64 (rsI n / 1000000000 / 3600), .int .i64 (rsI n / 1000000000 / 60 % 60), .int .i64 (rsI n / 1000000000 % 60), .int .i64 (rsI n % 1000000000 / 1000 * 1000), .int .i64 0]
def Ymd (y m d : Int) : Array Value := #[.int .i64 y, .int .i64 m, .int .i64 d, .int .i64 0, .int .i64 0, .int .i64 0, .int .i64 0, .int .i64 0]
set_option maxHeartbeats 1000000 in
set_option maxRecDepth 100000 in
theorem date_any (n : Int) (w : World) (ht : Tab w) (a0 : -9223372036854775808 ≤ n) (a1 : n ≤ 9223372036854775807) :
    Calls Tryz.prog 70 #[.int .i64 n] w fun e w' => e = .returned (dateV n) ∧ Below w.heap.size w w' := by
  have ht1 := ht.alloc (.cells #[.int .i64 0, .int .i64 0, .int .i64 0, .int .i64 0, .int .i64 0, .int .i64 0, .int .i64 0, .int .i64 0] 46)
  have HT := Lib.hid ht1; clear ht1
  have HL := Lib.hid days_low
  have HH := Lib.hid days_high
  go_enter Tryz.func70, Tryz.ntmps70
  go_upto_block 0 with (first | (go_at_call 88; refine (cut_any _ _ _ (by omega) (by omega) a0 a1).mono ?_; rintro e w1 ⟨rfl, j, rfl⟩) | (go_at_call 40; refine (days_yes _ _ _ _ (HT.out.drewN _) (by decide)).mono ?_; rintro e w' ⟨rfl, rfl⟩; first | rw [HL.out] | rw [HH.out]))
  go_cut [3, 4] (fun s3 s4 wx => s3 = .int .i64 (ddI n) ∧ s4 = .int .i64 (rsI n) ∧ wx = (w.alloc (.cells #[.int .i64 0, .int .i64 0, .int .i64 0, .int .i64 0, .int .i64 0, .int .i64 0, .int .i64 0, .int .i64 0] 46)).drewN j)
  case first =>
    by_cases h1 : n / 86400000000000 < -98615
    · go_wp2
      go_meet
      exact ⟨by rw [ddI, if_pos h1], by rw [rsI, if_pos h1], rfl⟩
    by_cases h2 : 102632 < n / 86400000000000
    · have h1' : -98615 ≤ n / 86400000000000 := by omega
      go_wp2
      go_meet
      exact ⟨by rw [ddI, if_neg (by omega), if_pos (by omega)], by rw [rsI, if_neg (by omega), if_pos (by omega)], rfl⟩
    · have h1' : -98615 ≤ n / 86400000000000 := by omega
      have h2' : n / 86400000000000 ≤ 102632 := by omega
      go_wp2
      go_meet
      exact ⟨by rw [ddI, if_neg (by omega), if_neg (by omega)], by rw [rsI, if_neg (by omega), if_neg (by omega)], rfl⟩
  case rest =>
    obtain ⟨rfl, rfl, rfl⟩ := hcut
    have hd := dd_bd n
    have hr := rs_bd n
    have hg := yg_bd _ hd
    have hv : Hid (∀ y m d, dayB y m d = true → daysI y m d = ddI n → dateV n = .agg #[.int .i64 y, .int .i64 m, .int .i64 d, .int .i64 (rsI n / 1000000000 / 3600), .int .i64 (rsI n / 1000000000 / 60 % 60), .int .i64 (rsI n / 1000000000 % 60), .int .i64 (rsI n % 1000000000 / 1000 * 1000), .int .i64 0]) := by
      intro y m d h e
      rw [dateV, civil_eq h e]
    generalize ddI n = D at *
    generalize rsI n = R at *
    obtain ⟨hd1, hd2⟩ := hd
    have hTW : Hid (∀ c, Tab ((((w.alloc (.cells #[.int .i64 0, .int .i64 0, .int .i64 0, .int .i64 0, .int .i64 0, .int .i64 0, .int .i64 0, .int .i64 0] 46)).drewN j).alloc (.cells c 46)))) := fun c => (HT.out.drewN _).alloc _
    obtain ⟨hq1, hq2⟩ := q_bd D ⟨hd1, hd2⟩
    go_upto_if 41 with (fail)
    go_cut [] (fun wx => wx = (((w.alloc (.cells #[.int .i64 0, .int .i64 0, .int .i64 0, .int .i64 0, .int .i64 0, .int .i64 0, .int .i64 0, .int .i64 0] 46)).drewN j).alloc (.cells #[.int .i64 (ygI D), .int .i64 1, .int .i64 1, .int .i64 0, .int .i64 0, .int .i64 0, .int .i64 0, .int .i64 0] 46)))
    case first =>
      by_cases hneg : D < 0
      · have hf : ygI D = 1970 + D.tdiv 366 - 1 := by rw [ygI, if_pos hneg]
        have HF := Lib.hid hf; clear hf
        go_wp2
        go_meet
        rw [HF.out]
      · have hf : ygI D = 1970 + D.tdiv 366 := by rw [ygI, if_neg hneg]
        have HF := Lib.hid hf; clear hf
        have hneg' : 0 ≤ D := by omega
        go_wp2
        go_meet
        rw [HF.out]
    case rest =>
      obtain rfl := hcut
      generalize ygI D = Y at *
      go_upto_block 1 with (fail)
      go_cut [] (fun wx => ∃ y : Int, 1700 ≤ y ∧ y ≤ 2250 ∧ Hid (y = 2250 ∨ D < daysI (y + 1) 1 1) ∧ wx = (((w.alloc (.cells #[.int .i64 0, .int .i64 0, .int .i64 0, .int .i64 0, .int .i64 0, .int .i64 0, .int .i64 0, .int .i64 0] 46)).drewN j).alloc (.cells #[.int .i64 y, .int .i64 1, .int .i64 1, .int .i64 0, .int .i64 0, .int .i64 0, .int .i64 0, .int .i64 0] 46)))
      case first =>
        go_wp2
        go_loopg [] (2250 - Y).toNat (fun k wr => ∃ y : Int, k = (2250 - y).toNat ∧ 1700 ≤ y ∧ y ≤ 2250 ∧ wr = (((w.alloc (.cells #[.int .i64 0, .int .i64 0, .int .i64 0, .int .i64 0, .int .i64 0, .int .i64 0, .int .i64 0, .int .i64 0] 46)).drewN j).alloc (.cells #[.int .i64 y, .int .i64 1, .int .i64 1, .int .i64 0, .int .i64 0, .int .i64 0, .int .i64 0, .int .i64 0] 46)))
        case atStart => exact ⟨Y, rfl, hg.1, hg.2, rfl⟩
        case round =>
          obtain ⟨y, hk, hy1, hy2, rfl⟩ := hrel
          have HK := Lib.hid hk; clear hk
          by_cases h1 : y < 2250
          · have hv1 : dayB (y + 1) 1 1 = true := day_mk (by omega) (by omega) (by omega) (by have := len_pos (y + 1) 1 (by omega) (by omega); simpa using (by omega : (1 : Int) ≤ lenI (y + 1) ((1 : Nat) : Int)))
            have HV := Lib.hid hv1; clear hv1
            by_cases h2 : daysI (y + 1) 1 1 ≤ D
            · go_wp2_with (go_at_call 89; refine (behind_yes _ _ (hTW.out _) HV.out).mono ?_; rintro e w' ⟨rfl, rfl⟩)
              go_roundg (2250 - (y + 1)).toNat
              case measure => rw [HK.out]; omega
              case rel => exact ⟨y + 1, rfl, by omega, by omega, rfl⟩
            · have h2' : decide (daysI (y + 1) 1 1 ≤ D) = false := by simpa using h2
              go_wp2_with (go_at_call 89; refine (behind_yes _ _ (hTW.out _) HV.out).mono ?_; rintro e w' ⟨rfl, rfl⟩)
              go_meet
              exact ⟨y, hy1, hy2, .inr (by omega), rfl⟩
          · have h1' : decide (y < 2250) = false := by simpa using h1
            go_wp2
            go_meet
            exact ⟨y, hy1, hy2, .inl (by omega), rfl⟩
      case rest =>
      obtain ⟨y1, hy1, hy2, hup, rfl⟩ := hcut
      have HUP := hup; clear hup
      go_upto_block 3 with (fail)
      go_cut [] (fun wx => ∃ y : Int, 1700 ≤ y ∧ y ≤ 2250 ∧ Hid (y = 2250 ∨ D < daysI (y + 1) 1 1) ∧ Hid (daysI y 1 1 ≤ D) ∧ wx = (((w.alloc (.cells #[.int .i64 0, .int .i64 0, .int .i64 0, .int .i64 0, .int .i64 0, .int .i64 0, .int .i64 0, .int .i64 0] 46)).drewN j).alloc (.cells #[.int .i64 y, .int .i64 1, .int .i64 1, .int .i64 0, .int .i64 0, .int .i64 0, .int .i64 0, .int .i64 0] 46)))
      case first =>
        go_wp2
        go_loopg [] (y1 - 1700).toNat (fun k wr => ∃ y : Int, k = (y - 1700).toNat ∧ 1700 ≤ y ∧ y ≤ 2250 ∧ Hid (y = 2250 ∨ D < daysI (y + 1) 1 1) ∧ wr = (((w.alloc (.cells #[.int .i64 0, .int .i64 0, .int .i64 0, .int .i64 0, .int .i64 0, .int .i64 0, .int .i64 0, .int .i64 0] 46)).drewN j).alloc (.cells #[.int .i64 y, .int .i64 1, .int .i64 1, .int .i64 0, .int .i64 0, .int .i64 0, .int .i64 0, .int .i64 0] 46)))
        case atStart => exact ⟨y1, rfl, hy1, hy2, HUP, rfl⟩
        case round =>
          obtain ⟨y, hk, hy1', hy2', hup', rfl⟩ := hrel
          have HK := Lib.hid hk; clear hk
          by_cases h1 : 1700 < y
          · have hv1 : dayB y 1 1 = true := day_mk (by omega) (by omega) (by omega) (by have := len_pos y 1 (by omega) (by omega); simpa using (by omega : (1 : Int) ≤ lenI y ((1 : Nat) : Int)))
            have HV := Lib.hid hv1; clear hv1
            by_cases h2 : D < daysI y 1 1
            · go_wp2_with (go_at_call 89; refine (behind_yes _ _ (hTW.out _) HV.out).mono ?_; rintro e w' ⟨rfl, rfl⟩)
              go_roundg (y - 1 - 1700).toNat
              case measure => rw [HK.out]; omega
              case rel => exact ⟨y - 1, rfl, by omega, by omega, .inr (by rw [Int.sub_add_cancel]; exact h2), rfl⟩
            · have h2' : decide (D < daysI y 1 1) = false := by simpa using h2
              go_wp2_with (go_at_call 89; refine (behind_yes _ _ (hTW.out _) HV.out).mono ?_; rintro e w' ⟨rfl, rfl⟩)
              go_meet
              exact ⟨y, hy1', hy2', hup', by unfold Hid; omega, rfl⟩
          · have h1' : decide (1700 < y) = false := by simpa using h1
            go_wp2
            go_meet
            exact ⟨y, hy1', hy2', hup', by obtain rfl : y = 1700 := by omega
                                           unfold Hid; rw [days_low]; omega, rfl⟩
      case rest =>
      obtain ⟨y, hy3, hy4, hup, hlo, rfl⟩ := hcut
      have hv1 : dayB y 1 1 = true := day_mk (by omega) (by omega) (by omega) (by have := len_pos y 1 (by omega) (by omega); simpa using (by omega : (1 : Int) ≤ lenI y ((1 : Nat) : Int)))
      have HV := Lib.hid hv1; clear hv1
      have hl0 : 0 ≤ D - daysI y 1 1 := by have := hlo.out; omega
      have hl1 : D - daysI y 1 1 < cumN y 12 := by
        rw [cum_12]
        rcases hup.out with rfl | h
        · have := days_high; have e : daysI 2250 12 31 = yearsI 2250 - yearsI 1970 + 364 := by decide
          rw [days_first]; have : lpI 2250 = 0 := by decide
          omega
        · rw [days_first] at h; rw [days_first, ] ; have := years_succ y (by omega); omega
      have hF := Lib.hid (days_first y)
      clear HUP hup hlo
      have hdb := days_bd HV.out
      go_wp2_with (go_at_call 89; refine (behind_yes _ _ (hTW.out _) HV.out).mono ?_; rintro e w' ⟨rfl, rfl⟩)
      generalize hL : D - daysI y 1 1 = L at *
      have HL1 := Lib.hid hL; clear hL
      have HTop := Lib.hid hl1; clear hl1
      obtain ⟨hr1, hr2⟩ := hr
      have hL2 : L ≤ 210000 := by have := HL1.out; omega
      go_loopg [11] 12 (fun k s wr => ∃ m : Nat, m ≤ 11 ∧ k = 12 - m ∧ 0 ≤ L - cumN y m ∧ s = .int .i64 (L - cumN y m) ∧ wr = (((w.alloc (.cells #[.int .i64 0, .int .i64 0, .int .i64 0, .int .i64 0, .int .i64 0, .int .i64 0, .int .i64 0, .int .i64 0] 46)).drewN j).alloc (.cells #[.int .i64 y, .int .i64 (m + 1), .int .i64 1, .int .i64 0, .int .i64 0, .int .i64 0, .int .i64 0, .int .i64 0] 46)))
      case atStart => exact ⟨0, by omega, rfl, by simpa [cumN] using hl0, by simp [cumN], rfl⟩
      case round =>
        obtain ⟨m, hm, hk, hge, rfl, rfl⟩ := hrel
        have HK := Lib.hid hk; clear hk
        have hcb := cum_bd y m
        have hlb := len_bd y ((m : Int) + 1)
        by_cases hc : lenI y ((m : Int) + 1) ≤ L - cumN y m
        · have hm' : m + 1 ≤ 11 := by
            rcases Nat.lt_or_ge m 11 with h | h
            · omega
            · obtain rfl : m = 11 := by omega
              have h2 := HTop.out
              have h3 : cumN y 12 = cumN y 11 + lenI y (((11 : Nat) : Int) + 1) := rfl
              omega
          go_wp2_with (go_at_call 69; refine (len_any _ _ _ (hTW.out _)).mono ?_; rintro e w' ⟨rfl, rfl⟩)
          go_roundg (12 - (m + 1))
          case measure => rw [HK.out]; omega
          case rel => exact ⟨m + 1, hm', rfl, by simp only [cumN]; omega, by simp only [cumN]; go_num, by simp⟩
        · have hc' : decide (lenI y ((m : Int) + 1) ≤ L - cumN y m) = false := by simpa using hc
          have hv : dayB y (m + 1) (1 + (L - cumN y m)) = true := day_mk hy3 hy4 (by omega) (by omega)
          have he : daysI y (m + 1) (1 + (L - cumN y m)) = D := by
            have h1 := HL1.out
            simp only [daysI] at h1 ⊢
            have e1 : ((1 : Int) - 1).toNat = 0 := rfl
            have e2 : ((m : Int) + 1 - 1).toNat = m := by omega
            rw [e1] at h1
            rw [e2]
            simp only [cumN] at h1
            omega
          have hfin := Lib.hid (‹Hid (∀ y m d, dayB y m d = true → daysI y m d = D → dateV n = _)›.out _ _ _ hv he)
          clear hv he
          go_wp2_with (go_at_call 69; refine (len_any _ _ _ (hTW.out _)).mono ?_; rintro e w' ⟨rfl, rfl⟩)
          refine bodyPost_ret (v := .agg #[.int .i64 y, .int .i64 (m + 1), .int .i64 (1 + (L - cumN y m)), .int .i64 (R / 1000000000 / 3600), .int .i64 (R / 1000000000 / 60 % 60), .int .i64 (R / 1000000000 % 60), .int .i64 (R % 1000000000 / 1000 * 1000), .int .i64 0]) (by simp [results, Tryz.results70, go_sem]) rfl ⟨ret_val hfin.out.symm, ?_⟩
          refine Below.alloc ?_ (by simp [World.setCell]) _
          repeat (refine Below.setCell ?_ (by simp) _)
          exact below_drewN ((Below.refl _ _).alloc (Nat.le_refl _) _) _
end Go.Proofs.YtdkfgobbpadmgaaGreatDoor
