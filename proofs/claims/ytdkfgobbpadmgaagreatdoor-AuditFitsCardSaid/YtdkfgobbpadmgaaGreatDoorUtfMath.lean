/- Of no program: what valid UTF-8 asks of a lead byte and those behind it, as the document's reference reckons it. -/
import Derived.Lib.ValidLaws
set_option linter.unusedVariables false
set_option linter.unusedSimpArgs false
namespace Go.Proofs.YtdkfgobbpadmgaaGreatDoor
open Go.Lib
def utfC (c : Nat) (n : Nat) (low v0 : Int) : Prop :=
  (194 ≤ c ∧ c ≤ 223 ∧ n = 1 ∧ low = 128 ∧ v0 = (c : Int) - 192) ∨ (224 ≤ c ∧ c ≤ 239 ∧ n = 2 ∧ low = 2048 ∧ v0 = (c : Int) - 224) ∨ (240 ≤ c ∧ c ≤ 244 ∧ n = 3 ∧ low = 65536 ∧ v0 = (c : Int) - 240)
def utfV (v0 : Int) (d : Nat → Nat) : Nat → Int
  | 0 => v0
  | j + 1 => 64 * utfV v0 d j + (d (j + 1) : Int) - 128
theorem first_C2 : ∀ c, c < 256 → 194 ≤ c → c ≤ 223 → firstT c % 8 = 2 ∧ accLo (firstT c / 16) = 128 ∧ accHi (firstT c / 16) = 191 := by decide +kernel
theorem first_E0 : ∀ c, c < 256 → 224 ≤ c → c ≤ 239 → firstT c % 8 = 3 ∧ accLo (firstT c / 16) = (if c = 224 then 160 else 128) ∧ accHi (firstT c / 16) = (if c = 237 then 159 else 191) := by decide +kernel
theorem first_F0 : ∀ c, c < 256 → 240 ≤ c → c ≤ 244 → firstT c % 8 = 4 ∧ accLo (firstT c / 16) = (if c = 240 then 144 else 128) ∧ accHi (firstT c / 16) = (if c = 244 then 143 else 191) := by decide +kernel
theorem first_no : ∀ c, c < 256 → (128 ≤ c ∧ c < 194) ∨ 245 ≤ c → firstT c % 8 = 1 := by decide +kernel
theorem utf_no (l : List UInt8) (hne : l ≠ []) (hc : (128 ≤ (l.getD 0 0).toNat ∧ (l.getD 0 0).toNat < 194) ∨ 245 ≤ (l.getD 0 0).toNat) : validD l = false := by
  rw [validD_lead l hne (by omega), first_no _ (l.getD 0 0).toNat_lt hc]
  rfl
theorem utf_all (l : List UInt8) (hne : l ≠ []) (n : Nat) (low v0 : Int) (hc : utfC (l.getD 0 0).toNat n low v0) :
    (¬ n < l.length → validD l = false) ∧ (∀ r, 1 ≤ r → r ≤ n → ((l.getD r 0).toNat < 128 ∨ 191 < (l.getD r 0).toNat) → validD l = false) ∧
    (n < l.length → (∀ r, 1 ≤ r → r ≤ n → 128 ≤ (l.getD r 0).toNat ∧ (l.getD r 0).toNat ≤ 191) →
      ((utfV v0 (fun r => (l.getD r 0).toNat) n < low ∨ 1114111 < utfV v0 (fun r => (l.getD r 0).toNat) n ∨ (55296 ≤ utfV v0 (fun r => (l.getD r 0).toNat) n ∧ utfV v0 (fun r => (l.getD r 0).toNat) n ≤ 57343)) → validD l = false) ∧
      (¬ (utfV v0 (fun r => (l.getD r 0).toNat) n < low ∨ 1114111 < utfV v0 (fun r => (l.getD r 0).toNat) n ∨ (55296 ≤ utfV v0 (fun r => (l.getD r 0).toNat) n ∧ utfV v0 (fun r => (l.getD r 0).toNat) n ≤ 57343)) → validD l = validD (l.drop (n + 1)))) := by
  have hlt := (l.getD 0 0).toNat_lt
  have hv := validD_lead l hne (by rcases hc with h | h | h <;> omega)
  rcases hc with ⟨h1, h2, rfl, rfl, rfl⟩ | ⟨h1, h2, rfl, rfl, rfl⟩ | ⟨h1, h2, rfl, rfl, rfl⟩
  · obtain ⟨e1, e2, e3⟩ := first_C2 _ hlt h1 h2
    rw [e1, e2, e3, checkN, if_pos rfl] at hv
    refine ⟨fun h => ?_, fun r r1 r2 r3 => ?_, fun h3 h4 => ⟨fun hF => ?_, fun hF => ?_⟩⟩
    · rw [if_pos (by omega)] at hv; exact hv
    · have hr : r = 1 := by omega
      rcases hr with rfl <;> (rw [if_pos (by omega)] at hv; exact hv)
    · have q1 := h4 1 (by omega) (by omega); simp only [utfV, Nat.zero_add, Nat.reduceAdd] at hF
      rw [if_pos (by omega)] at hv; exact hv
    · have q1 := h4 1 (by omega) (by omega); simp only [utfV, Nat.zero_add, Nat.reduceAdd] at hF
      rw [if_neg (by omega)] at hv; exact hv
  · obtain ⟨e1, e2, e3⟩ := first_E0 _ hlt h1 h2
    by_cases ca : (l.getD 0 0).toNat = 224
    · rw [if_pos ca] at e2
      rw [if_neg (by omega)] at e3
      rw [e1, e2, e3, checkN, if_neg (by decide), if_pos rfl] at hv
      refine ⟨fun h => ?_, fun r r1 r2 r3 => ?_, fun h3 h4 => ⟨fun hF => ?_, fun hF => ?_⟩⟩
      · rw [if_pos (by omega)] at hv; exact hv
      · have hr : r = 1 ∨ r = 2 := by omega
        rcases hr with rfl | rfl <;> (rw [if_pos (by omega)] at hv; exact hv)
      · have q1 := h4 1 (by omega) (by omega); have q2 := h4 2 (by omega) (by omega); simp only [utfV, Nat.zero_add, Nat.reduceAdd] at hF
        rw [if_pos (by omega)] at hv; exact hv
      · have q1 := h4 1 (by omega) (by omega); have q2 := h4 2 (by omega) (by omega); simp only [utfV, Nat.zero_add, Nat.reduceAdd] at hF
        rw [if_neg (by omega)] at hv; exact hv
    by_cases cb : (l.getD 0 0).toNat = 237
    · rw [if_neg ca] at e2
      rw [if_pos cb] at e3
      rw [e1, e2, e3, checkN, if_neg (by decide), if_pos rfl] at hv
      refine ⟨fun h => ?_, fun r r1 r2 r3 => ?_, fun h3 h4 => ⟨fun hF => ?_, fun hF => ?_⟩⟩
      · rw [if_pos (by omega)] at hv; exact hv
      · have hr : r = 1 ∨ r = 2 := by omega
        rcases hr with rfl | rfl <;> (rw [if_pos (by omega)] at hv; exact hv)
      · have q1 := h4 1 (by omega) (by omega); have q2 := h4 2 (by omega) (by omega); simp only [utfV, Nat.zero_add, Nat.reduceAdd] at hF
        rw [if_pos (by omega)] at hv; exact hv
      · have q1 := h4 1 (by omega) (by omega); have q2 := h4 2 (by omega) (by omega); simp only [utfV, Nat.zero_add, Nat.reduceAdd] at hF
        rw [if_neg (by omega)] at hv; exact hv
    · rw [if_neg ca] at e2
      rw [if_neg cb] at e3
      rw [e1, e2, e3, checkN, if_neg (by decide), if_pos rfl] at hv
      refine ⟨fun h => ?_, fun r r1 r2 r3 => ?_, fun h3 h4 => ⟨fun hF => ?_, fun hF => ?_⟩⟩
      · rw [if_pos (by omega)] at hv; exact hv
      · have hr : r = 1 ∨ r = 2 := by omega
        rcases hr with rfl | rfl <;> (rw [if_pos (by omega)] at hv; exact hv)
      · have q1 := h4 1 (by omega) (by omega); have q2 := h4 2 (by omega) (by omega); simp only [utfV, Nat.zero_add, Nat.reduceAdd] at hF
        rw [if_pos (by omega)] at hv; exact hv
      · have q1 := h4 1 (by omega) (by omega); have q2 := h4 2 (by omega) (by omega); simp only [utfV, Nat.zero_add, Nat.reduceAdd] at hF
        rw [if_neg (by omega)] at hv; exact hv
  · obtain ⟨e1, e2, e3⟩ := first_F0 _ hlt h1 h2
    by_cases ca : (l.getD 0 0).toNat = 240
    · rw [if_pos ca] at e2
      rw [if_neg (by omega)] at e3
      rw [e1, e2, e3, checkN, if_neg (by decide), if_neg (by decide), if_pos rfl] at hv
      refine ⟨fun h => ?_, fun r r1 r2 r3 => ?_, fun h3 h4 => ⟨fun hF => ?_, fun hF => ?_⟩⟩
      · rw [if_pos (by omega)] at hv; exact hv
      · have hr : r = 1 ∨ r = 2 ∨ r = 3 := by omega
        rcases hr with rfl | rfl | rfl <;> (rw [if_pos (by omega)] at hv; exact hv)
      · have q1 := h4 1 (by omega) (by omega); have q2 := h4 2 (by omega) (by omega); have q3 := h4 3 (by omega) (by omega); simp only [utfV, Nat.zero_add, Nat.reduceAdd] at hF
        rw [if_pos (by omega)] at hv; exact hv
      · have q1 := h4 1 (by omega) (by omega); have q2 := h4 2 (by omega) (by omega); have q3 := h4 3 (by omega) (by omega); simp only [utfV, Nat.zero_add, Nat.reduceAdd] at hF
        rw [if_neg (by omega)] at hv; exact hv
    by_cases cb : (l.getD 0 0).toNat = 244
    · rw [if_neg ca] at e2
      rw [if_pos cb] at e3
      rw [e1, e2, e3, checkN, if_neg (by decide), if_neg (by decide), if_pos rfl] at hv
      refine ⟨fun h => ?_, fun r r1 r2 r3 => ?_, fun h3 h4 => ⟨fun hF => ?_, fun hF => ?_⟩⟩
      · rw [if_pos (by omega)] at hv; exact hv
      · have hr : r = 1 ∨ r = 2 ∨ r = 3 := by omega
        rcases hr with rfl | rfl | rfl <;> (rw [if_pos (by omega)] at hv; exact hv)
      · have q1 := h4 1 (by omega) (by omega); have q2 := h4 2 (by omega) (by omega); have q3 := h4 3 (by omega) (by omega); simp only [utfV, Nat.zero_add, Nat.reduceAdd] at hF
        rw [if_pos (by omega)] at hv; exact hv
      · have q1 := h4 1 (by omega) (by omega); have q2 := h4 2 (by omega) (by omega); have q3 := h4 3 (by omega) (by omega); simp only [utfV, Nat.zero_add, Nat.reduceAdd] at hF
        rw [if_neg (by omega)] at hv; exact hv
    · rw [if_neg ca] at e2
      rw [if_neg cb] at e3
      rw [e1, e2, e3, checkN, if_neg (by decide), if_neg (by decide), if_pos rfl] at hv
      refine ⟨fun h => ?_, fun r r1 r2 r3 => ?_, fun h3 h4 => ⟨fun hF => ?_, fun hF => ?_⟩⟩
      · rw [if_pos (by omega)] at hv; exact hv
      · have hr : r = 1 ∨ r = 2 ∨ r = 3 := by omega
        rcases hr with rfl | rfl | rfl <;> (rw [if_pos (by omega)] at hv; exact hv)
      · have q1 := h4 1 (by omega) (by omega); have q2 := h4 2 (by omega) (by omega); have q3 := h4 3 (by omega) (by omega); simp only [utfV, Nat.zero_add, Nat.reduceAdd] at hF
        rw [if_pos (by omega)] at hv; exact hv
      · have q1 := h4 1 (by omega) (by omega); have q2 := h4 2 (by omega) (by omega); have q3 := h4 3 (by omega) (by omega); simp only [utfV, Nat.zero_add, Nat.reduceAdd] at hF
        rw [if_neg (by omega)] at hv; exact hv
end Go.Proofs.YtdkfgobbpadmgaaGreatDoor
