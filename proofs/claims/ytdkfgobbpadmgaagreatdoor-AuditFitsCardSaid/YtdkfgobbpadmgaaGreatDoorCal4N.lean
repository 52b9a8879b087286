/- Of no program's text: a date's text read by places (as the document's answer does), and that it comes to what calD says. -/
import Derived.Test.YtdkfgobbpadmgaaGreatDoorCalPlain
set_option linter.unusedVariables false
set_option linter.unusedSimpArgs false
namespace Go.Proofs.YtdkfgobbpadmgaaGreatDoor
open Go.RowKit
def numI (l : List UInt8) (p k : Nat) : Int := if p + k ≤ l.length ∧ ((l.drop p).take k).all isDig = true then numN ((l.drop p).take k) else -1
def isAt (l : List UInt8) (p : Nat) (c : UInt8) : Bool := Lib.hasPrefix (l.drop p) [c]
def marks4 (l : List UInt8) : Bool := isAt l 4 45 && isAt l 7 45 && isAt l 10 84 && isAt l 13 58 && isAt l 16 58
def frac4 (l : List UInt8) : Option (Int × List UInt8) :=
  if Lib.hasPrefix l [46] then (if numI (l.drop 1) 0 1 < 0 then none else some (fracN 6 0 (l.drop 1))) else some (0, l)
def zone4 (l : List UInt8) : Option (Int × List UInt8) :=
  if Lib.hasPrefix l [90] then some (0, l.drop 1)
  else if (Lib.hasPrefix l [43] || Lib.hasPrefix l [45]) && isAt l 3 58 && inB (numI l 1 2) 0 23 && inB (numI l 4 2) 0 59 then
    some ((if Lib.hasPrefix l [45] then -(60 * numI l 1 2 + numI l 4 2) else 60 * numI l 1 2 + numI l 4 2), l.drop 6)
  else none
def date4 (l : List UInt8) (n z : Int) : D8 := ⟨numI l 0 4, numI l 5 2, numI l 8 2, numI l 11 2, numI l 14 2, numI l 17 2, n, z⟩
/-- What the document's Parse of dates answers, by places. -/
def cal4 (l : List UInt8) : Option (D8 × List UInt8) :=
  if marks4 l then match frac4 (l.drop 19) with
    | none => none
    | some (n, r) => match zone4 r with
      | none => none
      | some (z, r2) => endD (date4 l n z) r2 true
  else none
theorem has1 (c : UInt8) (l : List UInt8) (d : UInt8) : Lib.hasPrefix (d :: l) [c] = (c == d) := by simp [Lib.hasPrefix, List.isPrefixOf]
theorem has1_nil (c : UInt8) : Lib.hasPrefix [] [c] = false := by simp [Lib.hasPrefix]
theorem has1_ex {c : UInt8} {l : List UInt8} (h : Lib.hasPrefix l [c] = true) : ∃ r, l = c :: r := by
  cases l with
  | nil => rw [has1_nil] at h; cases h
  | cons d r =>
    rw [has1] at h
    have : c = d := by simpa using h
    exact ⟨r, by rw [this]⟩
theorem trim1 {c : UInt8} {l : List UInt8} (h : Lib.hasPrefix l [c] = true) : Lib.trimPrefix l [c] = l.drop 1 := by rw [Lib.trimPrefix, if_pos h]; rfl
theorem trim1_at {c : UInt8} {l : List UInt8} {p : Nat} (h : isAt l p c = true) : Lib.trimPrefix (l.drop p) [c] = l.drop (p + 1) := by
  rw [trim1 h, List.drop_drop]
theorem numI_bd (l : List UInt8) (p k : Nat) (hk : k ≤ 4) : -1 ≤ numI l p k ∧ numI l p k ≤ 9999 := by
  unfold numI
  split
  · rename_i h
    have := numN_bd 4 ((l.drop p).take k) (by rw [List.length_take]; omega) (by omega) h.2
    omega
  · omega
theorem numI_cond {l : List UInt8} {p k : Nat} (hk : k ≤ 4) (h : 0 ≤ numI l p k) : p + k ≤ l.length ∧ ((l.drop p).take k).all isDig = true := by
  unfold numI at h
  split at h
  · assumption
  · omega
theorem tk_yes {l : List UInt8} {p k : Nat} (ok : Bool) (hk : k ≤ 4) (h : 0 ≤ numI l p k) : tkN k (l.drop p) ok = (numI l p k, l.drop (p + k), ok) := by
  have hc := numI_cond hk h
  rw [tkN, if_pos ⟨by rw [List.length_drop]; omega, hc.2⟩, numI, if_pos hc, List.drop_drop]
theorem tk_no {l : List UInt8} {p k : Nat} (ok : Bool) (hk : 1 ≤ k) (hk4 : k ≤ 4) (h : numI l p k < 0) : tkN k (l.drop p) ok = (0, l.drop p, false) := by
  rw [tkN, if_neg]
  rintro ⟨h1, h2⟩
  rw [List.length_drop] at h1
  rw [numI, if_pos ⟨by omega, h2⟩] at h
  have := numN_bd 4 ((l.drop p).take k) (by rw [List.length_take]; omega) (by omega) h2
  omega
theorem tk_off (k : Nat) (l : List UInt8) : (tkN k l false).2.2 = false := by
  unfold tkN; split <;> rfl
theorem step_yes {l : List UInt8} {p : Nat} {c : UInt8} (h : isAt l p c = true) (h2 : 0 ≤ numI l (p + 1) 2) :
    tkN 2 (Lib.trimPrefix (l.drop p) [c]) (Lib.hasPrefix (l.drop p) [c] && true) = (numI l (p + 1) 2, l.drop (p + 3), true) := by
  have h' : Lib.hasPrefix (l.drop p) [c] = true := h
  rw [trim1_at h, h', tk_yes _ (by omega) h2]
  rfl
theorem step_no {l : List UInt8} {p : Nat} {c : UInt8} (h : isAt l p c = false ∨ numI l (p + 1) 2 < 0) :
    (tkN 2 (Lib.trimPrefix (l.drop p) [c]) (Lib.hasPrefix (l.drop p) [c] && true)).2.2 = false := by
  cases hp : isAt l p c with
  | false =>
    have h' : Lib.hasPrefix (l.drop p) [c] = false := hp
    rw [h']
    exact tk_off _ _
  | true =>
    rcases h with h | h
    · rw [hp] at h; cases h
    · rw [trim1_at hp, tk_no _ (by omega) (by omega) h]
theorem step_off (l : List UInt8) (c : UInt8) : (tkN 2 (Lib.trimPrefix l [c]) (Lib.hasPrefix l [c] && false)).2.2 = false := by
  rw [Bool.and_false]; exact tk_off _ _
theorem head_off {l l1 l2 l3 l4 l5 l6 : List UInt8} {k1 k2 k3 k4 k5 k6 : Bool} {y m d h mi s : Int} (e1 : tkN 4 l true = (y, l1, k1)) (e2 : tkN 2 (Lib.trimPrefix l1 [45]) (Lib.hasPrefix l1 [45] && k1) = (m, l2, k2))
    (e3 : tkN 2 (Lib.trimPrefix l2 [45]) (Lib.hasPrefix l2 [45] && k2) = (d, l3, k3)) (e4 : tkN 2 (Lib.trimPrefix l3 [84]) (Lib.hasPrefix l3 [84] && k3) = (h, l4, k4))
    (e5 : tkN 2 (Lib.trimPrefix l4 [58]) (Lib.hasPrefix l4 [58] && k4) = (mi, l5, k5)) (e6 : tkN 2 (Lib.trimPrefix l5 [58]) (Lib.hasPrefix l5 [58] && k5) = (s, l6, k6))
    (hk : k1 = false ∨ k2 = false ∨ k3 = false ∨ k4 = false ∨ k5 = false ∨ k6 = false) : k6 = false := by
  have f2 : k1 = false → k2 = false := fun hf => by have := step_off l1 45; rw [hf] at e2; rw [e2] at this; exact this
  have f3 : k2 = false → k3 = false := fun hf => by have := step_off l2 45; rw [hf] at e3; rw [e3] at this; exact this
  have f4 : k3 = false → k4 = false := fun hf => by have := step_off l3 84; rw [hf] at e4; rw [e4] at this; exact this
  have f5 : k4 = false → k5 = false := fun hf => by have := step_off l4 58; rw [hf] at e5; rw [e5] at this; exact this
  have f6 : k5 = false → k6 = false := fun hf => by have := step_off l5 58; rw [hf] at e6; rw [e6] at this; exact this
  rcases hk with hk | hk | hk | hk | hk | hk
  · exact f6 (f5 (f4 (f3 (f2 hk))))
  · exact f6 (f5 (f4 (f3 hk)))
  · exact f6 (f5 (f4 hk))
  · exact f6 (f5 hk)
  · exact f6 hk
  · exact hk
/-- all is so in the head of a date's text -/
def headOk (l : List UInt8) : Prop := 0 ≤ numI l 0 4 ∧ (isAt l 4 45 = true ∧ 0 ≤ numI l 5 2) ∧ (isAt l 7 45 = true ∧ 0 ≤ numI l 8 2) ∧ (isAt l 10 84 = true ∧ 0 ≤ numI l 11 2) ∧ (isAt l 13 58 = true ∧ 0 ≤ numI l 14 2) ∧ (isAt l 16 58 = true ∧ 0 ≤ numI l 17 2)
theorem headD_yes {l : List UInt8} (h : headOk l) : headD l = (date4 l 0 0, l.drop 19, true) := by
  obtain ⟨a, ⟨b1, b2⟩, ⟨c1, c2⟩, ⟨d1, d2⟩, ⟨e1, e2⟩, f1, f2⟩ := h
  exact headD_at (tk_yes (p := 0) true (by omega) a) (step_yes b1 b2) (step_yes c1 c2) (step_yes d1 d2) (step_yes e1 e2) (step_yes f1 f2)
theorem not_and' {b : Bool} {n : Int} (h : ¬ (b = true ∧ 0 ≤ n)) : b = false ∨ n < 0 := by
  cases b with
  | false => exact .inl rfl
  | true => exact .inr (by have : ¬ 0 ≤ n := fun hn => h ⟨rfl, hn⟩; omega)
theorem headD_no {l : List UInt8} (hn : ¬ headOk l) : (headD l).2.2 = false := by
  obtain ⟨y, l1, k1, e1⟩ : ∃ y l1 k1, tkN 4 l true = (y, l1, k1) := ⟨_, _, _, rfl⟩
  obtain ⟨m, l2, k2, e2⟩ : ∃ y l2 k2, tkN 2 (Lib.trimPrefix l1 [45]) (Lib.hasPrefix l1 [45] && k1) = (y, l2, k2) := ⟨_, _, _, rfl⟩
  obtain ⟨d, l3, k3, e3⟩ : ∃ y l3 k3, tkN 2 (Lib.trimPrefix l2 [45]) (Lib.hasPrefix l2 [45] && k2) = (y, l3, k3) := ⟨_, _, _, rfl⟩
  obtain ⟨h, l4, k4, e4⟩ : ∃ y l4 k4, tkN 2 (Lib.trimPrefix l3 [84]) (Lib.hasPrefix l3 [84] && k3) = (y, l4, k4) := ⟨_, _, _, rfl⟩
  obtain ⟨mi, l5, k5, e5⟩ : ∃ y l5 k5, tkN 2 (Lib.trimPrefix l4 [58]) (Lib.hasPrefix l4 [58] && k4) = (y, l5, k5) := ⟨_, _, _, rfl⟩
  obtain ⟨s, l6, k6, e6⟩ : ∃ y l6 k6, tkN 2 (Lib.trimPrefix l5 [58]) (Lib.hasPrefix l5 [58] && k5) = (y, l6, k6) := ⟨_, _, _, rfl⟩
  rw [headD_at e1 e2 e3 e4 e5 e6]
  show k6 = false
  have off := head_off e1 e2 e3 e4 e5 e6
  by_cases a : 0 ≤ numI l 0 4
  · have q1 := e1.symm.trans (tk_yes (p := 0) true (by omega) a)
    rw [show 0 + 4 = 4 by rfl] at q1
    cases q1
    by_cases b : isAt l 4 45 = true ∧ 0 ≤ numI l 5 2
    · have q2 := e2.symm.trans (step_yes (p := 4) b.1 b.2)
      cases q2
      by_cases c : isAt l 7 45 = true ∧ 0 ≤ numI l 8 2
      · have q3 := e3.symm.trans (step_yes (p := 7) c.1 c.2)
        cases q3
        by_cases dd : isAt l 10 84 = true ∧ 0 ≤ numI l 11 2
        · have q4 := e4.symm.trans (step_yes (p := 10) dd.1 dd.2)
          cases q4
          by_cases ee : isAt l 13 58 = true ∧ 0 ≤ numI l 14 2
          · have q5 := e5.symm.trans (step_yes (p := 13) ee.1 ee.2)
            cases q5
            have ff : ¬ (isAt l 16 58 = true ∧ 0 ≤ numI l 17 2) := fun ff => hn ⟨a, b, c, dd, ee, ff⟩
            have := step_no (p := 16) (not_and' ff)
            rw [e6] at this
            exact this
          · have := step_no (p := 13) (not_and' ee)
            rw [e5] at this
            exact off (.inr (.inr (.inr (.inr (.inl this)))))
        · have := step_no (p := 10) (not_and' dd)
          rw [e4] at this
          exact off (.inr (.inr (.inr (.inl this))))
      · have := step_no (p := 7) (not_and' c)
        rw [e3] at this
        exact off (.inr (.inr (.inl this)))
    · have := step_no (p := 4) (not_and' b)
      rw [e2] at this
      exact off (.inr (.inl this))
  · have := tk_no (l := l) (p := 0) (k := 4) true (by omega) (by omega) (by omega)
    rw [List.drop_zero, e1] at this
    cases this
    exact off (.inl rfl)
theorem frac_eq (l : List UInt8) : frac4 l = if (fracD l).2.2 = true then some ((fracD l).1, (fracD l).2.1) else none := by
  unfold frac4 fracD
  cases hp : Lib.hasPrefix l [46] with
  | false => simp
  | true =>
    obtain ⟨r, rfl⟩ := has1_ex hp
    rw [if_pos rfl, if_pos rfl, trim1 hp, List.drop_succ_cons, List.drop_zero]
    cases r with
    | nil => simp [tkN, numI]
    | cons c t =>
      by_cases hd : isDig c = true
      · rw [tk_one c t true hd]
        have : ¬ numI (c :: t) 0 1 < 0 := by
          rw [numI, if_pos ⟨by simp, by simp [hd]⟩]
          have := of_decide_eq_true hd
          simp [numN]
          omega
        rw [if_neg this, fracN, if_pos hd]
        simp
      · have h1 : numI (c :: t) 0 1 = -1 := by rw [numI, if_neg (fun h => hd (by simpa using h.2))]
        have h2 : tkN 1 (c :: t) true = (0, c :: t, false) := by rw [tkN, if_neg (fun h => hd (by simpa using h.2))]
        rw [h1, h2]
        simp
theorem zoneT_off (sg : Int) (l : List UInt8) (X : Int → D8) : (match zoneT sg l false with | none => none | some (z, r2, k2) => endD (X z) r2 k2) = none := by
  unfold zoneT
  have h1 := tk_off 2 l
  generalize tkN 2 l false = q at h1 ⊢
  obtain ⟨h, r, k⟩ := q
  dsimp only at h1 ⊢
  subst h1
  have h2 := tk_off 2 (Lib.trimPrefix r [58])
  rw [Bool.and_false]
  generalize tkN 2 (Lib.trimPrefix r [58]) false = q at h2 ⊢
  obtain ⟨m, r2, k2⟩ := q
  dsimp only at h2 ⊢
  subst h2
  split
  · rfl
  · rename_i h
    split at h
    · cases h
    · cases h
      simp [endD]
theorem zoneD_off (l : List UInt8) (X : Int → D8) : (match zoneD l false with | none => none | some (z, r2, k2) => endD (X z) r2 k2) = none := by
  unfold zoneD
  cases hp : Lib.hasPrefix l [90] with
  | true => simp [endD]
  | false =>
    unfold signD
    cases hm : Lib.hasPrefix l [45] with
    | true =>
      have := zoneT_off (-1) (Lib.trimPrefix l [45]) X
      simpa using this
    | false =>
      have := zoneT_off 1 (Lib.trimPrefix l [43]) X
      simpa using this
theorem zoneT_on (sg : Int) (L : List UInt8) (X : Int → D8) : (match zoneT sg (L.drop 1) true with | none => none | some (z, r2, k2) => endD (X z) r2 k2) =
    if (isAt L 3 58 && inB (numI L 1 2) 0 23 && inB (numI L 4 2) 0 59) = true then endD (X (sg * (60 * numI L 1 2 + numI L 4 2))) (L.drop 6) true else none := by
  unfold zoneT
  by_cases a : 0 ≤ numI L 1 2
  · rw [tk_yes (p := 1) true (by omega) a]
    dsimp only
    by_cases b : isAt L 3 58 = true ∧ 0 ≤ numI L 4 2
    · have hs := step_yes (p := 3) b.1 b.2
      rw [show 1 + 2 = 3 by rfl, hs]
      dsimp only
      rw [b.1]
      by_cases hb : 23 < numI L 1 2 ∨ 59 < numI L 4 2
      · rw [if_pos hb, if_neg]
        simp only [inB, Bool.true_and, Bool.and_eq_true, decide_eq_true_eq]
        omega
      · rw [if_neg hb, if_pos]
        simp only [inB, Bool.true_and, Bool.and_eq_true, decide_eq_true_eq]
        omega
    · have hs := step_no (p := 3) (not_and' b)
      rw [show 1 + 2 = 3 by rfl]
      generalize tkN 2 (Lib.trimPrefix (L.drop 3) [58]) (Lib.hasPrefix (L.drop 3) [58] && true) = q at hs ⊢
      obtain ⟨m, r2, k2⟩ := q
      dsimp only at hs ⊢
      subst hs
      rw [if_neg (c := (isAt L 3 58 && inB (numI L 1 2) 0 23 && inB (numI L 4 2) 0 59) = true)]
      · split
        · rfl
        · rename_i h
          split at h
          · cases h
          · cases h
            simp [endD]
      · simp only [inB, Bool.and_eq_true, decide_eq_true_eq]
        rintro ⟨⟨c1, c2⟩, c3⟩
        exact b ⟨c1, c3.1⟩
  · rw [tk_no (p := 1) true (by omega) (by omega) (by omega)]
    dsimp only
    have h2 := tk_off 2 (Lib.trimPrefix (L.drop 1) [58])
    rw [Bool.and_false]
    generalize tkN 2 (Lib.trimPrefix (L.drop 1) [58]) false = q at h2 ⊢
    obtain ⟨m, r2, k2⟩ := q
    dsimp only at h2 ⊢
    subst h2
    rw [if_neg (c := (isAt L 3 58 && inB (numI L 1 2) 0 23 && inB (numI L 4 2) 0 59) = true)]
    · split
      · rfl
      · rename_i h
        split at h
        · cases h
        · cases h
          simp [endD]
    · simp only [inB, Bool.and_eq_true, decide_eq_true_eq]
      rintro ⟨⟨c1, c2⟩, c3⟩
      exact a c2.1
theorem zone_eq (l : List UInt8) (X : Int → D8) : (match zoneD l true with | none => none | some (z, r2, k2) => endD (X z) r2 k2) = (match zone4 l with | none => none | some (z, r2) => endD (X z) r2 true) := by
  unfold zoneD zone4
  cases hz : Lib.hasPrefix l [90] with
  | true => simp [trim1 hz]
  | false =>
    unfold signD
    cases hm : Lib.hasPrefix l [45] with
    | true =>
      have h := zoneT_on (-1) l X
      simp only [Bool.false_eq_true, if_false, if_true, trim1 hm, Bool.or_true, Bool.true_and]
      rw [h]
      by_cases hc : (isAt l 3 58 && inB (numI l 1 2) 0 23 && inB (numI l 4 2) 0 59) = true
      · rw [if_pos hc, if_pos hc, show (-1 : Int) * (60 * numI l 1 2 + numI l 4 2) = -(60 * numI l 1 2 + numI l 4 2) by omega]
      · rw [if_neg hc, if_neg hc]
    | false =>
      cases hq : Lib.hasPrefix l [43] with
      | true =>
        have h := zoneT_on 1 l X
        simp only [Bool.false_eq_true, if_false, trim1 hq, Bool.or_false, Bool.true_and]
        rw [h]
        by_cases hc : (isAt l 3 58 && inB (numI l 1 2) 0 23 && inB (numI l 4 2) 0 59) = true
        · rw [if_pos hc, if_pos hc, Int.one_mul]
        · rw [if_neg hc, if_neg hc]
      | false =>
        have h := zoneT_off 1 (Lib.trimPrefix l [43]) X
        simp only [Bool.false_eq_true, if_false, Bool.or_self, Bool.false_and]
        rw [h]
theorem ok_parts {x : D8} (h : x.ok = true) : 0 ≤ x.y ∧ 0 ≤ x.m ∧ 0 ≤ x.d ∧ 0 ≤ x.h ∧ 0 ≤ x.mi ∧ 0 ≤ x.s := by
  obtain ⟨a, b, b2, c, c2, d, d2, r⟩ := right_parts h
  obtain ⟨e1, e2, e3, e4, e5, e6, e7⟩ := day_parts a
  omega
theorem cal4_eq (l : List UInt8) : calD l = cal4 l := by
  unfold calD cal4
  by_cases h : headOk l
  · rw [headD_yes h]
    have hm : marks4 l = true := by
      obtain ⟨a, ⟨b1, b2⟩, ⟨c1, c2⟩, ⟨d1, d2⟩, ⟨e1, e2⟩, f1, f2⟩ := h
      rw [marks4, b1, c1, d1, e1, f1]; rfl
    rw [hm]
    simp only [if_true]
    unfold tailD
    rw [frac_eq]
    generalize fracD (l.drop 19) = q
    obtain ⟨n, r, k⟩ := q
    cases k with
    | false =>
      simp only [Bool.false_eq_true, if_false]
      exact zoneD_off r _
    | true =>
      simp only [if_true]
      exact zone_eq r (fun z => date4 l n z)
  · have hk := headD_no h
    generalize headD l = q at hk ⊢
    obtain ⟨x, r, k⟩ := q
    dsimp only at hk ⊢
    subst hk
    simp only [Bool.false_eq_true, if_false]
    cases hm : marks4 l with
    | false => simp
    | true =>
      simp only [if_true]
      cases frac4 (l.drop 19) with
      | none => rfl
      | some q =>
        obtain ⟨n, r⟩ := q
        dsimp only
        cases zone4 r with
        | none => rfl
        | some q =>
          obtain ⟨z, r2⟩ := q
          dsimp only
          rw [endD, if_neg]
          rintro ⟨_, hx⟩
          obtain ⟨g1, g2, g3, g4, g5, g6⟩ := ok_parts hx
          have hm' := hm
          simp only [marks4, Bool.and_eq_true] at hm'
          obtain ⟨⟨⟨⟨m1, m2⟩, m3⟩, m4⟩, m5⟩ := hm'
          exact h ⟨g1, ⟨m1, g2⟩, ⟨m2, g3⟩, ⟨m3, g4⟩, ⟨m4, g5⟩, ⟨m5, g6⟩⟩
end Go.Proofs.YtdkfgobbpadmgaaGreatDoor
