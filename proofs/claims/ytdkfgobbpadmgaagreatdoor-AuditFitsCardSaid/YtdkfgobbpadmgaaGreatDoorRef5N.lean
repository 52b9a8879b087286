/- Of no program's text: the document's way of reading an event's text, and that it comes to what parseN says. -/
import Derived.Test.YtdkfgobbpadmgaaGreatDoorCal4N
set_option linter.unusedVariables false
set_option linter.unusedSimpArgs false
namespace Go.Proofs.YtdkfgobbpadmgaaGreatDoor
open Go.RowKit
/-- a value, and what is left behind its mark -/
def rvalN : Nat → List UInt8 → List UInt8 → Option (List UInt8 × List UInt8)
  | 0, _, _ => none
  | _ + 1, [], _ => none
  | n + 1, c :: l, o =>
    if c == 34 then some (o, l)
    else if c == 93 then none
    else if escd c l then rvalN n l.tail (o ++ [l.headD 0])
    else rvalN n l (o ++ [c])
def rvalP (l : List UInt8) : Option (List UInt8 × List UInt8) := rvalN (l.length + 1) l []
/-- the parameters of an element, and what is left behind it -/
def rparN : Nat → List UInt8 → List Par → Option (List Par × List UInt8)
  | 0, _, _ => none
  | _ + 1, [], _ => none
  | n + 1, c :: l, ps =>
    if c == 32 then
      if pAny eqB l && Lib.hasPrefix (pFrom eqB l) eqMk then
        match rvalP ((pFrom eqB l).drop 2) with
        | none => none
        | some (v, r) => if r.isEmpty then none else rparN n r (ps ++ [(pTo eqB l, v)])
      else none
    else if c == 93 then some (ps, l) else none
def relN (l : List UInt8) : Option (PEl × List UInt8) :=
  if pAny spbB l then match rparN (l.length + 1) (pFrom spbB l) [] with
    | none => none
    | some (ps, r) => some ((pTo spbB l, ps), r)
  else none
def relsN : Nat → List UInt8 → List PEl → Option (List PEl × List UInt8)
  | 0, _, _ => none
  | n + 1, l, es => match relN (l.drop 1) with
    | none => none
    | some (x, r) => if Lib.hasPrefix r open8 then relsN n r (es ++ [x]) else some (es ++ [x], r)
def rdataN (l : List UInt8) : Option (List PEl × List UInt8) :=
  if Lib.hasPrefix l [45] then some ([], l.drop 1) else if Lib.hasPrefix l open8 then relsN (l.length + 1) l [] else none
def rtextN (l : List UInt8) : Option (List UInt8) :=
  if l.isEmpty then some []
  else if Lib.hasPrefix l blank8 then
    if Lib.hasPrefix (l.drop 1) bom8 then some (l.drop 4)
    else if (l.drop 1).isEmpty then none else some (l.drop 1)
  else none
def rheadN (cal : List UInt8 → Option (D8 × List UInt8)) (l : List UInt8) : Option (Bool × Int × List UInt8) :=
  if Lib.hasPrefix l dash8 then some (false, 0, l.drop 2)
  else match cal l with
    | none => none
    | some (x, r) => if Lib.hasPrefix r blank8 then some (true, x.nanos, r.drop 1) else none
def rwordsN : Nat → List UInt8 → List (List UInt8) → Option (List (List UInt8) × List UInt8)
  | 0, l, ws => some (ws, l)
  | n + 1, l, ws => if pAny spB l && !(pTo spB l).isEmpty then rwordsN n ((pFrom spB l).drop 1) (ws ++ [wordS l]) else none
noncomputable def rrestN (n : Nat) (q : Option (Bool × Int × List UInt8)) : Option PEv :=
  match q with
  | none => none
  | some (t, a, l2) => match rwordsN 4 l2 [] with
    | none => none
    | some (ws, l3) => match rdataN l3 with
      | none => none
      | some (es, l4) => match rtextN l4 with
        | none => none
        | some tx => if rightP ⟨n % 8, n / 8, t, a, ws.getD 0 [], ws.getD 1 [], ws.getD 2 [], ws.getD 3 [], es, tx⟩ = 0 then
            some ⟨n % 8, n / 8, t, a, ws.getD 0 [], ws.getD 1 [], ws.getD 2 [], ws.getD 3 [], es, tx⟩ else none
theorem valN_off : ∀ (n : Nat) (l o : List UInt8), (valN n l o false).2.2 = false
  | 0, _, _ => rfl
  | _ + 1, [], _ => rfl
  | n + 1, c :: l, o => by
    rw [valN]
    split
    · rfl
    · split
      · exact valN_off n _ _
      · split
        · exact valN_off n _ _
        · exact valN_off n _ _
theorem rval_val : ∀ (n : Nat) (l o : List UInt8), match rvalN n l o with
    | some (v, r) => valN n l o true = (v, r, true)
    | none => (valN n l o true).2.2 = false
  | 0, _, _ => rfl
  | _ + 1, [], _ => rfl
  | n + 1, c :: l, o => by
    rw [valN, rvalN]
    by_cases h1 : (c == 34) = true
    · rw [if_pos h1, if_pos h1]
    · rw [if_neg h1, if_neg h1]
      by_cases h2 : (c == 93) = true
      · rw [if_pos h2, if_pos h2]; exact valN_off n _ _
      · rw [if_neg h2, if_neg h2]
        by_cases h3 : escd c l = true
        · rw [if_pos h3, if_pos h3]; exact rval_val n _ _
        · rw [if_neg h3, if_neg h3]; exact rval_val n _ _
theorem rvalN_len : ∀ (n : Nat) (l o v r : List UInt8), rvalN n l o = some (v, r) → r.length < l.length ∧ v.length ≤ o.length + l.length
  | 0, _, _, _, _, h => by cases h
  | _ + 1, [], _, _, _, h => by cases h
  | n + 1, c :: l, o, v, r, h => by
    rw [rvalN] at h
    split at h
    · cases h; simp
    · split at h
      · cases h
      · split at h
        · have ht : l.tail.length ≤ l.length := by simp
          have := rvalN_len n _ _ _ _ h
          simp at this ⊢
          omega
        · have := rvalN_len n _ _ _ _ h
          simp at this ⊢
          omega
theorem rvalP_len {l v r : List UInt8} (h : rvalP l = some (v, r)) : r.length < l.length ∧ v.length ≤ l.length := by
  have := rvalN_len _ _ _ _ _ h
  simpa using this
theorem parN_off (n : Nat) (l : List UInt8) (ps : List Par) : (parN n l false ps).2.2 = false := by
  cases n with
  | zero => rfl
  | succ n => rw [parN, if_neg (by simp)]
theorem trim_drop {l m : List UInt8} (h : Lib.hasPrefix l m = true) : Lib.trimPrefix l m = l.drop m.length := by rw [Lib.trimPrefix, if_pos h]
theorem pFrom_le (p : UInt8 → Bool) (l : List UInt8) : (pFrom p l).length ≤ l.length := pFrom_len p l
theorem rpar_par : ∀ (n : Nat) (l : List UInt8) (ps : List Par), l.length < n → match rparN n l ps with
    | some (ps', r) => parN n l true ps = (ps', 93 :: r, true) ∧ r.length < l.length
    | none => ((parN n l true ps).2.2 && Lib.hasPrefix (parN n l true ps).2.1 [93]) = false
  | 0, l, ps, h => absurd h (by simp)
  | n + 1, [], ps, h => by simp [rparN, parN, has1_nil]
  | n + 1, c :: l, ps, h => by
    rw [rparN, parN, has1]
    by_cases h1 : c = 32
    · subst h1
      have ht : Lib.trimPrefix ((32 : UInt8) :: l) [32] = l := by rw [Lib.trimPrefix, has1]; simp
      simp only [beq_self_eq_true, Bool.true_and, if_true, ht]
      cases h2 : (pAny eqB l && Lib.hasPrefix (pFrom eqB l) eqMk) with
      | false =>
        have hv := valN_off ((Lib.trimPrefix (pFrom eqB l) eqMk).length + 1) (Lib.trimPrefix (pFrom eqB l) eqMk) []
        simp only [Bool.false_eq_true, if_false]
        rw [valP]
        generalize valN ((Lib.trimPrefix (pFrom eqB l) eqMk).length + 1) (Lib.trimPrefix (pFrom eqB l) eqMk) [] false = q at hv ⊢
        obtain ⟨v, r, k⟩ := q
        dsimp only at hv ⊢
        subst hv
        rw [parN_off]
        rfl
      | true =>
        simp only [if_true]
        have hp : Lib.hasPrefix (pFrom eqB l) eqMk = true := by simp only [Bool.and_eq_true] at h2; exact h2.2
        rw [trim_drop hp]
        have hl := pFrom_le eqB l
        have hv := rval_val (((pFrom eqB l).drop 2).length + 1) ((pFrom eqB l).drop 2) []
        rw [show eqMk.length = 2 by rfl, valP, rvalP]
        cases hr : rvalN (((pFrom eqB l).drop 2).length + 1) ((pFrom eqB l).drop 2) [] with
        | none =>
          rw [hr] at hv
          dsimp only at hv ⊢
          generalize valN (((pFrom eqB l).drop 2).length + 1) ((pFrom eqB l).drop 2) [] true = q at hv ⊢
          obtain ⟨v, r, k⟩ := q
          dsimp only at hv ⊢
          subst hv
          rw [parN_off]
          rfl
        | some q =>
          obtain ⟨v, r⟩ := q
          rw [hr] at hv
          dsimp only at hv ⊢
          rw [hv]
          dsimp only
          have hlen := rvalN_len _ _ _ _ _ hr
          have hd : ((pFrom eqB l).drop 2).length ≤ l.length := by rw [List.length_drop]; omega
          simp at h
          cases r with
          | nil =>
            simp only [List.isEmpty_nil, if_true]
            have := rpar_par n [] (ps ++ [(pTo eqB l, v)]) (by simp; omega)
            cases n with
            | zero => omega
            | succ n =>
              rw [rparN] at this
              exact this
          | cons d r =>
            simp only [List.isEmpty_cons, Bool.false_eq_true, if_false]
            have := rpar_par n (d :: r) (ps ++ [(pTo eqB l, v)]) (by omega)
            split
            · rename_i ps' r' he
              rw [he] at this
              exact ⟨this.1, by simp at this hlen ⊢; omega⟩
            · rename_i he
              rw [he] at this
              exact this
    · have hb : (c == 32) = false := by simpa using h1
      have hb' : ((32 : UInt8) == c) = false := by simpa using fun e => h1 e.symm
      simp only [hb, hb', Bool.and_false, Bool.false_eq_true, if_false]
      by_cases h2 : c = 93
      · subst h2
        simp
      · have hc : (c == 93) = false := by simpa using h2
        have hc' : ((93 : UInt8) == c) = false := by simpa using fun e => h2 e.symm
        simp only [hc, Bool.false_eq_true, if_false]
        rw [has1, hc']
        rfl
theorem rel_elem (l : List UInt8) : match relN l with
    | some (x, r) => x.1 = elemN l ∧ elemR l true = (x.2, 93 :: r, true) ∧ r.length < l.length
    | none => ((elemR l true).2.2 && Lib.hasPrefix (elemR l true).2.1 [93]) = false := by
  unfold relN elemR
  cases ha : pAny spbB l with
  | false =>
    simp only [Bool.false_eq_true, if_false, Bool.and_false]
    rw [parN_off]
    rfl
  | true =>
    simp only [if_true, Bool.and_true]
    have hl := pFrom_le spbB l
    have := rpar_par (l.length + 1) (pFrom spbB l) [] (by omega)
    cases hr : rparN (l.length + 1) (pFrom spbB l) [] with
    | none =>
      rw [hr] at this
      exact this
    | some q =>
      obtain ⟨ps, r⟩ := q
      rw [hr] at this
      exact ⟨rfl, this.1, by have := this.2; omega⟩
theorem elsN_off (n : Nat) (f : Bool) (l : List UInt8) (es : List PEl) : (elsN n f l false es).2.2 = false := by
  cases n with
  | zero => rfl
  | succ n => rw [elsN, if_neg (by simp)]
theorem rels_els : ∀ (n : Nat) (l : List UInt8) (es : List PEl) (f : Bool), l.length < n → Lib.hasPrefix l open8 = true → match relsN n l es with
    | some (es', r) => elsN (n + 1) f l true es = (es', r, true)
    | none => (elsN (n + 1) f l true es).2.2 = false
  | 0, l, es, f, h, hp => absurd h (by simp)
  | n + 1, l, es, f, h, hp => by
    rw [elsN, relsN, hp]
    simp only [Bool.or_true, Bool.and_true, if_true]
    rw [trim_drop hp, show open8.length = 1 by rfl]
    have := rel_elem (l.drop 1)
    cases hr : relN (l.drop 1) with
    | none =>
      rw [hr] at this
      dsimp only at this ⊢
      rw [this]
      exact elsN_off _ _ _ _
    | some q =>
      obtain ⟨x, r⟩ := q
      rw [hr] at this
      obtain ⟨t1, t2, t3⟩ := this
      rw [t2]
      have ht : Lib.trimPrefix ((93 : UInt8) :: r) [93] = r := by rw [Lib.trimPrefix, has1]; simp
      dsimp only
      rw [ht, has1, ← t1]
      simp only [beq_self_eq_true, Bool.and_true]
      rw [List.length_drop] at t3
      cases ho : Lib.hasPrefix r open8 with
      | true =>
        simp only [if_true]
        exact rels_els n r _ false (by omega) ho
      | false =>
        simp only [Bool.false_eq_true, if_false]
        rw [elsN, if_neg (by rw [ho]; simp)]
theorem rdata_data (l : List UInt8) : match rdataN l with
    | some (es, r) => dataN l = (es, r, true)
    | none => (dataN l).2.2 = false := by
  unfold rdataN dataN
  cases h1 : Lib.hasPrefix l [45] with
  | true => simp only [if_true]; rw [trim_drop h1]; rfl
  | false =>
    simp only [Bool.false_eq_true, if_false]
    cases h2 : Lib.hasPrefix l open8 with
    | true =>
      simp only [if_true]
      exact rels_els (l.length + 1) l [] true (by omega) h2
    | false =>
      simp only [Bool.false_eq_true, if_false]
      rw [elsN, if_pos (by simp), if_neg (by rw [h2]; simp)]
      exact elsN_off _ _ _ _
theorem rtext_text (l : List UInt8) : match rtextN l with
    | some tx => textN l true = some (tx, true)
    | none => textN l true = none ∨ ∃ tx, textN l true = some (tx, false) := by
  unfold rtextN textN
  cases h0 : l.isEmpty with
  | true => simp
  | false =>
    simp only [Bool.false_eq_true, if_false, Bool.not_false, Bool.and_true, if_true]
    cases h1 : Lib.hasPrefix l blank8 with
    | false =>
      simp only [Bool.false_eq_true, if_false]
      split
      · exact .inl rfl
      · exact .inr ⟨_, rfl⟩
    | true =>
      simp only [if_true]
      rw [trim_drop h1, show blank8.length = 1 by rfl]
      cases h2 : Lib.hasPrefix (l.drop 1) bom8 with
      | true =>
        rw [trim_drop h2]
        simp [List.drop_drop, bom8]
      | false =>
        have ht : Lib.trimPrefix (l.drop 1) bom8 = l.drop 1 := by rw [Lib.trimPrefix, h2]; rfl
        rw [ht]
        cases h3 : (l.drop 1).isEmpty with
        | true => simp
        | false => simp
theorem textN_off (l : List UInt8) : textN l false = some ([], false) := by simp [textN]
theorem word_from {l : List UInt8} (h : pAny spB l = true) : ∃ r, pFrom spB l = 32 :: r := by
  unfold pFrom
  have h' : l.any spB = true := h
  rw [if_pos h']
  clear h
  induction l with
  | nil => simp at h'
  | cons c l ih =>
    rw [List.dropWhile_cons]
    by_cases hc : spB c = true
    · have : c = 32 := by simpa [spB] using hc
      rw [if_neg (by simp [hc])]
      exact ⟨l, by rw [this]⟩
    · rw [if_pos (by simp [hc])]
      have : l.any spB = true := by simpa [hc] using h'
      exact ih this
theorem rwords_words : ∀ (n : Nat) (l : List UInt8) (ws : List (List UInt8)), wordsN n l true ws = rwordsN n l ws
  | 0, _, _ => rfl
  | n + 1, l, ws => by
    rw [wordsN, rwordsN, wordK, Bool.true_and]
    cases ha : pAny spB l with
    | false => simp
    | true =>
      obtain ⟨r, hr⟩ := word_from ha
      have hh : Lib.hasPrefix (pFrom spB l) blank8 = true := by rw [hr]; exact (has1 32 r 32).trans (by simp)
      rw [hh, wordL, trim_drop hh, show blank8.length = 1 by rfl]
      simp only [Bool.true_and]
      split
      · exact rwords_words n _ _
      · rfl
theorem wordsN_off (n : Nat) (l : List UInt8) (ws : List (List UInt8)) : wordsN (n + 1) l false ws = none := by rw [wordsN, if_neg (by simp)]
theorem rest_eq (n : Nat) (cal : List UInt8 → Option (D8 × List UInt8)) (l : List UInt8) : rrestN n (rheadN cal l) = restN n (headN cal l) := by
  have main : ∀ (t : Bool) (a : Int) (l2 : List UInt8), rrestN n (some (t, a, l2)) = restN n (some (t, a, l2, true)) := by
    intro t a l2
    unfold rrestN restN
    dsimp only
    rw [rwords_words]
    cases rwordsN 4 l2 [] with
    | none => rfl
    | some q =>
      obtain ⟨ws, l3⟩ := q
      dsimp only
      have hd := rdata_data l3
      cases hr : rdataN l3 with
      | none =>
        rw [hr] at hd
        dsimp only at hd ⊢
        rw [hd, textN_off]
        dsimp only
        rw [if_neg (by simp)]
      | some q =>
        obtain ⟨es, l4⟩ := q
        rw [hr] at hd
        dsimp only at hd ⊢
        rw [hd]
        dsimp only
        have ht := rtext_text l4
        cases hx : rtextN l4 with
        | none =>
          rw [hx] at ht
          rcases ht with ht | ⟨tx, ht⟩
          · rw [ht]
          · rw [ht]
            dsimp only
            rw [if_neg (by simp)]
        | some tx =>
          rw [hx] at ht
          dsimp only at ht ⊢
          rw [ht]
          dsimp only
          simp only [true_and]
  unfold rheadN headN
  cases h1 : Lib.hasPrefix l dash8 with
  | true =>
    simp only [if_true]
    rw [trim_drop h1]
    exact main _ _ _
  | false =>
    simp only [Bool.false_eq_true, if_false]
    cases cal l with
    | none => rfl
    | some q =>
      obtain ⟨x, r⟩ := q
      dsimp only
      cases h2 : Lib.hasPrefix r blank8 with
      | true =>
        simp only [if_true]
        rw [trim_drop h2]
        exact main _ _ _
      | false =>
        simp only [Bool.false_eq_true, if_false]
        have hT : Lib.trimPrefix r blank8 = r := by rw [Lib.trimPrefix, h2]; rfl
        unfold rrestN restN
        dsimp only
        rw [wordsN_off 3]
/-- the number ahead of an event's text, by its figures -/
def numP (s : List UInt8) : Option Nat := if 1 ≤ s.length ∧ s.length ≤ 3 ∧ s.all isDig = true ∧ numN s ≤ 191 ∧ Lib.itoa (numN s) = s then some (numN s).toNat else none
theorem itoa_at : ((List.range 192).all fun n => (decide (1 ≤ (Lib.itoa (n : Int)).length) && decide ((Lib.itoa (n : Int)).length ≤ 3) && (Lib.itoa (n : Int)).all isDig && decide (numN (Lib.itoa (n : Int)) = (n : Int))) && decide (Lib.atoiAll (Lib.itoa (n : Int)) = .ok (n : Int))) = true := by kernel_rfl
theorem numN_nonneg : ∀ (l : List UInt8), l.all isDig = true → 0 ≤ numN l := by
  intro l
  have : ∀ (l : List UInt8) (a : Int), 0 ≤ a → l.all isDig = true → 0 ≤ l.foldl (fun n c => 10 * n + ((c.toNat : Int) - 48)) a := by
    intro l
    induction l with
    | nil => intro a ha _; exact ha
    | cons c l ih =>
      intro a ha h
      simp only [List.all_cons, Bool.and_eq_true] at h
      have := of_decide_eq_true h.1
      exact ih _ (by show (0 : Int) ≤ 10 * a + ((c.toNat : Int) - 48); omega) h.2
  exact this l 0 (by omega)
theorem numP_eq (s : List UInt8) : priNum s = numP s := by
  have fact : ∀ n : Nat, n < 192 → (1 ≤ (Lib.itoa (n : Int)).length ∧ (Lib.itoa (n : Int)).length ≤ 3 ∧ (Lib.itoa (n : Int)).all isDig = true ∧ numN (Lib.itoa (n : Int)) = (n : Int)) ∧ Lib.atoiAll (Lib.itoa (n : Int)) = .ok (n : Int) := by
    intro n hn
    have := List.all_eq_true.1 itoa_at n (List.mem_range.2 hn)
    simp only [Bool.and_eq_true, decide_eq_true_eq] at this
    exact ⟨⟨this.1.1.1.1, this.1.1.1.2, this.1.1.2, this.1.2⟩, this.2⟩
  unfold numP
  by_cases h : 1 ≤ s.length ∧ s.length ≤ 3 ∧ s.all isDig = true ∧ numN s ≤ 191 ∧ Lib.itoa (numN s) = s
  · rw [if_pos h]
    obtain ⟨h1, h2, h3, h4, h5⟩ := h
    have h0 := numN_nonneg s h3
    obtain ⟨n, hn⟩ : ∃ n : Nat, numN s = (n : Int) := ⟨(numN s).toNat, by omega⟩
    rw [hn] at h4 h5 ⊢
    have f := fact n (by omega)
    rw [h5] at f
    rw [priNum, f.2]
    dsimp only
    rw [if_pos ⟨by omega, h4, h5⟩]
  · rw [if_neg h]
    unfold priNum
    split
    · rename_i v hv
      by_cases hc : 0 ≤ v ∧ v ≤ 191 ∧ Lib.itoa v = s
      · exfalso
        obtain ⟨c1, c2, c3⟩ := hc
        obtain ⟨n, rfl⟩ : ∃ n : Nat, v = (n : Int) := ⟨v.toNat, by omega⟩
        have f := (fact n (by omega)).1
        rw [c3] at f
        exact h ⟨f.1, f.2.1, f.2.2.1, by rw [f.2.2.2]; exact c2, by rw [f.2.2.2]; exact c3⟩
      · rw [if_neg hc]
    · rfl
/-- What the document's Parse answers. -/
noncomputable def refN (cal : List UInt8 → Option (D8 × List UInt8)) (l : List UInt8) : Option PEv :=
  if priK l = true then
    match numP (priS l) with
    | none => none
    | some n => rrestN n (rheadN cal (priL l))
  else none
theorem refN_eq (cal : List UInt8 → Option (D8 × List UInt8)) (l : List UInt8) : refN cal l = parseN cal l := by
  unfold refN
  by_cases hk : priK l = true
  · rw [if_pos hk, ← numP_eq]
    cases hn : priNum (priS l) with
    | none => exact (parse_no1 (by rw [hk, hn]; rfl)).symm
    | some n =>
      dsimp only
      rw [parse_at hk hn, rest_eq]
  · rw [if_neg hk]
    have : priK l = false := by simpa using hk
    exact (parse_no1 (by rw [this]; rfl)).symm
end Go.Proofs.YtdkfgobbpadmgaaGreatDoor
