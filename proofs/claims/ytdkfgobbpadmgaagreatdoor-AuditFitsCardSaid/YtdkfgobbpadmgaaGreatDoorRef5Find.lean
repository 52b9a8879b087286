/- Package tabularyref05: find, begins, decimal. -/
import Derived.Test.YtdkfgobbpadmgaaGreatDoorRef5N
import Derived.Laws.IdiomStrings
import Derived.Outline
set_option linter.unusedVariables false
set_option linter.unusedSimpArgs false
namespace Go.Proofs.YtdkfgobbpadmgaaGreatDoor
open Go.RowKit
def twoB (a b c : UInt8) : Bool := c == a || c == b
theorem twoB_gt : twoB 62 62 = gtB := by funext c; simp [twoB, gtB]
theorem twoB_sp : twoB 32 32 = spB := by funext c; simp [twoB, spB]
theorem twoB_eq : twoB 61 61 = eqB := by funext c; simp [twoB, eqB]
theorem twoB_spb : twoB 32 93 = spbB := by funext c; simp [twoB, spbB]
def findI (p : UInt8 → Bool) (l : List UInt8) (k : Nat) : Int := if pAny p (l.drop k) = true then ((k + (pTo p (l.drop k)).length : Nat) : Int) else -1
theorem findI_no {p : UInt8 → Bool} {l : List UInt8} {k : Nat} (h : pAny p (l.drop k) = false) : findI p l k = -1 := by rw [findI, h]; rfl
theorem findI_yes {p : UInt8 → Bool} {l : List UInt8} {k : Nat} (h : pAny p (l.drop k) = true) : findI p l k = ((k + (pTo p (l.drop k)).length : Nat) : Int) := by rw [findI, if_pos h]
theorem from_drop {p : UInt8 → Bool} (l : List UInt8) : pFrom p l = l.drop (pTo p l).length := by
  unfold pFrom pTo
  split
  · induction l with
    | nil => rfl
    | cons c l ih =>
      rename_i h
      rw [List.dropWhile_cons, List.takeWhile_cons]
      cases hc : p c with
      | true => simp
      | false =>
        have : l.any p = true := by simpa [hc] using h
        simpa using ih this
  · rfl
theorem from_head {p : UInt8 → Bool} {l : List UInt8} (h : pAny p l = true) : ∃ c r, pFrom p l = c :: r ∧ p c = true := by
  have h' : l.any p = true := h
  unfold pFrom
  rw [if_pos h']
  clear h
  induction l with
  | nil => simp at h'
  | cons c l ih =>
    rw [List.dropWhile_cons]
    by_cases hc : p c = true
    · rw [if_neg (by simp [hc])]
      exact ⟨c, l, rfl, hc⟩
    · rw [if_pos (by simp [hc])]
      exact ih (by simpa [hc] using h')
theorem to_lt {p : UInt8 → Bool} {l : List UInt8} (h : pAny p l = true) : (pTo p l).length < l.length := by
  obtain ⟨c, r, hf, _⟩ := from_head h
  rw [from_drop] at hf
  have := congrArg List.length hf
  rw [List.length_drop] at this
  simp at this
  omega
theorem to_take {p : UInt8 → Bool} (l : List UInt8) : pTo p l = l.take (pTo p l).length := by
  unfold pTo
  split
  · exact List.prefix_iff_eq_take.1 (List.takeWhile_prefix _)
  · rfl
set_option maxHeartbeats 1000000 in
set_option maxRecDepth 100000 in
theorem find_c (s : ByteArray) (k : Nat) (a b : UInt8) (w : World) (hs : s.size ≤ 4611686018427387904) (hk : k ≤ 4611686018427387904) :
    Calls Tryz.prog 21 #[.string s, .int .i64 k, .int .u8 a.toNat, .int .u8 b.toNat] w fun e w' => e = .returned (.int .i64 (findI (twoB a b) s.data.toList k)) ∧ w = w' := by
  obtain ⟨l, hl⟩ : ∃ l, l = s.data.toList := ⟨_, rfl⟩
  have hsz : l.length = s.size := by rw [hl]; rfl
  rw [← hl]
  have HL := Lib.hid hl; have HSZ := Lib.hid hsz
  clear hl hsz
  go_enter Tryz.func21, Tryz.ntmps21
  go_wp2_with fail
  go_loopg [9] (s.size - k) (fun g c wr => ∃ q : Nat, k ≤ q ∧ q ≤ 4611686018427387904 ∧ Hid (g = s.size - q) ∧ c = .int .i64 q ∧ Hid (((l.drop k).take (q - k)).any (twoB a b) = false) ∧ w = wr)
  case atStart => exact ⟨k, by omega, by omega, rfl, rfl, (by show _ = _; simp), rfl⟩
  case round =>
    obtain ⟨q, hq1, hq2, HG, rfl, hd, rfl⟩ := hrel
    by_cases hlt : q < s.size
    · have hjl2 : q < l.length := by rw [HSZ.out]; exact hlt
      have hget : l[q] = s[q] := by
        have : s.data.toList[q]'(by rw [← HL.out]; exact hjl2) = l[q] := by simp [HL.out]
        rw [← this]; rfl
      have hdl : q - k < (l.drop k).length := by rw [List.length_drop]; omega
      have hdg : (l.drop k)[q - k] = s[q] := by
        rw [List.getElem_drop, ← hget]
        congr 1
        omega
      have ha : ((s[q].toNat : Int) == (a.toNat : Int)) = (s[q] == a) := by
        rw [Bool.eq_iff_iff]
        simp only [beq_iff_eq]
        exact ⟨fun h => UInt8.toNat_inj.1 (by omega), fun h => by rw [h]⟩
      have hb : ((s[q].toNat : Int) == (b.toNat : Int)) = (s[q] == b) := by
        rw [Bool.eq_iff_iff]
        simp only [beq_iff_eq]
        exact ⟨fun h => UInt8.toNat_inj.1 (by omega), fun h => by rw [h]⟩
      have hlt' : decide ((q : Int) < (s.size : Int)) = true := decide_eq_true (by omega)
      have yes : twoB a b s[q] = true → Hid (findI (twoB a b) l k = (q : Int)) := fun hp => by
        show findI (twoB a b) l k = _
        obtain ⟨c1, c2, c3⟩ := cut_at (twoB a b) (l.drop k) (q - k) hd.out hdl (by rw [hdg]; exact hp)
        rw [findI, pAny, if_pos c1, pTo, if_pos c1, c2, List.length_take]
        omega
      cases h1 : (s[q] == a) with
      | true =>
        have hR := yes (by rw [twoB, h1]; rfl)
        rw [h1] at ha
        clear h1 hb yes hget hdg
        go_wp2_with fail
        go_ret
        rw [hR.out]
        exact ⟨rfl, rfl⟩
      | false =>
        cases h2 : (s[q] == b) with
        | true =>
          have hR := yes (by rw [twoB, h1, h2]; rfl)
          rw [h1] at ha
          rw [h2] at hb
          clear h1 h2 yes hget hdg
          go_wp2_with fail
          go_ret
          rw [hR.out]
          exact ⟨rfl, rfl⟩
        | false =>
          have hN : Hid (((l.drop k).take (q - k + 1)).any (twoB a b) = false) := any_take_succ (twoB a b) (l.drop k) (q - k) hdl hd.out (by rw [hdg, twoB, h1, h2]; rfl)
          rw [h1] at ha
          rw [h2] at hb
          clear h1 h2 yes hget hdg
          go_wp2_with fail
          go_roundg (s.size - (q + 1))
          case measure => rw [HG.out]; omega
          case rel => exact ⟨q + 1, by omega, by omega, rfl, by go_num, by rw [show q + 1 - k = q - k + 1 by omega]; exact hN, rfl⟩
    · have hR : Hid (findI (twoB a b) l k = -1) := by
        refine findI_no ?_
        have h := hd.out
        rw [List.take_of_length_le (by rw [List.length_drop, HSZ.out]; omega)] at h
        exact h
      have hlt' : decide ((q : Int) < (s.size : Int)) = false := decide_eq_false (by omega)
      go_wp2_with fail
      go_ret
      rw [hR.out]
      exact ⟨rfl, rfl⟩
theorem slice_at (s : ByteArray) (i j : Nat) (I J : Int) (hI : I = (i : Int)) (hJ : J = (j : Int)) (h1 : i ≤ j) (h2 : j ≤ s.size) (W : World) :
    (Instr.slice 9 (.string s) (some (.int .i64 I)) (some (.int .i64 J)) none).run Tryz.prog W = .ok (.string (s.extract i j)) W := by
  subst hI; subst hJ
  have := run_slice_string (P := Tryz.prog) W 9 s .i64 .i64 (i : Int) (j : Int) Tryz.underlying9 (by omega) (by omega) (by omega)
  simpa using this
theorem begins_eq (s t : ByteArray) (k : Nat) (h : k + t.size ≤ s.size) : Lib.hasPrefix (s.data.toList.drop k) t.data.toList = ((s.extract k (k + t.size)).toList == t.toList) := by
  have h1 : (s.extract k (k + t.size)).toList = (s.data.toList.drop k).take t.data.toList.length := by
    rw [ByteArray.toList_eq, ByteArray.data_extract]
    have : t.data.toList.length = t.size := rfl
    simp only [Array.toList_extract, List.extract_eq_drop_take']
    rw [this, List.drop_take]
    congr 1
    omega
  rw [h1, ByteArray.toList_eq, ← Lib.hasPrefix_of_take]
  have : decide (t.data.toList.length ≤ (s.data.toList.drop k).length) = true := by
    rw [decide_eq_true_eq, List.length_drop]
    have h2 : t.data.toList.length = t.size := rfl
    have h3 : s.data.toList.length = s.size := rfl
    omega
  rw [this, Bool.true_and]
set_option maxHeartbeats 1000000 in
set_option maxRecDepth 100000 in
theorem begins_c (s : ByteArray) (k : Nat) (t : ByteArray) (w : World) (hs : s.size ≤ 1152921504606846976) (hk : k ≤ 1152921504606846976) (ht : 1 ≤ t.size ∧ t.size ≤ 1152921504606846976) :
    Calls Tryz.prog 22 #[.string s, .int .i64 k, .string t] w fun e w' => e = .returned (.bool (Lib.hasPrefix (s.data.toList.drop k) t.data.toList)) ∧ w = w' := by
  obtain ⟨ht0, ht1⟩ := ht
  by_cases hle : k + t.size ≤ s.size
  · have hR : Hid (Lib.hasPrefix (s.data.toList.drop k) t.data.toList = ((s.extract k (k + t.size)).toList == t.toList)) := begins_eq s t k hle
    have hd : decide ((k : Int) + (t.size : Int) ≤ (s.size : Int)) = true := decide_eq_true (by omega)
    have hd0 : decide ((0 : Int) ≤ (k : Int)) = true := decide_eq_true (by omega)
    have hsl := slice_at s k (k + t.size) (k : Int) ((k : Int) + (t.size : Int)) rfl (by omega) (by omega) hle
    go_enter Tryz.func22, Tryz.ntmps22
    go_wp2_with fail
    go_ret
    rw [hR.out]
    exact ⟨rfl, rfl⟩
  · have hR : Hid (Lib.hasPrefix (s.data.toList.drop k) t.data.toList = false) := by
      show Lib.hasPrefix (s.data.toList.drop k) t.data.toList = false
      rw [← Lib.hasPrefix_of_take]
      have : decide (t.data.toList.length ≤ (s.data.toList.drop k).length) = false := by
        rw [decide_eq_false_iff_not, List.length_drop]
        have h2 : t.data.toList.length = t.size := rfl
        have h3 : s.data.toList.length = s.size := rfl
        omega
      rw [this, Bool.false_and]
    have hd : decide ((k : Int) + (t.size : Int) ≤ (s.size : Int)) = false := decide_eq_false (by omega)
    have hd0 : decide ((0 : Int) ≤ (k : Int)) = true := decide_eq_true (by omega)
    go_enter Tryz.func22, Tryz.ntmps22
    go_wp2_with fail
    go_ret
    rw [hR.out]
    exact ⟨rfl, rfl⟩
theorem begins_neg (s t : ByteArray) (w : World) :
    Calls Tryz.prog 22 #[.string s, .int .i64 (-1), .string t] w fun e w' => e = .returned (.bool false) ∧ w = w' := by
  go_enter Tryz.func22, Tryz.ntmps22
  go_wp2_with fail
  go_ret
  exact ⟨rfl, rfl⟩
theorem conv_chr (W : World) (c : UInt8) (D : Int) (hD : D = (c.toNat : Int)) : (convert 101 9 (.slice (some ⟨W.heap.size, 0, none⟩) 1 1)).run Tryz.prog (W.alloc (Obj.cells #[.int .u8 D] 5)) = .ok (.string ⟨#[c]⟩) (W.alloc (Obj.cells #[.int .u8 D] 5)) := by
  subst hD
  refine run_convert_bytes_back _ 101 9 5 ⟨W.heap.size, 0, none⟩ 1 [c] Tryz.underlying101 Tryz.underlying5 Tryz.underlying9 fun j hj => ?_
  have hr := Row.laid W 5 #[.int .u8 (c.toNat : Int)]
  match j, hj with
  | 0, _ => exact hr.cell 0
theorem ofNat_to (d : Nat) (h : d < 256) : ((UInt8.ofNat d).toNat : Int) = (d : Int) := by
  rw [UInt8.toNat_ofNat', Nat.mod_eq_of_lt h]
theorem itoa_small (n : Nat) (h : n < 10) : Lib.itoa (n : Int) = [UInt8.ofNat (48 + n)] := by
  rw [Lib.itoa, if_neg (by omega), Lib.decDigits, dif_pos (by omega)]
  simp
theorem itoa_big (n : Nat) (h : ¬ n < 10) : Lib.itoa (n : Int) = Lib.itoa ((n / 10 : Nat) : Int) ++ [UInt8.ofNat (48 + n % 10)] := by
  rw [Lib.itoa, if_neg (by omega), Lib.itoa, if_neg (by omega), Int.toNat_natCast, Int.toNat_natCast, Lib.decDigits, dif_neg h]
theorem itoa_len : ∀ (k n : Nat), n < 10 ^ (k + 1) → (Lib.itoa (n : Int)).length ≤ k + 1
  | 0, n, h => by rw [itoa_small n (by simpa using h)]; simp
  | k + 1, n, h => by
    by_cases hlt : n < 10
    · rw [itoa_small n hlt]; simp
    · have := itoa_len k (n / 10) (by rw [Nat.pow_succ] at h; omega)
      rw [itoa_big n hlt, List.length_append, List.length_singleton]
      omega
theorem txt_snoc (l : List UInt8) (c : UInt8) : ((⟨l.toArray⟩ : ByteArray) ++ ⟨#[c]⟩) = ⟨(l ++ [c]).toArray⟩ := by
  apply ByteArray.ext
  apply Array.toList_inj.1
  simp [ByteArray.data_append]
set_option maxHeartbeats 1000000 in
set_option maxRecDepth 100000 in
theorem decimal_c : ∀ (k n : Nat) (w : World), n < 10 ^ (k + 1) → k ≤ 4 →
    Calls Tryz.prog 23 #[.int .i64 n] w fun e w' => e = .returned (txt (Lib.itoa n)) ∧ Below w.heap.size w w' := by
  intro k
  induction k with
  | zero =>
    intro n w hn hk
    have hlt : n < 10 := by simpa using hn
    obtain ⟨c, hcc⟩ : ∃ c : UInt8, c = UInt8.ofNat (48 + n) := ⟨_, rfl⟩
    have hcn : (c.toNat : Int) = 48 + (n : Int) := by rw [hcc, ofNat_to _ (by omega)]; omega
    have hR : Hid (Value.string ⟨#[c]⟩ = txt (Lib.itoa n)) := by
      show Value.string ⟨#[c]⟩ = txt (Lib.itoa n)
      rw [itoa_small n hlt, hcc]; rfl
    have hmod : ((n : Int) % 10) = (n : Int) := by omega
    have hge : decide ((10 : Int) ≤ (n : Int)) = false := decide_eq_false (by omega)
    have hc := fun W : World => conv_chr W c (48 + (n : Int)) hcn.symm
    clear hn hcn hcc
    go_enter Tryz.func23, Tryz.ntmps23
    go_wp2_with fail
    go_ret
    exact ⟨ret_v hR.out, (Below.refl _ _).alloc (Nat.le_refl _) _⟩
  | succ k ih =>
    intro n w hn hk
    by_cases hlt : n < 10
    · exact (ih n w (Nat.lt_of_lt_of_le hlt (by rw [Nat.pow_succ]; have : 1 ≤ 10 ^ k := Nat.one_le_pow _ _ (by decide); omega)) (by omega)).mono fun _ _ h => h
    · have hn' : n < 100000 := Nat.lt_of_lt_of_le hn (by
        have : 10 ^ (k + 1 + 1) ≤ 10 ^ 5 := Nat.pow_le_pow_right (by decide) (by omega)
        omega)
      obtain ⟨c, hcc⟩ : ∃ c : UInt8, c = UInt8.ofNat (48 + n % 10) := ⟨_, rfl⟩
      have hcn : (c.toNat : Int) = 48 + (n : Int) % 10 := by rw [hcc, ofNat_to _ (by omega)]; omega
      have hR : Hid (Value.string ((⟨(Lib.itoa ((n / 10 : Nat) : Int)).toArray⟩ : ByteArray) ++ ⟨#[c]⟩) = txt (Lib.itoa n)) := by
        show Value.string ((⟨(Lib.itoa ((n / 10 : Nat) : Int)).toArray⟩ : ByteArray) ++ ⟨#[c]⟩) = txt (Lib.itoa n)
        rw [itoa_big n hlt, txt_snoc, hcc]; rfl
      have hge : decide ((10 : Int) ≤ (n : Int)) = true := decide_eq_true (by omega)
      have hc := fun W : World => conv_chr W c (48 + (n : Int) % 10) hcn.symm
      have hb0 : 0 ≤ (n : Int) % 10 ∧ (n : Int) % 10 ≤ 9 := by omega
      obtain ⟨hb0, hb1⟩ := hb0
      obtain ⟨qb, hqb⟩ : ∃ qb : ByteArray, qb = ⟨(Lib.itoa ((n / 10 : Nat) : Int)).toArray⟩ := ⟨_, rfl⟩
      have hI : Hid (∀ W : World, Calls Tryz.prog 23 #[.int .i64 ((n : Int) / 10)] W fun e w' => e = .returned (.string qb) ∧ Below W.heap.size W w') := Lib.hid fun W => by
        have h := ih (n / 10) W (by rw [Nat.pow_succ] at hn; omega) (by omega)
        rw [hqb]
        exact h
      have hqs : qb.size ≤ 5 := by
        rw [hqb]
        exact Nat.le_trans (itoa_len 4 (n / 10) (by omega)) (by omega)
      rw [← hqb] at hR
      clear hn hqb hcn hcc
      go_enter Tryz.func23, Tryz.ntmps23
      go_wp2_with (go_at_call 23; refine (hI.out _).mono ?_; rintro e w1 ⟨rfl, b1⟩; have HB := Lib.hid b1; clear b1)
      go_ret
      exact ⟨ret_v hR.out, ((Below.refl _ _).alloc (Nat.le_refl _) _).trans (HB.out.mono (by simp))⟩
end Go.Proofs.YtdkfgobbpadmgaaGreatDoor
