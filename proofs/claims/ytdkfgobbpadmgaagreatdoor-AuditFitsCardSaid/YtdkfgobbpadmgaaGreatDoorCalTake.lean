/- Package cal: Parse's three closures: a number of figures, a mark, a mark that has to be there. -/
import Derived.Test.YtdkfgobbpadmgaaGreatDoorTaker
set_option linter.unusedVariables false
set_option linter.unusedSimpArgs false
namespace Go.Proofs.YtdkfgobbpadmgaaGreatDoor
open Go.RowKit
def isDig (c : UInt8) : Bool := decide (48 ≤ c.toNat ∧ c.toNat ≤ 57)
def numN (l : List UInt8) : Int := l.foldl (fun n c => 10 * n + ((c.toNat : Int) - 48)) 0
def tkN (k : Nat) (l : List UInt8) (ok : Bool) : Int × List UInt8 × Bool :=
  if k ≤ l.length ∧ (l.take k).all isDig = true then (numN (l.take k), l.drop k, ok) else (0, l, false)
theorem numN_snoc (l : List UInt8) (c : UInt8) : numN (l ++ [c]) = 10 * numN l + ((c.toNat : Int) - 48) := by simp [numN, List.foldl_append]
theorem numN_bd : ∀ (k : Nat) (l : List UInt8), l.length ≤ k → k ≤ 4 → l.all isDig = true → 0 ≤ numN l ∧ numN l ≤ 9999 := by
  intro k l hl hk ha
  have step : ∀ (m : List UInt8) (c : UInt8) (B : Int), isDig c = true → (0 ≤ numN m ∧ numN m ≤ B) → 0 ≤ numN (m ++ [c]) ∧ numN (m ++ [c]) ≤ 10 * B + 9 := fun m c B hc hm => by
    rw [numN_snoc]
    have := of_decide_eq_true hc
    omega
  match l, ha with
  | [], _ => simp [numN]
  | [a], ha =>
    simp at ha
    have := step [] a 0 ha (by simp [numN])
    simp only [List.nil_append] at this
    omega
  | [a, b], ha =>
    simp at ha
    have h1 := step [] a 0 ha.1 (by simp [numN])
    have h2 := step [a] b 9 ha.2 (by simpa using h1)
    simp only [List.cons_append, List.nil_append] at h2
    omega
  | [a, b, c], ha =>
    simp at ha
    have h1 := step [] a 0 ha.1 (by simp [numN])
    have h2 := step [a] b 9 ha.2.1 (by simpa using h1)
    have h3 := step [a, b] c 99 ha.2.2 (by simpa using h2)
    simp only [List.cons_append, List.nil_append] at h3
    omega
  | [a, b, c, d], ha =>
    simp at ha
    have h1 := step [] a 0 ha.1 (by simp [numN])
    have h2 := step [a] b 9 ha.2.1 (by simpa using h1)
    have h3 := step [a, b] c 99 ha.2.2.1 (by simpa using h2)
    have h4 := step [a, b, c] d 999 ha.2.2.2 (by simpa using h3)
    simp only [List.cons_append, List.nil_append] at h4
    omega
  | a :: b :: c :: d :: e :: r, _ => simp at hl; omega
/-- the two variables that the closures share: the text that is left, and whether all was so -/
structure Sh (w : World) (S O : Nat) (l : List UInt8) (ok : Bool) : Prop where
  s : Row w S 9 #[txt l]
  o : Row w O 4 #[.bool ok]
  ne : S ≠ O
theorem Sh.puts {w : World} {S O : Nat} {l : List UInt8} {ok : Bool} (h : Sh w S O l ok) (l' : List UInt8) : Sh (w.setCell ⟨S, 0, none⟩ (.string ⟨l'.toArray⟩)) S O l' ok :=
  ⟨by have := h.s.put 0 (txt l'); simpa [txt] using this, h.o.other (fun e => h.ne e.symm) _, h.ne⟩
theorem Sh.puto {w : World} {S O : Nat} {l : List UInt8} {ok : Bool} (h : Sh w S O l ok) (ok' : Bool) : Sh (w.setCell ⟨O, 0, none⟩ (.bool ok')) S O l ok' :=
  ⟨h.s.other h.ne _, by have := h.o.put 0 (.bool ok'); simpa using this, h.ne⟩
theorem Sh.turn {w w' : World} {S O : Nat} {l : List UInt8} {ok : Bool} {p : Nat → Prop} (h : Sh w S O l ok) (ht : Turn p w w') (hs : ¬ p S) (ho : ¬ p O) : Sh w' S O l ok := ⟨h.s.turn ht hs, h.o.turn ht ho, h.ne⟩
theorem Sh.below {w w' : World} {S O : Nat} {l : List UInt8} {ok : Bool} (h : Sh w S O l ok) (hb : Below w.heap.size w w') : Sh w' S O l ok := ⟨h.s.below hb h.s.lt, h.o.below hb h.o.lt, h.ne⟩
def two (S O : Nat) (k : Nat) : Prop := k = S ∨ k = O
theorem take_all_succ (l : List UInt8) (k : Nat) (h : k < l.length) (ht : (l.take k).all isDig = true) (hp : isDig l[k] = true) : (l.take (k + 1)).all isDig = true := by
  rw [List.take_succ_eq_append_getElem h, List.all_append, ht]
  simpa using hp
theorem take_not (l : List UInt8) (k j : Nat) (h : j < l.length) (hj : j < k) (hp : isDig l[j] = false) : (l.take k).all isDig = false := by
  rw [List.all_eq_false]
  refine ⟨l[j], ?_, by rw [hp]; simp⟩
  rw [List.mem_take_iff_getElem]
  exact ⟨j, by omega, rfl⟩
set_option maxHeartbeats 2000000 in
set_option maxRecDepth 100000 in
theorem take_t (k : Nat) (S O : Nat) (l : List UInt8) (ok : Bool) (w : World) (hk : k ≤ 4) (h : Sh w S O l ok) (hl : l.length ≤ 140737488355328) :
    Calls Tryz.prog 36 #[.int .i64 k, .pointer (some ⟨S, 0, none⟩), .pointer (some ⟨O, 0, none⟩)] w fun e w' => e = .returned (.int .i64 (tkN k l ok).1) ∧ Sh w' S O (tkN k l ok).2.1 (tkN k l ok).2.2 ∧ Turn (two S O) w w' := by
  obtain ⟨s, hs⟩ : ∃ s : ByteArray, s = ⟨l.toArray⟩ := ⟨_, rfl⟩
  have hsl : s.data.toList = l := by rw [hs]
  have hsz : s.size = l.length := by rw [hs]; rfl
  have c0 : w.cell? ⟨S, 0, none⟩ = some (.string s) := by rw [hs]; exact h.s.cell 0
  have f0 := h.s.frozen 0
  have o0 : w.cell? ⟨O, 0, none⟩ = some (.bool ok) := h.o.cell 0
  have g0 := h.o.frozen 0
  have H := Lib.hid h; have HSL := Lib.hid hsl; have HSZ := Lib.hid hsz
  have hb : s.size ≤ 140737488355328 := by rw [hsz]; exact hl
  clear h hs hsl hsz
  go_enter Tryz.func36, Tryz.ntmps36
  go_wp2_with fail
  go_loopg [5, 8] k (fun g n c wr => ∃ j : Nat, j ≤ k ∧ g = k - j ∧ c = .int .i64 j ∧ n = .int .i64 (numN (l.take j)) ∧ Hid (j ≤ l.length ∧ (l.take j).all isDig = true) ∧ w = wr)
  case atStart => exact ⟨0, by omega, rfl, rfl, rfl, ⟨by omega, by simp⟩, rfl⟩
  case round =>
    obtain ⟨j, hj, hg, rfl, rfl, hd, rfl⟩ := hrel
    have HGJ := Lib.hid hg; clear hg
    obtain ⟨d1, d2⟩ := hd.out
    have hnb := numN_bd 4 (l.take j) (by rw [List.length_take]; omega) (by omega) d2
    obtain ⟨m, hm⟩ : ∃ m, m = numN (l.take j) := ⟨_, rfl⟩
    rw [← hm] at hnb ⊢
    have HM := Lib.hid hm
    have HD2 := Lib.hid d2
    obtain ⟨m0, m1⟩ := hnb
    clear hm d2 hd
    by_cases hlt : j < k
    · by_cases hjl : j < s.size
      · have hjl2 : j < l.length := by rw [← HSZ.out]; exact hjl
        have hget : l[j] = s[j] := by
          have : s.data.toList[j]'(by rw [HSL.out]; exact hjl2) = l[j] := by simp [HSL.out]
          rw [← this]; rfl
        cases hp : isDig s[j] with
        | false =>
          have hR : Hid (tkN k l ok = (0, l, false)) := by
            show tkN k l ok = _
            rw [tkN, if_neg (fun h => by
              have := take_not l k j hjl2 hlt (by rw [hget]; exact hp)
              rw [this] at h
              exact absurd h.2 (by simp))]
          have hq : s[j].toNat < 48 ∨ 57 < s[j].toNat := by
            have := of_decide_eq_false hp
            omega
          have hge : decide ((s.size : Int) ≤ (j : Int)) = false := decide_eq_false (by omega)
          clear hp hget
          rcases hq with hq | hq
          · have q1 : ((s[j].toNat : Int) < 48) := by omega
            go_wp2_with fail
            go_ret
            rw [hR.out]
            exact ⟨rfl, H.out.puto false, (Turn.refl _ w).put (q := ⟨O, 0, none⟩) (.inr rfl) _⟩
          · have q1 : ¬ ((s[j].toNat : Int) < 48) := by omega
            have q2 : ((57 : Int) < (s[j].toNat : Int)) := by omega
            go_wp2_with fail
            go_ret
            rw [hR.out]
            exact ⟨rfl, H.out.puto false, (Turn.refl _ w).put (q := ⟨O, 0, none⟩) (.inr rfl) _⟩
        | true =>
          have hall := take_all_succ l j hjl2 HD2.out (by rw [hget]; exact hp)
          have hns : numN (l.take (j + 1)) = 10 * m + ((s[j].toNat : Int) - 48) := by
            rw [List.take_succ_eq_append_getElem hjl2, numN_snoc, hget, HM.out]
          have HALL := Lib.hid hall; have HNS := Lib.hid hns
          obtain ⟨q1, q2⟩ := of_decide_eq_true hp
          have hge : decide ((s.size : Int) ≤ (j : Int)) = false := decide_eq_false (by omega)
          have q1' : ¬ ((s[j].toNat : Int) < 48) := by omega
          have q2' : ¬ ((57 : Int) < (s[j].toNat : Int)) := by omega
          clear hp hget hall hns
          go_wp2_with fail
          go_roundg (k - (j + 1))
          case measure => rw [HGJ.out]; omega
          case rel => exact ⟨j + 1, by omega, rfl, by go_num, by rw [HNS.out], ⟨by omega, HALL.out⟩, rfl⟩
      · have hR : Hid (tkN k l ok = (0, l, false)) := by
          show tkN k l ok = _
          rw [tkN, if_neg (fun h => by have := HSZ.out; omega)]
        have hge : decide ((s.size : Int) ≤ (j : Int)) = true := decide_eq_true (by omega)
        go_wp2_with fail
        go_ret
        rw [hR.out]
        exact ⟨rfl, H.out.puto false, (Turn.refl _ w).put (q := ⟨O, 0, none⟩) (.inr rfl) _⟩
    · obtain rfl : j = k := by omega
      have hR : Hid (tkN j l ok = (m, l.drop j, ok)) := by
        show tkN j l ok = _
        rw [tkN, if_pos ⟨d1, HD2.out⟩, HM.out]
      have hlt' : decide ((j : Int) < (j : Int)) = false := decide_eq_false (by omega)
      have hjs : j ≤ s.size := by rw [HSZ.out]; exact d1
      clear d1
      go_wp2_with fail
      go_ret
      rw [hR.out]
      refine ⟨rfl, ?_, (Turn.refl _ w).put (q := ⟨S, 0, none⟩) (.inl rfl) _⟩
      rw [piece_from, HSL.out]
      exact H.out.puts _
/-- mark, and what need makes of it -/
theorem markc_t (S O : Nat) (l : List UInt8) (ok : Bool) (m : ByteArray) (w : World) (h : Sh w S O l ok) :
    Calls Tryz.prog 37 #[.string m, .pointer (some ⟨S, 0, none⟩)] w fun e w' => e = .returned (.bool (Lib.hasPrefix l m.data.toList)) ∧ Sh w' S O (Lib.trimPrefix l m.data.toList) ok ∧ Turn (two S O) w w' := by
  have c0 : w.cell? ⟨S, 0, none⟩ = some (.string ⟨l.toArray⟩) := h.s.cell 0
  have f0 := h.s.frozen 0
  have hd : ((⟨l.toArray⟩ : ByteArray).data.toList) = l := rfl
  have HD := Lib.hid hd; have H := Lib.hid h; clear hd h
  go_enter Tryz.func37, Tryz.ntmps37
  go_wp2_with (go_at_call 35; refine (Tryz.strings_CutPrefix _ _ _).mono ?_; rintro e w' ⟨rfl, rfl⟩; try rw [HD.out])
  go_ret
  exact ⟨rfl, H.out.puts _, (Turn.refl _ _).put (q := ⟨S, 0, none⟩) (.inl rfl) _⟩
set_option maxHeartbeats 1000000 in
theorem needc_t (S O M : Nat) (l : List UInt8) (ok : Bool) (m : ByteArray) (w : World) (h : Sh w S O l ok) (hM : Row w M 32 #[.func (.func 37) #[] #[.pointer (some ⟨S, 0, none⟩)]]) :
    Calls Tryz.prog 38 #[.string m, .pointer (some ⟨M, 0, none⟩), .pointer (some ⟨O, 0, none⟩)] w fun e w' => e = .returned (.tuple #[]) ∧ Sh w' S O (Lib.trimPrefix l m.data.toList) (Lib.hasPrefix l m.data.toList && ok) ∧ Turn (two S O) w w' := by
  have c0 : w.cell? ⟨M, 0, none⟩ = some (.func (.func 37) #[] #[.pointer (some ⟨S, 0, none⟩)]) := hM.cell 0
  have H := Lib.hid h; clear h
  cases hp : Lib.hasPrefix l m.data.toList
  all_goals
    go_enter Tryz.func38, Tryz.ntmps38
    go_wp2_with (go_at_call 37; refine (markc_t _ _ _ _ _ _ H.out).mono ?_; rintro e w1 ⟨he, h1, t1⟩; rw [hp] at he; subst he; have o0 : w1.cell? ⟨O, 0, none⟩ = some (.bool ok) := h1.o.cell 0; have g0 := h1.o.frozen 0)
    refine bodyPost_end (v := .tuple #[]) (by simp [results, Tryz.results38, go_sem]) rfl ⟨rfl, ?_, ?_⟩
    · first | exact h1.puto false | exact h1.puto ok
    · exact t1.put (q := ⟨O, 0, none⟩) (.inr rfl) _
end Go.Proofs.YtdkfgobbpadmgaaGreatDoor
