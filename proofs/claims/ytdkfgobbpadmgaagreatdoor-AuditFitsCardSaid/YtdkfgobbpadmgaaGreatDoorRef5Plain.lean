/- Package tabularyref05: Plain, name, head. -/
import Derived.Test.YtdkfgobbpadmgaaGreatDoorSyslPlain
set_option linter.unusedVariables false
set_option linter.unusedSimpArgs false
namespace Go.Proofs.YtdkfgobbpadmgaaGreatDoor
open Go.RowKit
theorem ix_any : ∀ (l : List UInt8) (c : UInt8), hasB l c = l.any (fun d => d == c)
  | [], c => by simp [hasB, Lib.indexByte]
  | d :: l, c => by
    have ih := ix_any l c
    have hg := Lib.indexByte_ge l c
    unfold hasB at ih ⊢
    rw [Lib.indexByte, List.any_cons]
    by_cases h : (d == c) = true
    · rw [if_pos h, h]; simp
    · rw [if_neg h]
      have h' : (d == c) = false := by simpa using h
      rw [h', Bool.false_or, ← ih]
      by_cases h2 : (Lib.indexByte l c == -1) = true
      · rw [if_pos h2]
        have : Lib.indexByte l c = -1 := by simpa using h2
        rw [this]
      · rw [if_neg h2]
        have : Lib.indexByte l c ≠ -1 := by simpa using h2
        rw [decide_eq_decide]
        omega
def badC (c : UInt8) : Bool := c == 61 || c == 93 || c == 34
theorem any_or (l : List UInt8) (p q : UInt8 → Bool) : l.any (fun c => p c || q c) = (l.any p || l.any q) := by
  induction l with
  | nil => rfl
  | cons c l ih =>
    simp only [List.any_cons, ih]
    cases p c <;> cases q c <;> cases l.any p <;> cases l.any q <;> rfl
theorem name_bad (l : List UInt8) : nameB l = (plainB l 32 && !l.any badC) := by
  have h : l.any badC = (l.any (fun d => d == 61) || l.any (fun d => d == 93) || l.any (fun d => d == 34)) := by
    rw [show badC = fun c => (c == 61 || c == 93) || c == 34 from rfl, any_or, any_or]
  rw [nameB, ix_any, ix_any, ix_any, h]
  cases plainB l 32 <;> cases l.any (fun d => d == 61) <;> cases l.any (fun d => d == 93) <;> cases l.any (fun d => d == 34) <;> rfl
set_option maxHeartbeats 1000000 in
set_option maxRecDepth 100000 in
theorem rplain_c (s : ByteArray) (many : Nat) (w : World) (hl : s.size ≤ 9223372036854775807) (hm : many ≤ 1048576) :
    Calls Tryz.prog 80 #[.string s, .int .i64 many] w fun e w' => e = .returned (.bool (plainB s.data.toList many)) ∧ w = w' := by
  have hsz : s.data.toList.length = s.size := rfl
  by_cases h0 : s.size < 1
  · have hR : Hid (plainB s.data.toList many = false) := by
      show plainB _ _ = false
      have : s.data.toList = [] := List.eq_nil_of_length_eq_zero (by omega)
      rw [plainB, this]; simp
    have hd : decide ((s.size : Int) < 1) = true := decide_eq_true (by omega)
    clear hsz
    go_enter Tryz.func80, Tryz.ntmps80
    go_wp2_with fail
    go_ret
    exact ⟨ret_v (by rw [hR.out]; rfl), rfl⟩
  · have hd : decide ((s.size : Int) < 1) = false := decide_eq_false (by omega)
    by_cases h1 : many < s.size
    · have hR : Hid (plainB s.data.toList many = false) := by
        show plainB _ _ = false
        have : decide (s.data.toList.length ≤ many) = false := decide_eq_false (by omega)
        rw [plainB, this]; simp
      have hd1 : decide (many < s.size) = true := decide_eq_true h1
      clear hsz
      go_enter Tryz.func80, Tryz.ntmps80
      go_wp2_with fail
      go_ret
      exact ⟨ret_v (by rw [hR.out]; rfl), rfl⟩
    · have hd1 : decide (many < s.size) = false := decide_eq_false h1
      have hP : Hid (plainB s.data.toList many = s.data.toList.all plainC) := by
        show plainB _ _ = _
        have e1 : decide (s.data.toList.length ≤ many) = true := decide_eq_true (by omega)
        have e2 : s.data.toList.isEmpty = false := by
          cases h : s.data.toList with
          | nil => rw [h] at hsz; simp at hsz; omega
          | cons _ _ => rfl
        rw [plainB, e1, e2]; simp
      clear hsz
      go_enter Tryz.func80, Tryz.ntmps80
      go_wp2_with fail
      go_loopg [5] s.size (fun g c wr => ∃ k : Nat, k ≤ s.size ∧ Hid (g = s.size - k) ∧ c = .int .i64 k ∧ Hid ((s.data.toList.take k).all plainC = true) ∧ w = wr)
      case atStart => exact ⟨0, by omega, rfl, rfl, by show (s.data.toList.take 0).all _ = true; simp, rfl⟩
      case round =>
        obtain ⟨k, hk, HG, rfl, hno, rfl⟩ := hrel
        by_cases hlt : k < s.size
        · have hkl : k < s.data.toList.length := by simpa using hlt
          have hget : s.data.toList[k] = s[k] := rfl
          cases hp : plainC s[k]
          · have hR : Hid (plainB s.data.toList many = false) := by
              show plainB _ _ = false
              rw [hP.out, all_not plainC _ k hkl (by rw [hget]; exact hp)]
            have hq : s[k].toNat < 33 ∨ 126 < s[k].toNat := by
              have := of_decide_eq_false hp
              omega
            clear hp hget hno
            rcases hq with hq | hq
            · go_wp2_with fail
              go_ret
              exact ⟨ret_v (by rw [hR.out]; rfl), rfl⟩
            · have hq' : ¬ s[k].toNat < 33 := by omega
              go_wp2_with fail
              go_ret
              exact ⟨ret_v (by rw [hR.out]; rfl), rfl⟩
          · have hno2 : Hid ((s.data.toList.take (k + 1)).all plainC = true) := all_take_succ _ _ _ hkl hno.out (by rw [hget]; exact hp)
            obtain ⟨q1, q2⟩ := of_decide_eq_true hp
            clear hp hget hno
            go_wp2_with fail
            go_roundg (s.size - (k + 1))
            case measure => rw [HG.out]; omega
            case rel => exact ⟨k + 1, by omega, rfl, by go_num, hno2, rfl⟩
        · have hlt' : decide ((k : Int) < (s.size : Int)) = false := decide_eq_false (by omega)
          have hR : Hid (plainB s.data.toList many = true) := by
            show plainB _ _ = true
            have := hno.out
            rw [List.take_of_length_le (by have : s.data.toList.length = s.size := rfl; omega)] at this
            rw [hP.out, this]
          clear hno
          go_wp2_with fail
          go_ret
          exact ⟨ret_v (by rw [hR.out]; rfl), rfl⟩
set_option maxHeartbeats 1000000 in
set_option maxRecDepth 100000 in
theorem rname_c (s : ByteArray) (w : World) (hl : s.size ≤ 9223372036854775807) :
    Calls Tryz.prog 60 #[.string s] w fun e w' => e = .returned (.bool (nameB s.data.toList)) ∧ w = w' := by
  have hp := fun w => rplain_c s 32 w hl (by omega)
  cases hpb : plainB s.data.toList 32 with
  | false =>
    have hR : Hid (nameB s.data.toList = false) := by
      show nameB _ = false
      rw [name_bad, hpb]; rfl
    rw [hpb] at hp
    clear hpb
    go_enter Tryz.func60, Tryz.ntmps60
    go_wp2_with (go_at_call 80; refine (hp _).mono ?_; rintro e w' ⟨rfl, rfl⟩)
    go_ret
    exact ⟨ret_v (by rw [hR.out]; rfl), rfl⟩
  | true =>
    have hP : Hid (nameB s.data.toList = !s.data.toList.any badC) := by
      show nameB _ = _
      rw [name_bad, hpb]; rfl
    rw [hpb] at hp
    clear hpb
    go_enter Tryz.func60, Tryz.ntmps60
    go_wp2_with (go_at_call 80; refine (hp _).mono ?_; rintro e w' ⟨rfl, rfl⟩)
    go_loopg [4] s.size (fun g c wr => ∃ k : Nat, k ≤ s.size ∧ Hid (g = s.size - k) ∧ c = .int .i64 k ∧ Hid ((s.data.toList.take k).any badC = false) ∧ w = wr)
    case atStart => exact ⟨0, by omega, rfl, rfl, by show (s.data.toList.take 0).any _ = false; simp, rfl⟩
    case round =>
      obtain ⟨k, hk, HG, rfl, hno, rfl⟩ := hrel
      by_cases hlt : k < s.size
      · have hkl : k < s.data.toList.length := by simpa using hlt
        have hget : s.data.toList[k] = s[k] := rfl
        have e61 := byte_eq s[k] 61 (by decide)
        have e93 := byte_eq s[k] 93 (by decide)
        have e34 := byte_eq s[k] 34 (by decide)
        have bad : badC s[k] = true → Hid (nameB s.data.toList = false) := fun hb => by
          show nameB _ = false
          have : s.data.toList.any badC = true := List.any_eq_true.2 ⟨s[k], by rw [← hget]; exact List.getElem_mem hkl, hb⟩
          rw [hP.out, this]; rfl
        cases h1 : (s[k] == 61) with
        | true =>
          have hR := bad (by rw [badC, h1]; rfl)
          replace e61 : ((s[k].toNat : Int) == 61) = true := e61.trans h1
          clear e93 e34 h1 bad hget hno
          go_wp2_with fail
          go_ret
          exact ⟨ret_v (by rw [hR.out]; rfl), rfl⟩
        | false =>
          replace e61 : ((s[k].toNat : Int) == 61) = false := e61.trans h1
          cases h2 : (s[k] == 93) with
          | true =>
            have hR := bad (by rw [badC, h1, h2]; rfl)
            replace e93 : ((s[k].toNat : Int) == 93) = true := e93.trans h2
            clear e34 h1 h2 bad hget hno
            go_wp2_with fail
            go_ret
            exact ⟨ret_v (by rw [hR.out]; rfl), rfl⟩
          | false =>
            replace e93 : ((s[k].toNat : Int) == 93) = false := e93.trans h2
            cases h3 : (s[k] == 34) with
            | true =>
              have hR := bad (by rw [badC, h1, h2, h3]; rfl)
              replace e34 : ((s[k].toNat : Int) == 34) = true := e34.trans h3
              clear h1 h2 h3 bad hget hno
              go_wp2_with fail
              go_ret
              exact ⟨ret_v (by rw [hR.out]; rfl), rfl⟩
            | false =>
              replace e34 : ((s[k].toNat : Int) == 34) = false := e34.trans h3
              have hno2 : Hid ((s.data.toList.take (k + 1)).any badC = false) := any_take_succ badC _ k hkl hno.out (by rw [hget, badC, h1, h2, h3]; rfl)
              clear h1 h2 h3 bad hget hno
              go_wp2_with fail
              go_roundg (s.size - (k + 1))
              case measure => rw [HG.out]; omega
              case rel => exact ⟨k + 1, by omega, rfl, by go_num, hno2, rfl⟩
      · have hlt' : decide ((k : Int) < (s.size : Int)) = false := decide_eq_false (by omega)
        have hR : Hid (nameB s.data.toList = true) := by
          show nameB _ = true
          have := hno.out
          rw [List.take_of_length_le (by have : s.data.toList.length = s.size := rfl; omega)] at this
          rw [hP.out, this]; rfl
        clear hno
        go_wp2_with fail
        go_ret
        exact ⟨ret_v (by rw [hR.out]; rfl), rfl⟩
set_option maxHeartbeats 1000000 in
theorem rhead_c (s : ByteArray) (many : Nat) (w : World) (hl : s.size ≤ 9223372036854775807) (hm : many ≤ 1048576) :
    Calls Tryz.prog 58 #[.string s, .int .i64 many] w fun e w' => e = .returned (.bool (mayB s.data.toList many)) ∧ w = w' := by
  have hp := fun w => rplain_c s many w hl hm
  go_enter Tryz.func58, Tryz.ntmps58
  go_wp2_with (first
    | (go_at_call 80; refine (hp _).mono ?_; rintro e w' ⟨rfl, rfl⟩))
  all_goals
    go_ret
    refine ⟨ret_v ?_, rfl⟩
    show Value.bool _ = Value.bool _
    congr 1
    simp_all [mayB, ByteArray.toList_eq, bne]
end Go.Proofs.YtdkfgobbpadmgaaGreatDoor
