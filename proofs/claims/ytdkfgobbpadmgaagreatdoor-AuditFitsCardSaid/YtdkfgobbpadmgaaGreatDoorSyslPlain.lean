/- Package sysl: words and names. -/
import Derived.Test.YtdkfgobbpadmgaaGreatDoorTakerElem
set_option linter.unusedVariables false
set_option linter.unusedSimpArgs false
namespace Go.Proofs.YtdkfgobbpadmgaaGreatDoor
open Go.RowKit
def plainC (c : UInt8) : Bool := decide (33 ≤ c.toNat ∧ c.toNat ≤ 126)
def plainB (l : List UInt8) (many : Nat) : Bool := l.all plainC && !l.isEmpty && decide (l.length ≤ many)
def hasB (l : List UInt8) (c : UInt8) : Bool := decide (0 ≤ Lib.indexByte l c)
def nameB (l : List UInt8) : Bool := plainB l 32 && !hasB l 61 && !hasB l 93 && !hasB l 34
def mayB (l : List UInt8) (many : Nat) : Bool := l.isEmpty || (l != [45] && plainB l many)
theorem all_take_succ (p : UInt8 → Bool) (l : List UInt8) (k : Nat) (h : k < l.length) (ht : (l.take k).all p = true) (hp : p l[k] = true) : (l.take (k + 1)).all p = true := by
  rw [List.take_succ_eq_append_getElem h, List.all_append, ht]
  simpa using hp
theorem all_not (p : UInt8 → Bool) (l : List UInt8) (k : Nat) (h : k < l.length) (hp : p l[k] = false) : l.all p = false := by
  rw [List.all_eq_false]
  exact ⟨l[k], List.getElem_mem h, by rw [hp]; simp⟩
set_option maxHeartbeats 1000000 in
theorem plain_c (s : ByteArray) (many : Nat) (w : World) (hl : s.size ≤ 9223372036854775807) (hm : many ≤ 1048576) :
    Calls Tryz.prog 72 #[.string s, .int .i64 many] w fun e w' => e = .returned (.bool (plainB s.data.toList many)) ∧ w = w' := by
  go_enter Tryz.func72, Tryz.ntmps72
  go_wp2_with fail
  go_loopg [4, 8] s.size (fun g i c wr => ∃ k : Nat, k ≤ s.size ∧ g = s.size - k ∧ c = .int .i64 k ∧ Hid ((s.data.toList.take k).all plainC = true) ∧ w = wr)
  case atStart => exact ⟨0, by omega, rfl, rfl, by show (s.data.toList.take 0).all _ = true; simp, rfl⟩
  case round =>
    obtain ⟨k, hk, hg, rfl, hno, rfl⟩ := hrel
    have HG := Lib.hid hg; clear hg
    by_cases hlt : k < s.size
    · have hkl : k < s.data.toList.length := by simpa using hlt
      have hget : s.data.toList[k] = s[k] := rfl
      cases hp : plainC s[k]
      · have hR : Hid (plainB s.data.toList many = false) := by
          show plainB _ _ = false
          rw [plainB, all_not plainC _ k hkl (by rw [hget]; exact hp)]
          rfl
        have hq : s[k].toNat < 33 ∨ 126 < s[k].toNat := by
          have := of_decide_eq_false hp
          omega
        clear hp hget hno
        rcases hq with hq | hq
        · go_wp2_with fail
          go_ret
          exact ⟨ret_v (by rw [hR.out]; rfl), rfl⟩
        · have hq' : ¬ s[k].toNat < 33 := by omega
          go_wp2_with fail
          go_ret
          exact ⟨ret_v (by rw [hR.out]; rfl), rfl⟩
      · have hno2 : Hid ((s.data.toList.take (k + 1)).all plainC = true) := all_take_succ _ _ _ hkl hno.out (by rw [hget]; exact hp)
        obtain ⟨q1, q2⟩ := of_decide_eq_true hp
        clear hp hget hno
        go_wp2_with fail
        go_roundg (s.size - (k + 1))
        case measure => rw [HG.out]; omega
        case rel => exact ⟨k + 1, by omega, rfl, by go_num, hno2.out, rfl⟩
    · have hlt' : decide ((k : Int) < (s.size : Int)) = false := decide_eq_false (by omega)
      have hall : s.data.toList.all plainC = true := by
        have := hno.out
        rwa [List.take_of_length_le (by have : s.data.toList.length = s.size := rfl; omega)] at this
      have hR : Hid (plainB s.data.toList many = (!s.data.toList.isEmpty && decide (s.size ≤ many))) := by
        show plainB _ _ = _
        rw [plainB, hall]
        rfl
      have he : s.toList.isEmpty = s.data.toList.isEmpty := by rw [ByteArray.toList_eq]
      clear hno hall
      go_wp2_with fail
      all_goals
        go_ret
        refine ⟨ret_v ?_, rfl⟩
        rw [hR.out]
        show Value.bool _ = Value.bool _
        congr 1
        simp_all
theorem hasB_c (s : ByteArray) (c : UInt8) (w : World) : Calls Tryz.prog 90 #[.string s, .string ⟨#[c]⟩] w fun e w' => e = .returned (.bool (hasB s.data.toList c)) ∧ w = w' :=
  (Tryz.strings_Contains_one s c w).mono fun e w' ⟨he, hw⟩ => ⟨he, hw.symm⟩
set_option maxHeartbeats 1000000 in
theorem name_c (s : ByteArray) (w : World) (hl : s.size ≤ 9223372036854775807) :
    Calls Tryz.prog 73 #[.string s] w fun e w' => e = .returned (.bool (nameB s.data.toList)) ∧ w = w' := by
  have hp := fun w => plain_c s 32 w hl (by omega)
  go_enter Tryz.func73, Tryz.ntmps73
  go_wp2_with (first
    | (go_at_call 72; refine (hp _).mono ?_; rintro e w' ⟨rfl, rfl⟩)
    | (go_at_call 90; refine (hasB_c s _ _).mono ?_; rintro e w' ⟨rfl, rfl⟩))
  all_goals
    go_ret
    refine ⟨ret_v ?_, rfl⟩
    show Value.bool _ = Value.bool _
    congr 1
    simp_all [nameB]
set_option maxHeartbeats 1000000 in
theorem may_c (s : ByteArray) (many : Nat) (w : World) (hl : s.size ≤ 9223372036854775807) (hm : many ≤ 1048576) :
    Calls Tryz.prog 71 #[.string s, .int .i64 many] w fun e w' => e = .returned (.bool (mayB s.data.toList many)) ∧ w = w' := by
  have hp := fun w => plain_c s many w hl hm
  go_enter Tryz.func71, Tryz.ntmps71
  go_wp2_with (first
    | (go_at_call 72; refine (hp _).mono ?_; rintro e w' ⟨rfl, rfl⟩))
  all_goals
    go_ret
    refine ⟨ret_v ?_, rfl⟩
    show Value.bool _ = Value.bool _
    congr 1
    simp_all [mayB, ByteArray.toList_eq, bne]
end Go.Proofs.YtdkfgobbpadmgaaGreatDoor
