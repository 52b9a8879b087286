/- Package sysl: a value's text. -/
import Derived.Test.YtdkfgobbpadmgaaDoorSyslElems
set_option linter.unusedVariables false
set_option linter.unusedSimpArgs false
namespace Go.Proofs.YtdkfgobbpadmgaaDoor
open Go.RowKit
def escN (l : List UInt8) : List UInt8 := l.flatMap fun c => if isMk c then [92, c] else [c]
theorem escN_snoc (l : List UInt8) (k : Nat) (h : k < l.length) : escN (l.take (k + 1)) = escN (l.take k) ++ (if isMk l[k] then [92, l[k]] else [l[k]]) := by
  rw [escN, List.take_succ_eq_append_getElem h, List.flatMap_append]
  simp [escN]
theorem escN_len : ∀ l : List UInt8, (escN l).length ≤ 2 * l.length
  | [] => by simp [escN]
  | c :: l => by
    have := escN_len l
    unfold escN at this ⊢
    rw [List.flatMap_cons, List.length_append, List.length_cons]
    split <;> simp only [List.length_cons, List.length_nil] <;> omega
set_option maxHeartbeats 2000000 in
set_option maxRecDepth 100000 in
theorem value_c (s : ByteArray) (w : World) (hl : s.size ≤ 1048576) :
    Calls Tryd.prog 9 #[.string s] w fun e w' => e = .returned (txt (escN s.data.toList)) ∧ Below w.heap.size w w' := by
  obtain ⟨i0, hi, hz0, hz1, hz2⟩ := info_parts byteInfo
  go_enter Tryd.func9, Tryd.ntmps9
  go_wp2_with (at_make; refine wpList_make_own _ rfl _ _ 40 rfl w.heap.size 5 i0 (.int .u8 0) 1 Tryd.underlying40 hi hz0 hz1 _ _ _ s.size rfl rfl (by omega) (by rw [hz2]; omega) (by unfold maxLen; omega) (Nat.le_refl _) ?_; intro w1 hown1 hgrow1; have HO1 := Lib.hid hown1; have HB1 := Lib.hid hgrow1; clear hown1 hgrow1)
  go_loopg [3, 10] s.size (fun g v c wr => ∃ k : Nat, k ≤ s.size ∧ g = s.size - k ∧ c = .int .i64 k ∧ wr.ownsRow w.heap.size 5 1 v (escN (s.data.toList.take k)).length (byteCells (escN (s.data.toList.take k))) ∧ Below w.heap.size w wr)
  case atStart =>
    have hg := HB1.out
    exact ⟨0, by omega, rfl, rfl, HO1.out, ⟨hg.os, hg.tape, hg.output, hg.size, fun k hk => hg.block k hk (by simp)⟩⟩
  case round =>
    obtain ⟨k, hk, hg, rfl, hown, hbel⟩ := hrel
    have HG := Lib.hid hg; have HO := Lib.hid hown; have HB := Lib.hid hbel; clear hg hown hbel HO1 HB1
    by_cases hlt : k < s.size
    · have hkl : k < s.data.toList.length := by simpa using hlt
      have hget : s.data.toList[k] = s[k] := rfl
      have hsn := escN_snoc s.data.toList k hkl
      rw [hget] at hsn
      have hln := escN_len (s.data.toList.take k)
      have hlk : (s.data.toList.take k).length ≤ k := List.length_take_le _ _
      have hln2 : (escN (s.data.toList.take k)).length ≤ 2097152 := by omega
      clear hget hln hlk
      generalize hE : escN (s.data.toList.take k) = E at *
      have HSn := Lib.hid hsn
      clear hsn hE
      have e34 := byte_eq s[k] 34 (by decide)
      have e92 := byte_eq s[k] 92 (by decide)
      have e93 := byte_eq s[k] 93 (by decide)
      have hq : ((s[k].toNat : Int) == ((34 : Nat) : Int)) = true ∨ (((s[k].toNat : Int) == ((34 : Nat) : Int)) = false ∧ ((s[k].toNat : Int) == ((92 : Nat) : Int)) = true) ∨ (((s[k].toNat : Int) == ((34 : Nat) : Int)) = false ∧ ((s[k].toNat : Int) == ((92 : Nat) : Int)) = false ∧ ((s[k].toNat : Int) == ((93 : Nat) : Int)) = true) ∨ (((s[k].toNat : Int) == ((34 : Nat) : Int)) = false ∧ ((s[k].toNat : Int) == ((92 : Nat) : Int)) = false ∧ ((s[k].toNat : Int) == ((93 : Nat) : Int)) = false) := by
        cases ((s[k].toNat : Int) == ((34 : Nat) : Int)) <;> cases ((s[k].toNat : Int) == ((92 : Nat) : Int)) <;> cases ((s[k].toNat : Int) == ((93 : Nat) : Int)) <;> simp
      have hmk : isMk s[k] = (((s[k].toNat : Int) == ((34 : Nat) : Int)) || ((s[k].toNat : Int) == ((92 : Nat) : Int)) || ((s[k].toNat : Int) == ((93 : Nat) : Int))) := by
        rw [e34, e92, e93]; rfl
      have HMK := Lib.hid hmk
      clear e34 e92 e93 hmk
      rcases hq with q1 | ⟨q1, q2⟩ | ⟨q1, q2, q3⟩ | ⟨q1, q2, q3⟩
      rotate_right
      · have hE2 : Hid (escN (s.data.toList.take (k + 1)) = E ++ [s[k]]) := by
          show _ = _
          rw [HSn.out, HMK.out, q1, q2, q3]; rfl
        clear HSn HMK
        replace q1 : ((s[k].toNat : Int) == 34) = false := q1
        replace q2 : ((s[k].toNat : Int) == 92) = false := q2
        replace q3 : ((s[k].toNat : Int) == 93) = false := q3
        go_wp2_with (at_builtin; go_must (refine wpList_append_one wr rfl (.tmp 32) (.tmp 36) 40 rfl w.heap.size 5 i0 (.int .u8 0) 1 1 Tryd.underlying40 hi hz0 hz1 hz2 rfl (by decide) u3 E.length (byteCells E) [.int .u8 s[k].toNat] wr.heap.size rfl rfl rfl HO.out rfl (by simp [Value.oneCell']) (by unfold maxLen; omega) (by omega) HB.out.size ?_); intro v' w1 hown' hturn hloc; have HOW := Lib.hid hown'; have HTU := Lib.hid hturn; clear hown' hturn hloc)
        go_roundg (s.size - (k + 1))
        case measure => rw [HG.out]; omega
        case rel =>
          refine ⟨k + 1, by omega, rfl, by go_num, ?_, ?_⟩
          · rw [hE2.out]
            have := HOW.out
            simpa [byteCells] using this
          · exact HB.out.trans (HTU.out.below (fun j hj => (HO.out.lt j hj).1) HB.out.size)
      all_goals
        have hE2 : Hid (escN (s.data.toList.take (k + 1)) = (E ++ [92]) ++ [s[k]]) := by
          show _ = _
          rw [HSn.out, HMK.out, if_pos (by first | (rw [q1, q2, q3]; rfl) | (rw [q1, q2]; rfl) | (rw [q1]; rfl))]; simp
        clear HSn HMK
        try replace q1 : ((s[k].toNat : Int) == 34) = true := q1
        try replace q1 : ((s[k].toNat : Int) == 34) = false := q1
        try replace q2 : ((s[k].toNat : Int) == 92) = true := q2
        try replace q2 : ((s[k].toNat : Int) == 92) = false := q2
        try replace q3 : ((s[k].toNat : Int) == 93) = true := q3
        have tok1 : True := trivial
        go_wp2_with (first
          | (at_builtin; clear tok1; go_must (refine wpList_append_one wr rfl (.tmp 29) (.tmp 30) 40 rfl w.heap.size 5 i0 (.int .u8 0) 1 1 Tryd.underlying40 hi hz0 hz1 hz2 rfl (by decide) u3 E.length (byteCells E) [.int .u8 92] wr.heap.size rfl rfl rfl HO.out rfl (by simp [Value.oneCell']) (by unfold maxLen; omega) (by omega) HB.out.size ?_); intro v1 w1 hown' hturn hloc; have HOW : Hid (w1.ownsRow w.heap.size 5 1 v1 (E ++ [92]).length (byteCells (E ++ [92]))) := Lib.hid (by simpa [byteCells] using hown'); have hln3 : (E ++ [(92 : UInt8)]).length ≤ 2097153 := (by rw [List.length_append, List.length_cons, List.length_nil]; omega); replace HB := Lib.hid (HB.out.trans (hturn.below (fun j hj => (HO.out.lt j hj).1) HB.out.size)); clear hown' hturn hloc)
          | (at_builtin; go_must (refine wpList_append_one w1 rfl (.tmp 32) (.tmp 36) 40 rfl w.heap.size 5 i0 (.int .u8 0) 1 1 Tryd.underlying40 hi hz0 hz1 hz2 rfl (by decide) v1 (E ++ [92]).length (byteCells (E ++ [92])) [.int .u8 s[k].toNat] w1.heap.size rfl rfl rfl HOW.out rfl (by simp [Value.oneCell']) (by unfold maxLen; omega) (by omega) HB.out.size ?_); intro v2 w2 hown' hturn hloc; have HOX := Lib.hid hown'; have HTU := Lib.hid hturn; clear hown' hturn hloc))
        go_roundg (s.size - (k + 1))
        case measure => rw [HG.out]; omega
        case rel =>
          refine ⟨k + 1, by omega, rfl, by go_num, ?_, ?_⟩
          · rw [hE2.out]
            have := HOX.out
            simpa [byteCells] using this
          · exact HB.out.trans (HTU.out.below (fun j hj => (HOW.out.lt j hj).1) HB.out.size)
    · have hlt' : decide ((k : Int) < (s.size : Int)) = false := decide_eq_false (by omega)
      have hall : s.data.toList.take k = s.data.toList := List.take_of_length_le (by have : s.data.toList.length = s.size := rfl; omega)
      rw [hall] at HO
      have hconv := toText HO.out Tryd.underlying40 Tryd.underlying5 Tryd.underlying9
      clear hall
      go_wp2_with fail
      go_ret
      exact ⟨rfl, HB.out⟩
end Go.Proofs.YtdkfgobbpadmgaaDoor
