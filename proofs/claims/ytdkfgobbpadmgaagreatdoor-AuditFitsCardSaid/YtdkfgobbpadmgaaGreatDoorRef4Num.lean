/- Package tabularyref04: num and is. -/
import Derived.Test.YtdkfgobbpadmgaaGreatDoorCal4N
set_option linter.unusedVariables false
set_option linter.unusedSimpArgs false
namespace Go.Proofs.YtdkfgobbpadmgaaGreatDoor
open Go.RowKit
theorem getD_at (l : List UInt8) (p j : Nat) (h : p + j < l.length) : (l.drop p)[j]? = some (l[p + j]'h) := by
  rw [List.getElem?_drop, List.getElem?_eq_getElem h]
set_option maxHeartbeats 1000000 in
set_option maxRecDepth 100000 in
theorem num_c (s : ByteArray) (p k : Nat) (w : World) (hs : s.size ≤ 4611686018427387904) (hp : p ≤ 4611686018427387904) (hk0 : 1 ≤ k) (hk : k ≤ 4) :
    Calls Tryz.prog 52 #[.string s, .int .i64 p, .int .i64 k] w fun e w' => e = .returned (.int .i64 (numI s.data.toList p k)) ∧ w = w' := by
  obtain ⟨l, hl⟩ : ∃ l, l = s.data.toList := ⟨_, rfl⟩
  have hsz : l.length = s.size := by rw [hl]; rfl
  rw [← hl]
  have HL := Lib.hid hl; have HSZ := Lib.hid hsz
  clear hl hsz
  go_enter Tryz.func52, Tryz.ntmps52
  go_wp2_with fail
  go_loopg [7, 8] k (fun g n c wr => ∃ q : Nat, p ≤ q ∧ q ≤ p + k ∧ Hid (g = p + k - q) ∧ c = .int .i64 q ∧ n = .int .i64 (numN ((l.drop p).take (q - p))) ∧ Hid ((q = p ∨ q ≤ l.length) ∧ ((l.drop p).take (q - p)).all isDig = true) ∧ w = wr)
  case atStart => exact ⟨p, by omega, by omega, by (show _ = _; omega), rfl, by simp [numN], ⟨.inl rfl, by simp⟩, rfl⟩
  case round =>
    obtain ⟨q, hq1, hq2, HG, rfl, rfl, hd, rfl⟩ := hrel
    obtain ⟨d1, d2⟩ := hd.out
    have hnb := numN_bd 4 ((l.drop p).take (q - p)) (by rw [List.length_take]; omega) (by omega) d2
    obtain ⟨m, hm⟩ : ∃ m, m = numN ((l.drop p).take (q - p)) := ⟨_, rfl⟩
    rw [← hm] at hnb ⊢
    have HM := Lib.hid hm; have HD1 := Lib.hid d1; have HD2 := Lib.hid d2
    obtain ⟨m0, m1⟩ := hnb
    clear hm d1 d2 hd
    by_cases hlt : q < p + k
    · have hlt' : decide ((q : Int) < (p : Int) + (k : Int)) = true := decide_eq_true (by omega)
      by_cases hjl : q < s.size
      · have hjl2 : q < l.length := by rw [HSZ.out]; exact hjl
        have hget : l[q] = s[q] := by
          have : s.data.toList[q]'(by rw [← HL.out]; exact hjl2) = l[q] := by simp [HL.out]
          rw [← this]; rfl
        have hdl : q - p < (l.drop p).length := by rw [List.length_drop]; omega
        have hdg : (l.drop p)[q - p] = l[q] := by
          rw [List.getElem_drop]
          congr 1
          omega
        have hge : decide ((s.size : Int) ≤ (q : Int)) = false := decide_eq_false (by omega)
        cases hp : isDig s[q] with
        | false =>
          have hR : Hid (numI l p k = -1) := by
            show numI l p k = _
            rw [numI, if_neg (fun h => by
              have := take_not (l.drop p) k (q - p) hdl (by omega) (by rw [hdg, hget]; exact hp)
              rw [this] at h
              exact absurd h.2 (by simp))]
          have hq : s[q].toNat < 48 ∨ 57 < s[q].toNat := by
            have := of_decide_eq_false hp
            omega
          clear hp hget hdg hdl
          rcases hq with hq | hq
          · have q1 : ((s[q].toNat : Int) < 48) := by omega
            go_wp2_with fail
            go_ret
            rw [hR.out]
            exact ⟨rfl, rfl⟩
          · have q1 : ¬ ((s[q].toNat : Int) < 48) := by omega
            have q2 : ((57 : Int) < (s[q].toNat : Int)) := by omega
            go_wp2_with fail
            go_ret
            rw [hR.out]
            exact ⟨rfl, rfl⟩
        | true =>
          have hall := take_all_succ (l.drop p) (q - p) hdl HD2.out (by rw [hdg, hget]; exact hp)
          have hns : numN ((l.drop p).take (q - p + 1)) = 10 * m + ((s[q].toNat : Int) - 48) := by
            rw [List.take_succ_eq_append_getElem hdl, numN_snoc, hdg, hget, HM.out]
          have HALL := Lib.hid hall; have HNS := Lib.hid hns
          obtain ⟨q1, q2⟩ := of_decide_eq_true hp
          have q1' : ¬ ((s[q].toNat : Int) < 48) := by omega
          have q2' : ¬ ((57 : Int) < (s[q].toNat : Int)) := by omega
          clear hp hget hall hns hdg hdl
          go_wp2_with fail
          go_roundg (p + k - (q + 1))
          case measure => rw [HG.out]; omega
          case rel => exact ⟨q + 1, by omega, by omega, rfl, by go_num, by rw [show q + 1 - p = q - p + 1 by omega, HNS.out], ⟨.inr (by omega), by rw [show q + 1 - p = q - p + 1 by omega]; exact HALL.out⟩, rfl⟩
      · have hR : Hid (numI l p k = -1) := by
          show numI l p k = _
          rw [numI, if_neg (fun h => by have := HSZ.out; omega)]
        have hge : decide ((s.size : Int) ≤ (q : Int)) = true := decide_eq_true (by omega)
        go_wp2_with fail
        go_ret
        rw [hR.out]
        exact ⟨rfl, rfl⟩
    · obtain rfl : q = p + k := by omega
      have hR : Hid (numI l p k = m) := by
        show numI l p k = _
        have h2 := HD2.out
        rw [show p + k - p = k by omega] at h2
        rw [numI, if_pos ⟨by rcases HD1.out with h | h <;> omega, h2⟩, HM.out, show p + k - p = k by omega]
      have hlt' : decide (((p + k : Nat) : Int) < (p : Int) + (k : Int)) = false := decide_eq_false (by omega)
      go_wp2_with fail
      go_ret
      rw [hR.out]
      exact ⟨rfl, rfl⟩
theorem isAt_at (l : List UInt8) (p : Nat) (c : UInt8) (h : p < l.length) : isAt l p c = (l[p] == c) := by
  rw [isAt, List.drop_eq_getElem_cons h, has1, Bool.beq_comm]
theorem isAt_out (l : List UInt8) (p : Nat) (c : UInt8) (h : l.length ≤ p) : isAt l p c = false := by
  rw [isAt, List.drop_eq_nil_of_le h, has1_nil]
set_option maxHeartbeats 1000000 in
theorem is_c (s : ByteArray) (p : Nat) (c : UInt8) (w : World) (hs : s.size ≤ 4611686018427387904) (hp : p ≤ 4611686018427387904) :
    Calls Tryz.prog 53 #[.string s, .int .i64 p, .int .u8 c.toNat] w fun e w' => e = .returned (.bool (isAt s.data.toList p c)) ∧ w = w' := by
  have hsz : s.data.toList.length = s.size := rfl
  by_cases hlt : p < s.size
  · have hR : Hid (isAt s.data.toList p c = ((s[p].toNat : Int) == (c.toNat : Int))) := by
      show isAt s.data.toList p c = _
      rw [isAt_at _ p c hlt]
      have hg : s.data.toList[p]'hlt = s[p] := rfl
      rw [hg, Bool.eq_iff_iff]
      simp only [beq_iff_eq]
      constructor
      · intro h; rw [h]
      · intro h; exact UInt8.toNat_inj.1 (by omega)
    have hd : decide ((p : Int) < (s.size : Int)) = true := decide_eq_true (by omega)
    clear hsz
    go_enter Tryz.func53, Tryz.ntmps53
    go_wp2_with fail
    go_ret
    rw [hR.out]
    exact ⟨rfl, rfl⟩
  · have hR : Hid (isAt s.data.toList p c = false) := isAt_out _ p c (by rw [hsz]; omega)
    have hd : decide ((p : Int) < (s.size : Int)) = false := decide_eq_false (by omega)
    clear hsz
    go_enter Tryz.func53, Tryz.ntmps53
    go_wp2_with fail
    go_ret
    rw [hR.out]
    exact ⟨rfl, rfl⟩
end Go.Proofs.YtdkfgobbpadmgaaGreatDoor
