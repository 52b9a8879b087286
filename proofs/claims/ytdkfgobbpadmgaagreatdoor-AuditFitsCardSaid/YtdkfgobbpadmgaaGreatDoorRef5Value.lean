/- Package tabularyref05: value. -/
import Derived.Test.YtdkfgobbpadmgaaGreatDoorRef5Find
set_option linter.unusedVariables false
set_option linter.unusedSimpArgs false
namespace Go.Proofs.YtdkfgobbpadmgaaGreatDoor
open Go.RowKit
/-- what value answers -/
def RVAL (l : List UInt8) (q : Option (List UInt8 × List UInt8)) (e : Ending) : Prop :=
  match q with
  | some (v, r) => ∃ t : Nat, t ≤ l.length ∧ r = l.drop t ∧ e = .returned (.tuple #[txt v, .int .i64 t])
  | none => e = .returned (.tuple #[.string ⟨#[]⟩, .int .i64 (-1)])
theorem RVAL.no {l : List UInt8} {q : Option (List UInt8 × List UInt8)} {e : Ending} (h : q = none) (he : e = .returned (.tuple #[.string ⟨#[]⟩, .int .i64 (-1)])) : RVAL l q e := by subst h; exact he
theorem RVAL.yes {l v : List UInt8} {q : Option (List UInt8 × List UInt8)} {e : Ending} {t : Nat} (h : q = some (v, l.drop t)) (ht : t ≤ l.length) (he : e = .returned (.tuple #[txt v, .int .i64 t])) : RVAL l q e := by subst h; exact ⟨t, ht, rfl, he⟩
theorem rvalN_suffix : ∀ (n : Nat) (l o v r : List UInt8), rvalN n l o = some (v, r) → ∃ j, r = l.drop j
  | 0, _, _, _, _, h => by cases h
  | _ + 1, [], _, _, _, h => by cases h
  | n + 1, c :: l, o, v, r, h => by
    rw [rvalN] at h
    split at h
    · cases h; exact ⟨1, rfl⟩
    · split at h
      · cases h
      · split at h
        · obtain ⟨j, hj⟩ := rvalN_suffix n _ _ _ _ h
          cases l with
          | nil => exact ⟨1 + j, by rw [hj]; simp⟩
          | cons d t => exact ⟨2 + j, by rw [hj, ← List.drop_drop]; rfl⟩
        · obtain ⟨j, hj⟩ := rvalN_suffix n _ _ _ _ h
          exact ⟨1 + j, by rw [hj, ← List.drop_drop]; rfl⟩
theorem rval_suffix {l v r : List UInt8} (h : rvalP l = some (v, r)) : ∃ j, r = l.drop j := rvalN_suffix _ _ _ _ _ h
set_option maxHeartbeats 2000000 in
set_option maxRecDepth 100000 in
theorem rvalue_c (s : ByteArray) (p : Nat) (w : World) (hs : s.size ≤ 4194304) (hp : p ≤ s.size) :
    Calls Tryz.prog 56 #[.string s, .int .i64 p] w fun e w' => RVAL s.data.toList (rvalP (s.data.toList.drop p)) e ∧ Below w.heap.size w w' := by
  obtain ⟨l, hl⟩ : ∃ l, l = s.data.toList := ⟨_, rfl⟩
  have hsz : l.length = s.size := by rw [hl]; rfl
  rw [← hl]
  have HL := Lib.hid hl; have HSZ := Lib.hid hsz
  clear hl hsz
  obtain ⟨i0, hi, hz0, hz1, hz2⟩ := info_parts byteInfo
  go_enter Tryz.func56, Tryz.ntmps56
  go_wp2_with fail
  go_loopg [1, 6] (s.size + 1 - p) (fun g a v wr => ∃ (n k : Nat) (o : List UInt8), Hid (g = s.size + 1 - k) ∧ a = .int .i64 k ∧ k ≤ s.size ∧ o.length ≤ k ∧ Hid ((l.drop k).length < n ∧ rvalN n (l.drop k) o = rvalP (l.drop p)) ∧ wr.ownsRow w.heap.size 5 1 v o.length (byteCells o) ∧ Below w.heap.size w wr)
  case atStart => exact ⟨(l.drop p).length + 1, p, [], rfl, rfl, hp, by simp, ⟨by omega, rfl⟩, World.ownsRow_nil _ _ _ _, Below.refl _ _⟩
  case round =>
    obtain ⟨n, k, o, HG, rfl, hk, ho, hv, hown, hb⟩ := hrel
    have HO := Lib.hid hown; have HB := Lib.hid hb
    clear hown hb
    by_cases hlt : k < s.size
    · obtain ⟨hn, hv2⟩ := hv.out
      cases n with
      | zero => omega
      | succ n =>
      have hlt' : decide ((k : Int) < (s.size : Int)) = true := decide_eq_true (by omega)
      have hkl : k < l.length := by rw [HSZ.out]; exact hlt
      have hget : l[k] = s[k] := by
        have : s.data.toList[k]'(by rw [← HL.out]; exact hkl) = l[k] := by simp [HL.out]
        rw [← this]; rfl
      rw [List.drop_eq_getElem_cons hkl, hget] at hv2
      rw [List.length_drop] at hn
      have e34 := byte_eq s[k] 34 (by decide)
      have e93 := byte_eq s[k] 93 (by decide)
      have HV := Lib.hid hv2
      clear hv hv2 hget
      cases h34 : (s[k] == 34) with
      | true =>
        have hR : Hid (rvalP (l.drop p) = some (o, l.drop (k + 1))) := by
          have := HV.out
          rw [rvalN, if_pos h34] at this
          exact this.symm
        have hconv := toText HO.out Tryz.underlying101 Tryz.underlying5 Tryz.underlying9
        replace e34 : ((s[k].toNat : Int) == 34) = true := e34.trans h34
        clear e93 h34
        go_wp2_with fail
        go_ret2
        exact ⟨RVAL.yes hR.out (by omega) rfl, HB.out⟩
      | false =>
      replace e34 : ((s[k].toNat : Int) == 34) = false := e34.trans h34
      cases h93 : (s[k] == 93) with
      | true =>
        have hR : Hid (rvalP (l.drop p) = none) := by
          have := HV.out
          rw [rvalN, if_neg (by rw [h34]; simp), if_pos h93] at this
          exact this.symm
        replace e93 : ((s[k].toNat : Int) == 93) = true := e93.trans h93
        clear h34 h93
        go_wp2_with fail
        go_ret2
        exact ⟨RVAL.no hR.out rfl, HB.out⟩
      | false =>
      replace e93 : ((s[k].toNat : Int) == 93) = false := e93.trans h93
      have HV2 : Hid ((if escd s[k] (l.drop (k + 1)) then rvalN n (l.drop (k + 1)).tail (o ++ [(l.drop (k + 1)).headD 0]) else rvalN n (l.drop (k + 1)) (o ++ [s[k]])) = rvalP (l.drop p)) := by
        have := HV.out
        rw [rvalN, if_neg (by rw [h34]; simp), if_neg (by rw [h93]; simp)] at this
        exact this
      clear HV h34 h93
      go_upto_region 8 with fail
      go_cut [52] (fun s52 wx => s52 = .bool (escd s[k] (l.drop (k + 1))) ∧ wr = wx)
      case first =>
        have e92 := byte_eq s[k] 92 (by decide)
        cases h92 : (s[k] == 92) with
        | false =>
          have hR : Hid (escd s[k] (l.drop (k + 1)) = false) := by
            show escd _ _ = false
            cases l.drop (k + 1) with
            | nil => rfl
            | cons d r => rw [escd, h92]; rfl
          replace e92 : ((s[k].toNat : Int) == 92) = false := e92.trans h92
          clear h92
          go_wp2_with fail
          go_meet
          exact ⟨by rw [hR.out], rfl⟩
        | true =>
          replace e92 : ((s[k].toNat : Int) == 92) = true := e92.trans h92
          by_cases hlt2 : k + 1 < s.size
          · have hlt3 : decide ((k : Int) + 1 < (s.size : Int)) = true := decide_eq_true (by omega)
            have hkl2 : k + 1 < l.length := by rw [HSZ.out]; exact hlt2
            have hget2 : l[k + 1] = s[k + 1] := by
              have : s.data.toList[k + 1]'(by rw [← HL.out]; exact hkl2) = l[k + 1] := by simp [HL.out]
              rw [← this]; rfl
            have hE : Hid (escd s[k] (l.drop (k + 1)) = isMk s[k + 1]) := by
              show escd _ _ = _
              rw [List.drop_eq_getElem_cons hkl2, escd, h92, hget2]; rfl
            have f34 := byte_eq s[k + 1] 34 (by decide)
            have f92 := byte_eq s[k + 1] 92 (by decide)
            have f93 := byte_eq s[k + 1] 93 (by decide)
            clear h92 hget2
            cases q34 : (s[k + 1] == 34) with
            | true =>
              have hR : Hid (escd s[k] (l.drop (k + 1)) = true) := by
                show escd _ _ = true
                rw [hE.out, isMk, q34]; rfl
              replace f34 : ((s[k + 1].toNat : Int) == 34) = true := f34.trans q34
              clear q34 f92 f93
              go_wp2_with fail
              go_meet
              exact ⟨by rw [hR.out], rfl⟩
            | false =>
            replace f34 : ((s[k + 1].toNat : Int) == 34) = false := f34.trans q34
            cases q92 : (s[k + 1] == 92) with
            | true =>
              have hR : Hid (escd s[k] (l.drop (k + 1)) = true) := by
                show escd _ _ = true
                rw [hE.out, isMk, q34, q92]; rfl
              replace f92 : ((s[k + 1].toNat : Int) == 92) = true := f92.trans q92
              clear q34 q92 f93
              go_wp2_with fail
              go_meet
              exact ⟨by rw [hR.out], rfl⟩
            | false =>
            replace f92 : ((s[k + 1].toNat : Int) == 92) = false := f92.trans q92
            cases q93 : (s[k + 1] == 93) with
            | true =>
              have hR : Hid (escd s[k] (l.drop (k + 1)) = true) := by
                show escd _ _ = true
                rw [hE.out, isMk, q34, q92, q93]; rfl
              replace f93 : ((s[k + 1].toNat : Int) == 93) = true := f93.trans q93
              clear q34 q92 q93
              go_wp2_with fail
              go_meet
              exact ⟨by rw [hR.out], rfl⟩
            | false =>
              have hR : Hid (escd s[k] (l.drop (k + 1)) = false) := by
                show escd _ _ = false
                rw [hE.out, isMk, q34, q92, q93]; rfl
              replace f93 : ((s[k + 1].toNat : Int) == 93) = false := f93.trans q93
              clear q34 q92 q93
              go_wp2_with fail
              go_meet
              exact ⟨by rw [hR.out], rfl⟩
          · have hlt3 : decide ((k : Int) + 1 < (s.size : Int)) = false := decide_eq_false (by omega)
            have hR : Hid (escd s[k] (l.drop (k + 1)) = false) := by
              show escd _ _ = false
              rw [List.drop_eq_nil_of_le (by rw [HSZ.out]; omega)]; rfl
            clear h92
            go_wp2_with fail
            go_meet
            exact ⟨by rw [hR.out], rfl⟩
      case rest =>
        obtain ⟨rfl, rfl⟩ := hcut
        have hq : ∀ k, Value.ownBlock u6 = some k → w.heap.size ≤ k := fun k hk => (HO.out.lt k hk).1
        have HQ := Lib.hid hq
        clear hq
        cases he : escd s[k] (l.drop (k + 1)) with
        | false =>
          have hV : Hid (rvalN n (l.drop (k + 1)) (o ++ [s[k]]) = rvalP (l.drop p)) := by
            have := HV2.out
            rw [he] at this
            exact this
          clear he HV2
          go_wp2_with (at_builtin; go_must (refine wpList_append_one wr rfl (.tmp 58) (.tmp 60) 101 rfl w.heap.size 5 i0 (.int .u8 0) 1 1 Tryz.underlying101 hi hz0 hz1 hz2 rfl (by decide) u6 o.length (byteCells o) [.int .u8 s[k].toNat] wr.heap.size rfl rfl rfl HO.out rfl (by simp [Value.oneCell']) (by unfold maxLen; omega) (by omega) HB.out.size ?_); intro v' w1 hown' hturn hloc; have HOW := Lib.hid hown'; have HTU := Lib.hid hturn; clear hown' hturn hloc)
          go_roundg (s.size + 1 - (k + 1))
          case measure => rw [HG.out]; omega
          case rel =>
            exact ⟨n, k + 1, o ++ [s[k]], rfl, by go_num, by omega, by simp; omega, ⟨by rw [List.length_drop]; omega, hV.out⟩, by have := HOW.out; simpa [byteCells] using this, HB.out.trans (HTU.out.below HQ.out HB.out.size)⟩
        | true =>
          have hlt2 : k + 1 < s.size := by
            have h : k + 1 < l.length := by
              rcases Nat.lt_or_ge (k + 1) l.length with h | h
              · exact h
              · rw [List.drop_eq_nil_of_le h] at he
                cases he
            rw [HSZ.out] at h
            exact h
          have hkl2 : k + 1 < l.length := by rw [HSZ.out]; exact hlt2
          have hget2 : l[k + 1] = s[k + 1] := by
            have : s.data.toList[k + 1]'(by rw [← HL.out]; exact hkl2) = l[k + 1] := by simp [HL.out]
            rw [← this]; rfl
          have hV : Hid (rvalN n (l.drop (k + 1 + 1)) (o ++ [s[k + 1]]) = rvalP (l.drop p)) := by
            have := HV2.out
            rw [he, if_pos rfl, List.drop_eq_getElem_cons hkl2, hget2] at this
            exact this
          clear he HV2 hget2
          go_wp2_with (at_builtin; go_must (refine wpList_append_one wr rfl (.tmp 58) (.tmp 60) 101 rfl w.heap.size 5 i0 (.int .u8 0) 1 1 Tryz.underlying101 hi hz0 hz1 hz2 rfl (by decide) u6 o.length (byteCells o) [.int .u8 s[k + 1].toNat] wr.heap.size rfl rfl rfl HO.out rfl (by simp [Value.oneCell']) (by unfold maxLen; omega) (by omega) HB.out.size ?_); intro v' w1 hown' hturn hloc; have HOW := Lib.hid hown'; have HTU := Lib.hid hturn; clear hown' hturn hloc)
          go_roundg (s.size + 1 - (k + 1 + 1))
          case measure => rw [HG.out]; omega
          case rel =>
            exact ⟨n, k + 1 + 1, o ++ [s[k + 1]], rfl, by go_num, by omega, by simp; omega, ⟨by rw [List.length_drop]; omega, hV.out⟩, by have := HOW.out; simpa [byteCells] using this, HB.out.trans (HTU.out.below HQ.out HB.out.size)⟩
    · have hlt' : decide ((k : Int) < (s.size : Int)) = false := decide_eq_false (by omega)
      have hR : Hid (rvalP (l.drop p) = none) := by
        obtain ⟨hn, hv2⟩ := hv.out
        rw [List.drop_eq_nil_of_le (by rw [HSZ.out]; omega)] at hv2
        cases n with
        | zero => exact hv2.symm
        | succ n => exact hv2.symm
      clear hv
      go_wp2_with fail
      go_ret2
      exact ⟨RVAL.no hR.out rfl, HB.out⟩
end Go.Proofs.YtdkfgobbpadmgaaGreatDoor
