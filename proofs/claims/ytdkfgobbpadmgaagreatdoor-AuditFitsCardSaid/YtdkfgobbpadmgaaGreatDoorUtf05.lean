/- The document's reference of chapter 5: is a text valid UTF-8? -/
import Derived.Test.YtdkfgobbpadmgaaGreatDoorUtfMath
import Derived.Test.YtdkfgobbpadmgaaGreatDoorSyslElems
set_option linter.unusedVariables false
set_option linter.unusedSimpArgs false
namespace Go.Proofs.YtdkfgobbpadmgaaGreatDoor
open Go.RowKit
theorem getD_drop8 (l : List UInt8) (k r : Nat) : (l.drop k).getD r 0 = l.getD (k + r) 0 := by
  rw [List.getD_eq_getElem?_getD, List.getD_eq_getElem?_getD, List.getElem?_drop]
theorem utfV_bd (v0 : Int) (d : Nat → Nat) (h0 : 0 ≤ v0 ∧ v0 ≤ 31) (hd : ∀ r, d r ≤ 255) : ∀ j, j ≤ 3 → (∀ r, 1 ≤ r → r ≤ j → 128 ≤ d r) → 0 ≤ utfV v0 d j ∧ utfV v0 d j ≤ 10000000 := by
  intro j hj h
  match j, hj with
  | 0, _ => simp only [utfV]; omega
  | 1, _ =>
    have a1 := h 1 (by omega) (by omega); have b1 := hd 1
    simp only [utfV, Nat.zero_add]; omega
  | 2, _ =>
    have a1 := h 1 (by omega) (by omega); have b1 := hd 1
    have a2 := h 2 (by omega) (by omega); have b2 := hd 2
    simp only [utfV, Nat.zero_add, Nat.reduceAdd]; omega
  | 3, _ =>
    have a1 := h 1 (by omega) (by omega); have b1 := hd 1
    have a2 := h 2 (by omega) (by omega); have b2 := hd 2
    have a3 := h 3 (by omega) (by omega); have b3 := hd 3
    simp only [utfV, Nat.zero_add, Nat.reduceAdd]; omega
set_option maxHeartbeats 4000000 in
set_option maxRecDepth 100000 in
theorem utf8_c (s : ByteArray) (w : World) (hl : s.size ≤ 4611686018427387904) :
    Calls Tryz.prog 59 #[.string s] w fun e w' => e = .returned (.bool (Lib.validD s.data.toList)) ∧ w = w' := by
  have hsz : s.data.toList.length = s.size := rfl
  have HSZ := Lib.hid hsz; clear hsz
  go_enter Tryz.func59, Tryz.ntmps59
  go_wp2_with fail
  go_loopg [3] s.size (fun g i wr => ∃ k : Nat, k ≤ s.size ∧ g = s.size - k ∧ i = .int .i64 k ∧ Hid (Lib.validD (s.data.toList.drop k) = Lib.validD s.data.toList) ∧ w = wr)
  case atStart => exact ⟨0, by omega, rfl, rfl, rfl, rfl⟩
  case round =>
    obtain ⟨k, hk, hg, rfl, hv, rfl⟩ := hrel
    have HGK := Lib.hid hg; clear hg
    by_cases hlt : k < s.size
    · have hne : s.data.toList.drop k ≠ [] := by
        intro e
        have := congrArg List.length e
        rw [List.length_drop, HSZ.out] at this
        simp at this
        omega
      have hget : ∀ r (hr : k + r < s.size), (s.data.toList.drop k).getD r 0 = s[k + r] := fun r hr => by
        rw [getD_drop8, List.getD_eq_getElem?_getD, List.getElem?_eq_getElem (by rw [HSZ.out]; exact hr)]
        rfl
      have h0 := hget 0 (by omega)
      have hc0 : (((s.data.toList.drop k).getD 0 0).toNat : Int) = (s[k].toNat : Int) := by rw [h0]; rfl
      have hcb := s[k].toNat_lt
      obtain ⟨c, hc⟩ : ∃ c, c = s[k].toNat := ⟨_, rfl⟩
      have HC0 : Hid (((s.data.toList.drop k).getD 0 0).toNat = s[k].toNat) := Lib.hid (by rw [h0]; rfl)
      have HGET := Lib.hid hget
      have HNE := Lib.hid hne
      clear hget h0 hc0 hne hc
      by_cases c128 : s[k].toNat < 128
      · have hV : Hid (Lib.validD (s.data.toList.drop (k + 1)) = Lib.validD s.data.toList) := by
          show _ = Lib.validD s.data.toList
          rw [← hv.out]
          have hkl : k < s.data.toList.length := by rw [HSZ.out]; exact hlt
          rw [List.drop_eq_getElem_cons hkl]
          exact (Lib.validD_cons _ _ c128).symm
        have c1 : ((s[k].toNat : Int) < 128) := by omega
        clear hv
        go_wp2_with fail
        go_roundg (s.size - (k + 1))
        case measure => rw [HGK.out]; omega
        case rel => exact ⟨k + 1, by omega, rfl, by go_num, hV.out, rfl⟩
      by_cases cno : s[k].toNat < 194 ∨ 245 ≤ s[k].toNat
      · have hR : Hid (Lib.validD s.data.toList = false) := by
          show _ = false
          rw [← hv.out]
          exact utf_no _ HNE.out (by rw [HC0.out]; omega)
        clear hv
        have c1 : ¬ ((s[k].toNat : Int) < 128) := by omega
        rcases cno with cno | cno
        · have c2 : decide ((194 : Int) ≤ (s[k].toNat : Int)) = false := decide_eq_false (by omega)
          have c3 : decide ((224 : Int) ≤ (s[k].toNat : Int)) = false := decide_eq_false (by omega)
          have c4 : decide ((240 : Int) ≤ (s[k].toNat : Int)) = false := decide_eq_false (by omega)
          go_wp2_with fail
          go_ret
          exact ⟨ret_v (by rw [hR.out]; rfl), rfl⟩
        · have c2 : decide ((s[k].toNat : Int) ≤ 223) = false := decide_eq_false (by omega)
          have c3 : decide ((s[k].toNat : Int) ≤ 239) = false := decide_eq_false (by omega)
          have c4 : decide ((s[k].toNat : Int) ≤ 244) = false := decide_eq_false (by omega)
          go_wp2_with fail
          go_ret
          exact ⟨ret_v (by rw [hR.out]; rfl), rfl⟩
      have c1 : ¬ ((s[k].toNat : Int) < 128) := by omega
      have hcls : (194 ≤ s[k].toNat ∧ s[k].toNat ≤ 223) ∨ (224 ≤ s[k].toNat ∧ s[k].toNat ≤ 239) ∨ (240 ≤ s[k].toNat ∧ s[k].toNat ≤ 244) := by omega
      rcases hcls with ⟨cl, ch⟩ | ⟨cl, ch⟩ | ⟨cl, ch⟩
      · obtain ⟨uS, uB, uA⟩ := utf_all (s.data.toList.drop k) HNE.out 1 128 ((s[k].toNat : Int) - 192) (by unfold utfC; rw [HC0.out]; omega)
        rw [List.length_drop, HSZ.out] at uS uA
        rw [hv.out] at uS uB uA
        have US := Lib.hid uS; have UB := Lib.hid uB; have UA := Lib.hid uA
        clear uS uB uA hv
        have y0 : decide ((194 : Int) ≤ (s[k].toNat : Int)) = true := decide_eq_true (by omega)
        have y1 : decide ((s[k].toNat : Int) ≤ 223) = true := decide_eq_true (by omega)
        by_cases hlen : k + 1 < s.size
        rotate_left
        · have hR : Hid (Lib.validD s.data.toList = false) := Lib.hid (US.out (by omega))
          have hlen' : decide ((s.size : Int) ≤ (k : Int) + 1) = true := decide_eq_true (by omega)
          clear hlen
          go_wp2_with fail
          go_ret
          exact ⟨ret_v (by rw [hR.out]; rfl), rfl⟩
        · have hlen' : decide ((s.size : Int) ≤ (k : Int) + 1) = false := decide_eq_false (by omega)
          go_wp2_with fail
          go_loopg [7, 8] 1 (fun g v kk wr => ∃ j : Nat, j ≤ 1 ∧ g = 1 - j ∧ v = .int .i64 (utfV ((s[k].toNat : Int) - 192) (fun r => ((s.data.toList.drop k).getD r 0).toNat) j) ∧ kk = .int .i64 ((j : Int) + 1) ∧ Hid (∀ r, 1 ≤ r → r ≤ j → 128 ≤ ((s.data.toList.drop k).getD r 0).toNat ∧ ((s.data.toList.drop k).getD r 0).toNat ≤ 191) ∧ w = wr)
          case atStart => exact ⟨0, by omega, rfl, rfl, rfl, fun r h1 h2 => absurd h1 (by omega), rfl⟩
          case round =>
            obtain ⟨j, hj, hg, rfl, rfl, hrg, rfl⟩ := hrel
            have HGJ := Lib.hid hg; clear hg
            have hbd := utfV_bd ((s[k].toNat : Int) - 192) (fun r => ((s.data.toList.drop k).getD r 0).toNat) (by omega) (fun r => by have := ((s.data.toList.drop k).getD r 0).toNat_lt; omega) j (by omega) (fun r r1 r2 => (hrg.out r r1 r2).1)
            have hvs : utfV ((s[k].toNat : Int) - 192) (fun r => ((s.data.toList.drop k).getD r 0).toNat) (j + 1) = 64 * (utfV ((s[k].toNat : Int) - 192) (fun r => ((s.data.toList.drop k).getD r 0).toNat) j) + (((s.data.toList.drop k).getD (j + 1) 0).toNat : Int) - 128 := rfl
            have HVS := Lib.hid hvs; clear hvs
            obtain ⟨vj, hvj⟩ : ∃ vj, vj = (utfV ((s[k].toNat : Int) - 192) (fun r => ((s.data.toList.drop k).getD r 0).toNat) j) := ⟨_, rfl⟩
            rw [← hvj] at hbd ⊢
            have HVJ := Lib.hid hvj; clear hvj
            obtain ⟨hb0, hb1⟩ := hbd
            by_cases hj0 : j = 0
            · subst hj0
              have hd := HGET.out 1 (by omega)
              have hdb := s[k + 1].toNat_lt
              have e1 : (((0 : Nat) : Int) + 1) = 1 := rfl
              rw [e1]
              have i1 : ((k : Int) + 1).toNat = k + 1 := by omega
              have HD := Lib.hid hd; clear hd
              by_cases d1 : s[k + 1].toNat < 128
              · have hR : Hid (Lib.validD s.data.toList = false) := Lib.hid (UB.out 1 (by omega) (by omega) (by rw [HD.out]; omega))
                have d1' : ((s[k + 1].toNat : Int) < 128) := by omega
                go_wp2_with fail
                go_ret
                exact ⟨ret_v (by rw [hR.out]; rfl), rfl⟩
              by_cases d2 : 191 < s[k + 1].toNat
              · have hR : Hid (Lib.validD s.data.toList = false) := Lib.hid (UB.out 1 (by omega) (by omega) (by rw [HD.out]; omega))
                have d1' : ¬ ((s[k + 1].toNat : Int) < 128) := by omega
                have d2' : ((191 : Int) < (s[k + 1].toNat : Int)) := by omega
                go_wp2_with fail
                go_ret
                exact ⟨ret_v (by rw [hR.out]; rfl), rfl⟩
              have d1' : ¬ ((s[k + 1].toNat : Int) < 128) := by omega
              have d2' : ¬ ((191 : Int) < (s[k + 1].toNat : Int)) := by omega
              go_wp2_with fail
              go_roundg (1 - 1)
              case measure => rw [HGJ.out]; omega
              case rel =>
                refine ⟨1, by omega, rfl, ?_, rfl, fun r h1 h2 => ?_, rfl⟩
                · rw [HVS.out, ← HVJ.out, HD.out]
                · by_cases hr : r = 1
                  · subst hr
                    rw [HD.out]; omega
                  · exact hrg.out r h1 (by omega)
            obtain rfl : j = 1 := by omega
            have e1 : (((1 : Nat) : Int) + 1) = 2 := rfl
            rw [e1]
            obtain ⟨uF, uT⟩ := UA.out (by omega) hrg.out
            rw [← HVJ.out] at uF uT
            have UF := Lib.hid uF; have UT := Lib.hid uT
            clear uF uT
            by_cases hF : vj < 128 ∨ 1114111 < vj ∨ (55296 ≤ vj ∧ vj ≤ 57343)
            · have hR : Hid (Lib.validD s.data.toList = false) := Lib.hid (UF.out hF)
              rcases hF with f1 | f1 | ⟨f1, f2⟩
              · go_wp2_with fail
                go_ret
                exact ⟨ret_v (by rw [hR.out]; rfl), rfl⟩
              · have f0 : ¬ vj < 128 := by omega
                go_wp2_with fail
                go_ret
                exact ⟨ret_v (by rw [hR.out]; rfl), rfl⟩
              · by_cases f0 : vj < 128
                · go_wp2_with fail
                  go_ret
                  exact ⟨ret_v (by rw [hR.out]; rfl), rfl⟩
                · have f3 : ¬ 1114111 < vj := by omega
                  have f1' : decide (55296 ≤ vj) = true := decide_eq_true f1
                  have f2' : decide (vj ≤ 57343) = true := decide_eq_true f2
                  go_wp2_with fail
                  go_ret
                  exact ⟨ret_v (by rw [hR.out]; rfl), rfl⟩
            · have hV : Hid (Lib.validD (s.data.toList.drop (k + 2)) = Lib.validD s.data.toList) := by
                show _ = Lib.validD s.data.toList
                rw [UT.out hF, List.drop_drop]
              have f0 : ¬ vj < 128 := by omega
              have f3 : ¬ 1114111 < vj := by omega
              by_cases f1 : 55296 ≤ vj
              · have f1' : decide (55296 ≤ vj) = true := decide_eq_true f1
                have f2' : decide (vj ≤ 57343) = false := decide_eq_false (by omega)
                clear hF
                go_wp2_with fail
                go_roundg (s.size - (k + 2))
                case measure => rw [HGK.out]; omega
                case rel => exact ⟨k + 2, by omega, rfl, by go_num, hV.out, rfl⟩
              · have f1' : decide (55296 ≤ vj) = false := decide_eq_false f1
                clear hF
                go_wp2_with fail
                go_roundg (s.size - (k + 2))
                case measure => rw [HGK.out]; omega
                case rel => exact ⟨k + 2, by omega, rfl, by go_num, hV.out, rfl⟩
      · obtain ⟨uS, uB, uA⟩ := utf_all (s.data.toList.drop k) HNE.out 2 2048 ((s[k].toNat : Int) - 224) (by unfold utfC; rw [HC0.out]; omega)
        rw [List.length_drop, HSZ.out] at uS uA
        rw [hv.out] at uS uB uA
        have US := Lib.hid uS; have UB := Lib.hid uB; have UA := Lib.hid uA
        clear uS uB uA hv
        have y0 : decide ((224 : Int) ≤ (s[k].toNat : Int)) = true := decide_eq_true (by omega)
        have y1 : decide ((s[k].toNat : Int) ≤ 239) = true := decide_eq_true (by omega)
        have x0 : decide ((194 : Int) ≤ (s[k].toNat : Int)) = true := decide_eq_true (by omega)
        have n0 : decide ((s[k].toNat : Int) ≤ 223) = false := decide_eq_false (by omega)
        by_cases hlen : k + 2 < s.size
        rotate_left
        · have hR : Hid (Lib.validD s.data.toList = false) := Lib.hid (US.out (by omega))
          have hlen' : decide ((s.size : Int) ≤ (k : Int) + 2) = true := decide_eq_true (by omega)
          clear hlen
          go_wp2_with fail
          go_ret
          exact ⟨ret_v (by rw [hR.out]; rfl), rfl⟩
        · have hlen' : decide ((s.size : Int) ≤ (k : Int) + 2) = false := decide_eq_false (by omega)
          go_wp2_with fail
          go_loopg [7, 8] 2 (fun g v kk wr => ∃ j : Nat, j ≤ 2 ∧ g = 2 - j ∧ v = .int .i64 (utfV ((s[k].toNat : Int) - 224) (fun r => ((s.data.toList.drop k).getD r 0).toNat) j) ∧ kk = .int .i64 ((j : Int) + 1) ∧ Hid (∀ r, 1 ≤ r → r ≤ j → 128 ≤ ((s.data.toList.drop k).getD r 0).toNat ∧ ((s.data.toList.drop k).getD r 0).toNat ≤ 191) ∧ w = wr)
          case atStart => exact ⟨0, by omega, rfl, rfl, rfl, fun r h1 h2 => absurd h1 (by omega), rfl⟩
          case round =>
            obtain ⟨j, hj, hg, rfl, rfl, hrg, rfl⟩ := hrel
            have HGJ := Lib.hid hg; clear hg
            have hbd := utfV_bd ((s[k].toNat : Int) - 224) (fun r => ((s.data.toList.drop k).getD r 0).toNat) (by omega) (fun r => by have := ((s.data.toList.drop k).getD r 0).toNat_lt; omega) j (by omega) (fun r r1 r2 => (hrg.out r r1 r2).1)
            have hvs : utfV ((s[k].toNat : Int) - 224) (fun r => ((s.data.toList.drop k).getD r 0).toNat) (j + 1) = 64 * (utfV ((s[k].toNat : Int) - 224) (fun r => ((s.data.toList.drop k).getD r 0).toNat) j) + (((s.data.toList.drop k).getD (j + 1) 0).toNat : Int) - 128 := rfl
            have HVS := Lib.hid hvs; clear hvs
            obtain ⟨vj, hvj⟩ : ∃ vj, vj = (utfV ((s[k].toNat : Int) - 224) (fun r => ((s.data.toList.drop k).getD r 0).toNat) j) := ⟨_, rfl⟩
            rw [← hvj] at hbd ⊢
            have HVJ := Lib.hid hvj; clear hvj
            obtain ⟨hb0, hb1⟩ := hbd
            by_cases hj0 : j = 0
            · subst hj0
              have hd := HGET.out 1 (by omega)
              have hdb := s[k + 1].toNat_lt
              have e1 : (((0 : Nat) : Int) + 1) = 1 := rfl
              rw [e1]
              have i1 : ((k : Int) + 1).toNat = k + 1 := by omega
              have HD := Lib.hid hd; clear hd
              by_cases d1 : s[k + 1].toNat < 128
              · have hR : Hid (Lib.validD s.data.toList = false) := Lib.hid (UB.out 1 (by omega) (by omega) (by rw [HD.out]; omega))
                have d1' : ((s[k + 1].toNat : Int) < 128) := by omega
                go_wp2_with fail
                go_ret
                exact ⟨ret_v (by rw [hR.out]; rfl), rfl⟩
              by_cases d2 : 191 < s[k + 1].toNat
              · have hR : Hid (Lib.validD s.data.toList = false) := Lib.hid (UB.out 1 (by omega) (by omega) (by rw [HD.out]; omega))
                have d1' : ¬ ((s[k + 1].toNat : Int) < 128) := by omega
                have d2' : ((191 : Int) < (s[k + 1].toNat : Int)) := by omega
                go_wp2_with fail
                go_ret
                exact ⟨ret_v (by rw [hR.out]; rfl), rfl⟩
              have d1' : ¬ ((s[k + 1].toNat : Int) < 128) := by omega
              have d2' : ¬ ((191 : Int) < (s[k + 1].toNat : Int)) := by omega
              go_wp2_with fail
              go_roundg (2 - 1)
              case measure => rw [HGJ.out]; omega
              case rel =>
                refine ⟨1, by omega, rfl, ?_, rfl, fun r h1 h2 => ?_, rfl⟩
                · rw [HVS.out, ← HVJ.out, HD.out]
                · by_cases hr : r = 1
                  · subst hr
                    rw [HD.out]; omega
                  · exact hrg.out r h1 (by omega)
            by_cases hj1 : j = 1
            · subst hj1
              have hd := HGET.out 2 (by omega)
              have hdb := s[k + 2].toNat_lt
              have e1 : (((1 : Nat) : Int) + 1) = 2 := rfl
              rw [e1]
              have i1 : ((k : Int) + 2).toNat = k + 2 := by omega
              have HD := Lib.hid hd; clear hd
              by_cases d1 : s[k + 2].toNat < 128
              · have hR : Hid (Lib.validD s.data.toList = false) := Lib.hid (UB.out 2 (by omega) (by omega) (by rw [HD.out]; omega))
                have d1' : ((s[k + 2].toNat : Int) < 128) := by omega
                go_wp2_with fail
                go_ret
                exact ⟨ret_v (by rw [hR.out]; rfl), rfl⟩
              by_cases d2 : 191 < s[k + 2].toNat
              · have hR : Hid (Lib.validD s.data.toList = false) := Lib.hid (UB.out 2 (by omega) (by omega) (by rw [HD.out]; omega))
                have d1' : ¬ ((s[k + 2].toNat : Int) < 128) := by omega
                have d2' : ((191 : Int) < (s[k + 2].toNat : Int)) := by omega
                go_wp2_with fail
                go_ret
                exact ⟨ret_v (by rw [hR.out]; rfl), rfl⟩
              have d1' : ¬ ((s[k + 2].toNat : Int) < 128) := by omega
              have d2' : ¬ ((191 : Int) < (s[k + 2].toNat : Int)) := by omega
              go_wp2_with fail
              go_roundg (2 - 2)
              case measure => rw [HGJ.out]; omega
              case rel =>
                refine ⟨2, by omega, rfl, ?_, rfl, fun r h1 h2 => ?_, rfl⟩
                · rw [HVS.out, ← HVJ.out, HD.out]
                · by_cases hr : r = 2
                  · subst hr
                    rw [HD.out]; omega
                  · exact hrg.out r h1 (by omega)
            obtain rfl : j = 2 := by omega
            have e1 : (((2 : Nat) : Int) + 1) = 3 := rfl
            rw [e1]
            obtain ⟨uF, uT⟩ := UA.out (by omega) hrg.out
            rw [← HVJ.out] at uF uT
            have UF := Lib.hid uF; have UT := Lib.hid uT
            clear uF uT
            by_cases hF : vj < 2048 ∨ 1114111 < vj ∨ (55296 ≤ vj ∧ vj ≤ 57343)
            · have hR : Hid (Lib.validD s.data.toList = false) := Lib.hid (UF.out hF)
              rcases hF with f1 | f1 | ⟨f1, f2⟩
              · go_wp2_with fail
                go_ret
                exact ⟨ret_v (by rw [hR.out]; rfl), rfl⟩
              · have f0 : ¬ vj < 2048 := by omega
                go_wp2_with fail
                go_ret
                exact ⟨ret_v (by rw [hR.out]; rfl), rfl⟩
              · by_cases f0 : vj < 2048
                · go_wp2_with fail
                  go_ret
                  exact ⟨ret_v (by rw [hR.out]; rfl), rfl⟩
                · have f3 : ¬ 1114111 < vj := by omega
                  have f1' : decide (55296 ≤ vj) = true := decide_eq_true f1
                  have f2' : decide (vj ≤ 57343) = true := decide_eq_true f2
                  go_wp2_with fail
                  go_ret
                  exact ⟨ret_v (by rw [hR.out]; rfl), rfl⟩
            · have hV : Hid (Lib.validD (s.data.toList.drop (k + 3)) = Lib.validD s.data.toList) := by
                show _ = Lib.validD s.data.toList
                rw [UT.out hF, List.drop_drop]
              have f0 : ¬ vj < 2048 := by omega
              have f3 : ¬ 1114111 < vj := by omega
              by_cases f1 : 55296 ≤ vj
              · have f1' : decide (55296 ≤ vj) = true := decide_eq_true f1
                have f2' : decide (vj ≤ 57343) = false := decide_eq_false (by omega)
                clear hF
                go_wp2_with fail
                go_roundg (s.size - (k + 3))
                case measure => rw [HGK.out]; omega
                case rel => exact ⟨k + 3, by omega, rfl, by go_num, hV.out, rfl⟩
              · have f1' : decide (55296 ≤ vj) = false := decide_eq_false f1
                clear hF
                go_wp2_with fail
                go_roundg (s.size - (k + 3))
                case measure => rw [HGK.out]; omega
                case rel => exact ⟨k + 3, by omega, rfl, by go_num, hV.out, rfl⟩
      · obtain ⟨uS, uB, uA⟩ := utf_all (s.data.toList.drop k) HNE.out 3 65536 ((s[k].toNat : Int) - 240) (by unfold utfC; rw [HC0.out]; omega)
        rw [List.length_drop, HSZ.out] at uS uA
        rw [hv.out] at uS uB uA
        have US := Lib.hid uS; have UB := Lib.hid uB; have UA := Lib.hid uA
        clear uS uB uA hv
        have y0 : decide ((240 : Int) ≤ (s[k].toNat : Int)) = true := decide_eq_true (by omega)
        have y1 : decide ((s[k].toNat : Int) ≤ 244) = true := decide_eq_true (by omega)
        have x0 : decide ((194 : Int) ≤ (s[k].toNat : Int)) = true := decide_eq_true (by omega)
        have x1 : decide ((224 : Int) ≤ (s[k].toNat : Int)) = true := decide_eq_true (by omega)
        have n0 : decide ((s[k].toNat : Int) ≤ 223) = false := decide_eq_false (by omega)
        have n1 : decide ((s[k].toNat : Int) ≤ 239) = false := decide_eq_false (by omega)
        by_cases hlen : k + 3 < s.size
        rotate_left
        · have hR : Hid (Lib.validD s.data.toList = false) := Lib.hid (US.out (by omega))
          have hlen' : decide ((s.size : Int) ≤ (k : Int) + 3) = true := decide_eq_true (by omega)
          clear hlen
          go_wp2_with fail
          go_ret
          exact ⟨ret_v (by rw [hR.out]; rfl), rfl⟩
        · have hlen' : decide ((s.size : Int) ≤ (k : Int) + 3) = false := decide_eq_false (by omega)
          go_wp2_with fail
          go_loopg [7, 8] 3 (fun g v kk wr => ∃ j : Nat, j ≤ 3 ∧ g = 3 - j ∧ v = .int .i64 (utfV ((s[k].toNat : Int) - 240) (fun r => ((s.data.toList.drop k).getD r 0).toNat) j) ∧ kk = .int .i64 ((j : Int) + 1) ∧ Hid (∀ r, 1 ≤ r → r ≤ j → 128 ≤ ((s.data.toList.drop k).getD r 0).toNat ∧ ((s.data.toList.drop k).getD r 0).toNat ≤ 191) ∧ w = wr)
          case atStart => exact ⟨0, by omega, rfl, rfl, rfl, fun r h1 h2 => absurd h1 (by omega), rfl⟩
          case round =>
            obtain ⟨j, hj, hg, rfl, rfl, hrg, rfl⟩ := hrel
            have HGJ := Lib.hid hg; clear hg
            have hbd := utfV_bd ((s[k].toNat : Int) - 240) (fun r => ((s.data.toList.drop k).getD r 0).toNat) (by omega) (fun r => by have := ((s.data.toList.drop k).getD r 0).toNat_lt; omega) j (by omega) (fun r r1 r2 => (hrg.out r r1 r2).1)
            have hvs : utfV ((s[k].toNat : Int) - 240) (fun r => ((s.data.toList.drop k).getD r 0).toNat) (j + 1) = 64 * (utfV ((s[k].toNat : Int) - 240) (fun r => ((s.data.toList.drop k).getD r 0).toNat) j) + (((s.data.toList.drop k).getD (j + 1) 0).toNat : Int) - 128 := rfl
            have HVS := Lib.hid hvs; clear hvs
            obtain ⟨vj, hvj⟩ : ∃ vj, vj = (utfV ((s[k].toNat : Int) - 240) (fun r => ((s.data.toList.drop k).getD r 0).toNat) j) := ⟨_, rfl⟩
            rw [← hvj] at hbd ⊢
            have HVJ := Lib.hid hvj; clear hvj
            obtain ⟨hb0, hb1⟩ := hbd
            by_cases hj0 : j = 0
            · subst hj0
              have hd := HGET.out 1 (by omega)
              have hdb := s[k + 1].toNat_lt
              have e1 : (((0 : Nat) : Int) + 1) = 1 := rfl
              rw [e1]
              have i1 : ((k : Int) + 1).toNat = k + 1 := by omega
              have HD := Lib.hid hd; clear hd
              by_cases d1 : s[k + 1].toNat < 128
              · have hR : Hid (Lib.validD s.data.toList = false) := Lib.hid (UB.out 1 (by omega) (by omega) (by rw [HD.out]; omega))
                have d1' : ((s[k + 1].toNat : Int) < 128) := by omega
                go_wp2_with fail
                go_ret
                exact ⟨ret_v (by rw [hR.out]; rfl), rfl⟩
              by_cases d2 : 191 < s[k + 1].toNat
              · have hR : Hid (Lib.validD s.data.toList = false) := Lib.hid (UB.out 1 (by omega) (by omega) (by rw [HD.out]; omega))
                have d1' : ¬ ((s[k + 1].toNat : Int) < 128) := by omega
                have d2' : ((191 : Int) < (s[k + 1].toNat : Int)) := by omega
                go_wp2_with fail
                go_ret
                exact ⟨ret_v (by rw [hR.out]; rfl), rfl⟩
              have d1' : ¬ ((s[k + 1].toNat : Int) < 128) := by omega
              have d2' : ¬ ((191 : Int) < (s[k + 1].toNat : Int)) := by omega
              go_wp2_with fail
              go_roundg (3 - 1)
              case measure => rw [HGJ.out]; omega
              case rel =>
                refine ⟨1, by omega, rfl, ?_, rfl, fun r h1 h2 => ?_, rfl⟩
                · rw [HVS.out, ← HVJ.out, HD.out]
                · by_cases hr : r = 1
                  · subst hr
                    rw [HD.out]; omega
                  · exact hrg.out r h1 (by omega)
            by_cases hj1 : j = 1
            · subst hj1
              have hd := HGET.out 2 (by omega)
              have hdb := s[k + 2].toNat_lt
              have e1 : (((1 : Nat) : Int) + 1) = 2 := rfl
              rw [e1]
              have i1 : ((k : Int) + 2).toNat = k + 2 := by omega
              have HD := Lib.hid hd; clear hd
              by_cases d1 : s[k + 2].toNat < 128
              · have hR : Hid (Lib.validD s.data.toList = false) := Lib.hid (UB.out 2 (by omega) (by omega) (by rw [HD.out]; omega))
                have d1' : ((s[k + 2].toNat : Int) < 128) := by omega
                go_wp2_with fail
                go_ret
                exact ⟨ret_v (by rw [hR.out]; rfl), rfl⟩
              by_cases d2 : 191 < s[k + 2].toNat
              · have hR : Hid (Lib.validD s.data.toList = false) := Lib.hid (UB.out 2 (by omega) (by omega) (by rw [HD.out]; omega))
                have d1' : ¬ ((s[k + 2].toNat : Int) < 128) := by omega
                have d2' : ((191 : Int) < (s[k + 2].toNat : Int)) := by omega
                go_wp2_with fail
                go_ret
                exact ⟨ret_v (by rw [hR.out]; rfl), rfl⟩
              have d1' : ¬ ((s[k + 2].toNat : Int) < 128) := by omega
              have d2' : ¬ ((191 : Int) < (s[k + 2].toNat : Int)) := by omega
              go_wp2_with fail
              go_roundg (3 - 2)
              case measure => rw [HGJ.out]; omega
              case rel =>
                refine ⟨2, by omega, rfl, ?_, rfl, fun r h1 h2 => ?_, rfl⟩
                · rw [HVS.out, ← HVJ.out, HD.out]
                · by_cases hr : r = 2
                  · subst hr
                    rw [HD.out]; omega
                  · exact hrg.out r h1 (by omega)
            by_cases hj2 : j = 2
            · subst hj2
              have hd := HGET.out 3 (by omega)
              have hdb := s[k + 3].toNat_lt
              have e1 : (((2 : Nat) : Int) + 1) = 3 := rfl
              rw [e1]
              have i1 : ((k : Int) + 3).toNat = k + 3 := by omega
              have HD := Lib.hid hd; clear hd
              by_cases d1 : s[k + 3].toNat < 128
              · have hR : Hid (Lib.validD s.data.toList = false) := Lib.hid (UB.out 3 (by omega) (by omega) (by rw [HD.out]; omega))
                have d1' : ((s[k + 3].toNat : Int) < 128) := by omega
                go_wp2_with fail
                go_ret
                exact ⟨ret_v (by rw [hR.out]; rfl), rfl⟩
              by_cases d2 : 191 < s[k + 3].toNat
              · have hR : Hid (Lib.validD s.data.toList = false) := Lib.hid (UB.out 3 (by omega) (by omega) (by rw [HD.out]; omega))
                have d1' : ¬ ((s[k + 3].toNat : Int) < 128) := by omega
                have d2' : ((191 : Int) < (s[k + 3].toNat : Int)) := by omega
                go_wp2_with fail
                go_ret
                exact ⟨ret_v (by rw [hR.out]; rfl), rfl⟩
              have d1' : ¬ ((s[k + 3].toNat : Int) < 128) := by omega
              have d2' : ¬ ((191 : Int) < (s[k + 3].toNat : Int)) := by omega
              go_wp2_with fail
              go_roundg (3 - 3)
              case measure => rw [HGJ.out]; omega
              case rel =>
                refine ⟨3, by omega, rfl, ?_, rfl, fun r h1 h2 => ?_, rfl⟩
                · rw [HVS.out, ← HVJ.out, HD.out]
                · by_cases hr : r = 3
                  · subst hr
                    rw [HD.out]; omega
                  · exact hrg.out r h1 (by omega)
            obtain rfl : j = 3 := by omega
            have e1 : (((3 : Nat) : Int) + 1) = 4 := rfl
            rw [e1]
            obtain ⟨uF, uT⟩ := UA.out (by omega) hrg.out
            rw [← HVJ.out] at uF uT
            have UF := Lib.hid uF; have UT := Lib.hid uT
            clear uF uT
            by_cases hF : vj < 65536 ∨ 1114111 < vj ∨ (55296 ≤ vj ∧ vj ≤ 57343)
            · have hR : Hid (Lib.validD s.data.toList = false) := Lib.hid (UF.out hF)
              rcases hF with f1 | f1 | ⟨f1, f2⟩
              · go_wp2_with fail
                go_ret
                exact ⟨ret_v (by rw [hR.out]; rfl), rfl⟩
              · have f0 : ¬ vj < 65536 := by omega
                go_wp2_with fail
                go_ret
                exact ⟨ret_v (by rw [hR.out]; rfl), rfl⟩
              · by_cases f0 : vj < 65536
                · go_wp2_with fail
                  go_ret
                  exact ⟨ret_v (by rw [hR.out]; rfl), rfl⟩
                · have f3 : ¬ 1114111 < vj := by omega
                  have f1' : decide (55296 ≤ vj) = true := decide_eq_true f1
                  have f2' : decide (vj ≤ 57343) = true := decide_eq_true f2
                  go_wp2_with fail
                  go_ret
                  exact ⟨ret_v (by rw [hR.out]; rfl), rfl⟩
            · have hV : Hid (Lib.validD (s.data.toList.drop (k + 4)) = Lib.validD s.data.toList) := by
                show _ = Lib.validD s.data.toList
                rw [UT.out hF, List.drop_drop]
              have f0 : ¬ vj < 65536 := by omega
              have f3 : ¬ 1114111 < vj := by omega
              by_cases f1 : 55296 ≤ vj
              · have f1' : decide (55296 ≤ vj) = true := decide_eq_true f1
                have f2' : decide (vj ≤ 57343) = false := decide_eq_false (by omega)
                clear hF
                go_wp2_with fail
                go_roundg (s.size - (k + 4))
                case measure => rw [HGK.out]; omega
                case rel => exact ⟨k + 4, by omega, rfl, by go_num, hV.out, rfl⟩
              · have f1' : decide (55296 ≤ vj) = false := decide_eq_false f1
                clear hF
                go_wp2_with fail
                go_roundg (s.size - (k + 4))
                case measure => rw [HGK.out]; omega
                case rel => exact ⟨k + 4, by omega, rfl, by go_num, hV.out, rfl⟩
    · have hlt' : decide ((k : Int) < (s.size : Int)) = false := decide_eq_false (by omega)
      have hR : Hid (Lib.validD s.data.toList = true) := by
        show _ = true
        rw [← hv.out, List.drop_eq_nil_of_le (by rw [HSZ.out]; omega)]
        rfl
      clear hv
      go_wp2_with fail
      go_ret
      exact ⟨ret_v (by rw [hR.out]; rfl), rfl⟩
end Go.Proofs.YtdkfgobbpadmgaaGreatDoor
