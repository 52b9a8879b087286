/- Package tabularyref04: Parse. -/
import Derived.Test.YtdkfgobbpadmgaaGreatDoorRef4Late
set_option linter.unusedVariables false
set_option linter.unusedSimpArgs false
namespace Go.Proofs.YtdkfgobbpadmgaaGreatDoor
open Go.RowKit
set_option maxHeartbeats 8000000 in
set_option maxRecDepth 100000 in
theorem stageB4 (s : ByteArray) (w : World) (hs : s.size ≤ 4194304) : ∀ a wx, JB4 s w a wx → (restOf 4 (Tryz.f24.body.getD .ret)).wp Tryz.prog (bodyPost Tryz.prog Tryz.f24 (RD (cal4 s.data.toList) w)) a wx := by
  obtain ⟨l, hl⟩ : ∃ l, l = s.data.toList := ⟨_, rfl⟩
  have hsz : l.length = s.size := by rw [hl]; rfl
  have HNUM : Hid (∀ (p k : Nat) (W : World), p ≤ 8388608 → 1 ≤ k → k ≤ 4 → Calls Tryz.prog 52 #[.string s, .int .i64 p, .int .i64 k] W fun e w' => e = .returned (.int .i64 (numI l p k)) ∧ W = w') := Lib.hid fun p k W hp hk hk4 => by
    rw [hl]
    exact num_c s p k W (by omega) (by omega) hk hk4
  have HIS : Hid (∀ (p : Nat) (c : UInt8) (W : World), p ≤ 8388608 → Calls Tryz.prog 53 #[.string s, .int .i64 p, .int .u8 c.toNat] W fun e w' => e = .returned (.bool (isAt l p c)) ∧ W = w') := Lib.hid fun p c W hp => by
    rw [hl]
    exact is_c s p c W (by omega) (by omega)
  refine at_rest rfl ?_
  intro a' w1 hinv
  unfold JB4 at hinv
  obtain ⟨y, m, d, h, mi, ss, hinv⟩ := hinv
  obtain ⟨u1, hinv⟩ := hinv
  obtain ⟨u3, hinv⟩ := hinv
  obtain ⟨u4, hinv⟩ := hinv
  obtain ⟨u6, hinv⟩ := hinv
  obtain ⟨u7, hinv⟩ := hinv
  obtain ⟨u8, hinv⟩ := hinv
  obtain ⟨u9, hinv⟩ := hinv
  obtain ⟨u10, hinv⟩ := hinv
  obtain ⟨u11, hinv⟩ := hinv
  obtain ⟨u12, hinv⟩ := hinv
  obtain ⟨u13, hinv⟩ := hinv
  obtain ⟨u14, hinv⟩ := hinv
  obtain ⟨u15, hinv⟩ := hinv
  obtain ⟨u16, hinv⟩ := hinv
  obtain ⟨u17, hinv⟩ := hinv
  obtain ⟨u18, hinv⟩ := hinv
  obtain ⟨u19, hinv⟩ := hinv
  obtain ⟨u20, hinv⟩ := hinv
  obtain ⟨u21, hinv⟩ := hinv
  obtain ⟨u22, hinv⟩ := hinv
  obtain ⟨u23, hinv⟩ := hinv
  obtain ⟨u24, hinv⟩ := hinv
  obtain ⟨u25, hinv⟩ := hinv
  obtain ⟨u26, hinv⟩ := hinv
  obtain ⟨u27, hinv⟩ := hinv
  obtain ⟨u28, hinv⟩ := hinv
  obtain ⟨u29, hinv⟩ := hinv
  obtain ⟨u30, hinv⟩ := hinv
  obtain ⟨u31, hinv⟩ := hinv
  obtain ⟨u32, hinv⟩ := hinv
  obtain ⟨u33, hinv⟩ := hinv
  obtain ⟨u34, hinv⟩ := hinv
  obtain ⟨u35, hinv⟩ := hinv
  obtain ⟨u36, hinv⟩ := hinv
  obtain ⟨u37, hinv⟩ := hinv
  obtain ⟨u38, hinv⟩ := hinv
  obtain ⟨u39, hinv⟩ := hinv
  obtain ⟨u40, hinv⟩ := hinv
  obtain ⟨u41, hinv⟩ := hinv
  obtain ⟨u42, hinv⟩ := hinv
  obtain ⟨u43, hinv⟩ := hinv
  obtain ⟨u44, hinv⟩ := hinv
  obtain ⟨u45, hinv⟩ := hinv
  obtain ⟨u46, hinv⟩ := hinv
  obtain ⟨u47, hinv⟩ := hinv
  obtain ⟨u48, hinv⟩ := hinv
  obtain ⟨u49, hinv⟩ := hinv
  obtain ⟨u50, hinv⟩ := hinv
  obtain ⟨u51, hinv⟩ := hinv
  obtain ⟨u52, hinv⟩ := hinv
  obtain ⟨u53, hinv⟩ := hinv
  obtain ⟨u54, hinv⟩ := hinv
  obtain ⟨u55, hinv⟩ := hinv
  obtain ⟨u56, hinv⟩ := hinv
  obtain ⟨u57, hinv⟩ := hinv
  obtain ⟨u58, hinv⟩ := hinv
  obtain ⟨u59, hinv⟩ := hinv
  obtain ⟨u60, hinv⟩ := hinv
  obtain ⟨u61, hinv⟩ := hinv
  obtain ⟨u62, hinv⟩ := hinv
  obtain ⟨u63, hinv⟩ := hinv
  obtain ⟨u64, hinv⟩ := hinv
  obtain ⟨u65, hinv⟩ := hinv
  obtain ⟨u66, hinv⟩ := hinv
  obtain ⟨u67, hinv⟩ := hinv
  obtain ⟨u68, hinv⟩ := hinv
  obtain ⟨u69, hinv⟩ := hinv
  obtain ⟨u70, hinv⟩ := hinv
  obtain ⟨u71, hinv⟩ := hinv
  obtain ⟨u72, hinv⟩ := hinv
  obtain ⟨u73, hinv⟩ := hinv
  obtain ⟨u74, hinv⟩ := hinv
  obtain ⟨u75, hinv⟩ := hinv
  obtain ⟨u76, hinv⟩ := hinv
  obtain ⟨u77, hinv⟩ := hinv
  obtain ⟨u78, hinv⟩ := hinv
  obtain ⟨u79, hinv⟩ := hinv
  obtain ⟨u80, hinv⟩ := hinv
  obtain ⟨u81, hinv⟩ := hinv
  obtain ⟨u82, hinv⟩ := hinv
  obtain ⟨u83, hinv⟩ := hinv
  obtain ⟨u84, hinv⟩ := hinv
  obtain ⟨u85, hinv⟩ := hinv
  obtain ⟨u86, hinv⟩ := hinv
  obtain ⟨u87, hinv⟩ := hinv
  obtain ⟨u88, hinv⟩ := hinv
  obtain ⟨u89, hinv⟩ := hinv
  obtain ⟨u90, hinv⟩ := hinv
  obtain ⟨u91, hinv⟩ := hinv
  obtain ⟨u92, hinv⟩ := hinv
  obtain ⟨u93, hinv⟩ := hinv
  obtain ⟨u94, hinv⟩ := hinv
  obtain ⟨u95, hinv⟩ := hinv
  obtain ⟨u96, hinv⟩ := hinv
  obtain ⟨u97, hinv⟩ := hinv
  obtain ⟨u98, hinv⟩ := hinv
  obtain ⟨u99, hinv⟩ := hinv
  obtain ⟨u100, hinv⟩ := hinv
  obtain ⟨u101, hinv⟩ := hinv
  obtain ⟨u102, hinv⟩ := hinv
  obtain ⟨u103, hinv⟩ := hinv
  obtain ⟨u104, hinv⟩ := hinv
  obtain ⟨u105, hinv⟩ := hinv
  obtain ⟨u106, hinv⟩ := hinv
  obtain ⟨u107, hinv⟩ := hinv
  obtain ⟨u108, hinv⟩ := hinv
  obtain ⟨u109, hinv⟩ := hinv
  obtain ⟨u110, hinv⟩ := hinv
  obtain ⟨u111, hinv⟩ := hinv
  obtain ⟨u112, hinv⟩ := hinv
  obtain ⟨u113, hinv⟩ := hinv
  obtain ⟨u114, hinv⟩ := hinv
  obtain ⟨u115, hinv⟩ := hinv
  obtain ⟨u116, hinv⟩ := hinv
  obtain ⟨u117, hinv⟩ := hinv
  obtain ⟨u118, hinv⟩ := hinv
  obtain ⟨u119, hinv⟩ := hinv
  obtain ⟨u120, hinv⟩ := hinv
  obtain ⟨u121, hinv⟩ := hinv
  obtain ⟨u122, hinv⟩ := hinv
  obtain ⟨u123, hinv⟩ := hinv
  obtain ⟨u124, hinv⟩ := hinv
  obtain ⟨u125, hinv⟩ := hinv
  obtain ⟨u126, hinv⟩ := hinv
  obtain ⟨u127, hinv⟩ := hinv
  obtain ⟨u128, hinv⟩ := hinv
  obtain ⟨u129, hinv⟩ := hinv
  obtain ⟨u130, hinv⟩ := hinv
  obtain ⟨u131, hinv⟩ := hinv
  obtain ⟨u132, hinv⟩ := hinv
  obtain ⟨u133, hinv⟩ := hinv
  obtain ⟨u134, hinv⟩ := hinv
  obtain ⟨u135, hinv⟩ := hinv
  obtain ⟨u136, hinv⟩ := hinv
  obtain ⟨u137, hinv⟩ := hinv
  obtain ⟨u138, hinv⟩ := hinv
  obtain ⟨u139, hinv⟩ := hinv
  obtain ⟨u140, hinv⟩ := hinv
  obtain ⟨u141, hinv⟩ := hinv
  obtain ⟨u142, hinv⟩ := hinv
  obtain ⟨u143, hinv⟩ := hinv
  obtain ⟨u144, hinv⟩ := hinv
  obtain ⟨u145, hinv⟩ := hinv
  obtain ⟨u146, hinv⟩ := hinv
  obtain ⟨u147, hinv⟩ := hinv
  obtain ⟨u148, hinv⟩ := hinv
  obtain ⟨u149, hinv⟩ := hinv
  obtain ⟨u150, hinv⟩ := hinv
  obtain ⟨u151, hinv⟩ := hinv
  obtain ⟨u152, hinv⟩ := hinv
  obtain ⟨u153, hinv⟩ := hinv
  obtain ⟨u154, hinv⟩ := hinv
  obtain ⟨u155, hinv⟩ := hinv
  obtain ⟨⟨hr1, hd1, hb1, hdt, hmk⟩, hfr0⟩ := hinv
  subst hfr0
  rw [← hl] at hmk
  simp only [← hl] at hdt
  have HDT := Lib.hid hdt; have HMK := Lib.hid hmk
  have HC1 : Hid (cal4 l = match frac4 (l.drop 19) with | none => none | some (n, r) => match zone4 r with | none => none | some (z, r2) => endD (date4 l n z) r2 true) := by
    show cal4 l = _
    rw [cal4, hmk]
    rfl
  have HLL := Lib.hid hl
  rw [← hl]
  have HL := Lib.hid hl; have HSZ := Lib.hid hsz
  clear hl hsz hmk hdt
  have HR1 := Lib.hid hr1; have HD1 := Lib.hid hd1; have HB1 := Lib.hid hb1
  clear hr1 hd1 hb1
  obtain ⟨pb, hpb⟩ : ∃ x, x = isAt l 19 46 := ⟨_, rfl⟩
  have I19 : Hid (∀ W : World, Calls Tryz.prog 53 #[.string s, .int .i64 19, .int .u8 46] W fun e w' => e = .returned (.bool pb) ∧ W = w') := Lib.hid fun W => by rw [hpb]; exact HIS.out 19 46 W (by omega)
  have PB := Lib.hid hpb
  clear hpb
  go_upto_if 55 with (go_at_call 53; refine (I19.out _).mono ?_; rintro e w' ⟨rfl, rfl⟩)
  go_cut [7] (fun s7 wx => ∃ (n : Int) (p : Nat), s7 = .int .i64 p ∧ p ≤ 4194323 ∧ Hid (frac4 (l.drop 19) = some (n, l.drop p)) ∧ Row wx w.heap.size 46 DATZ ∧ Row wx (w.heap.size + 1) 46 (DC y m d h mi ss n 0) ∧ Below w.heap.size w wx)
  case first =>
    cases pb with
    | false =>
      have HF : Hid (frac4 (l.drop 19) = some (0, l.drop 19)) := by
        show frac4 _ = _
        have h : Lib.hasPrefix (l.drop 19) [46] = false := PB.out.symm
        rw [frac4, h]; rfl
      go_wp2_with fail
      go_meet
      exact ⟨0, 19, rfl, by omega, HF, HR1.out, HD1.out, HB1.out⟩
    | true =>
      have hp20 : 20 ≤ l.length := by
        rcases Nat.lt_or_ge 19 l.length with h | h
        · exact h
        · have := PB.out
          rw [isAt_out l 19 46 h] at this
          cases this
      have HF : Hid (frac4 (l.drop 19) = if numI l 20 1 < 0 then none else some (fracN 6 0 (l.drop 20))) := by
        show frac4 _ = _
        have h : Lib.hasPrefix (l.drop 19) [46] = true := PB.out.symm
        rw [frac4, if_pos h, List.drop_drop, numI_drop _ _ _ _ (by omega)]
      go_wp2_with fail
      go_loopg [7, 9, 10] 6 (fun g s7 s9 s10 wr => ∃ (k p : Nat) (n S : Int), s10 = .int .i64 k ∧ k ≤ 6 ∧ Hid (g = 6 - k) ∧ s7 = .int .i64 p ∧ p ≤ 4194323 ∧ s9 = .int .i64 S ∧ Hid (S = 10 ^ (8 - k)) ∧ 0 ≤ n ∧ n ≤ 1000000000 - 10 * S ∧ Hid (fracN (6 - k) n (l.drop p) = fracN 6 0 (l.drop 20)) ∧ Hid (k = 0 ∧ p = 20 ∨ k ≠ 0 ∧ ¬ numI l 20 1 < 0) ∧ Row wr w.heap.size 46 DATZ ∧ Row wr (w.heap.size + 1) 46 (DC y m d h mi ss n 0) ∧ Below w.heap.size w wr)
      case atStart => exact ⟨0, 20, 0, 100000000, rfl, by omega, rfl, rfl, by omega, rfl, (by show _ = _; decide), by omega, by omega, rfl, .inl ⟨rfl, rfl⟩, HR1.out, HD1.out, HB1.out⟩
      case round =>
        obtain ⟨k, p, n, S, rfl, hk, HG, rfl, hp, rfl, HS, hn0, hn1, HFN, HK, hr, hd, hb⟩ := hrel
        have HR2 := Lib.hid hr; have HD2 := Lib.hid hd; have HB2 := Lib.hid hb
        clear hr hd hb
        obtain ⟨v, hv⟩ : ∃ v, v = numI l p 1 := ⟨_, rfl⟩
        have NV : Hid (∀ W : World, Calls Tryz.prog 52 #[.string s, .int .i64 p, .int .i64 1] W fun e w' => e = .returned (.int .i64 v) ∧ W = w') := Lib.hid fun W => by rw [hv]; exact HNUM.out p 1 W (by omega) (by omega) (by omega)
        have hvb := numI_bd l p 1 (by omega)
        rw [← hv] at hvb
        obtain ⟨hvb0, hvb1⟩ := hvb
        have EV := Lib.hid hv
        clear hv
        by_cases hgo : k < 6 ∧ ¬ v < 0
        · obtain ⟨hk5, hv0⟩ := hgo
          obtain ⟨hps, hpl, hpu⟩ := pow_step k (by omega)
          obtain ⟨S', hS'⟩ : ∃ S' : Int, S' = 10 ^ (8 - (k + 1)) := ⟨_, rfl⟩
          rw [← hS'] at hps hpl hpu
          have hSS : S = 10 * S' := HS.out.trans hps
          have hq : S.tdiv 10 = S' := by rw [hSS]; exact Int.mul_tdiv_cancel_left S' (by decide)
          obtain ⟨hpl2, hdg⟩ := numI_dig (l := l) (p := p) (by rw [← EV.out]; exact hv0)
          have hone := numI_one hpl2 hdg
          have hv9 : v ≤ 9 := by
            have := of_decide_eq_true hdg
            rw [EV.out, hone.1]
            omega
          have HST : Hid (fracN (6 - (k + 1)) (n + v * S) (l.drop (p + 1)) = fracN 6 0 (l.drop 20)) := by
            show _ = _
            rw [← HFN.out, show 6 - k = (6 - (k + 1)) + 1 by omega, hone.2, fracN, if_pos hdg, ← hone.1, ← EV.out, HS.out, show 8 - k = 3 + (6 - (k + 1)) by omega]
          have hP1 : S * v ≤ S * 9 := Int.mul_le_mul_of_nonneg_left hv9 (by omega)
          have hP0 : 0 ≤ S * v := Int.mul_nonneg (by omega) (by omega)
          have hcm : v * S = S * v := Int.mul_comm _ _
          rw [hcm] at HST
          obtain ⟨U, hU⟩ : ∃ U, U = S * v := ⟨_, rfl⟩
          rw [← hU] at hP0 hP1 HST
          have HU := Lib.hid hU
          have hnew : n + U ≤ 1000000000 - 10 * S' := by omega
          have HW : Hid (wrap64 (S * v) = U ∧ wrap64 (n + U) = n + U ∧ IntKind.i64.wrap (S * v) = U ∧ IntKind.i64.wrap (n + U) = n + U) := by
            show _ ∧ _ ∧ _ ∧ _
            rw [← hU]
            exact ⟨by unfold wrap64; omega, by unfold wrap64; omega, by rw [IntKind.wrap_i64]; omega, by rw [IntKind.wrap_i64]; omega⟩
          have HSS := Lib.hid hSS; have HS' := Lib.hid hS'; have hSb : 1000 ≤ S := by omega
          have hSt : S ≤ 100000000 := by omega
          have hpl3 : p + 1 ≤ 4194323 := by have := HSZ.out; omega
          have HKN : Hid (¬ numI l 20 1 < 0) := by
            show ¬ _
            rcases HK.out with ⟨_, h⟩ | ⟨_, h⟩
            · rw [← h, ← EV.out]; exact hv0
            · exact h
          clear hU hcm hSS hS' hps hone hdg hpl2
          have dk : decide ((k : Int) < 6) = true := decide_eq_true (by omega)
          have dv : decide ((0 : Int) ≤ v) = true := decide_eq_true (by omega)
          have d6 : wr.cell? ⟨w.heap.size + 1, 6, none⟩ = some (.int .i64 n) := HD2.out.cell 6
          have df6 := HD2.out.frozen 6
          go_upto_region 12 with (go_at_call 52; refine (NV.out _).mono ?_; rintro e w' ⟨rfl, rfl⟩)
          go_region_with (go_at_call 52; refine (NV.out _).mono ?_; rintro e w' ⟨rfl, rfl⟩)
          all_goals
            go_wp2_with fail
            go_roundg (6 - (k + 1))
            case measure => rw [HG.out]; omega
            case rel =>
              refine ⟨k + 1, p + 1, n + U, S', by go_num, by omega, rfl, by go_num, hpl3, rfl, HS', by omega, hnew, HST, .inr ⟨by omega, HKN.out⟩, ?_, ?_, ?_⟩
              · exact (HR2.out.drew).other (by simp) _
              · have hpu := (HD2.out.put 6 (.int .i64 (n + U))).drew
                first
                  | (rw [HW.out.1, HW.out.2.1]; exact (show Row _ _ _ _ from by simpa [DC] using hpu))
                  | (rw [HW.out.2.2.1, HW.out.2.2.2]; exact (show Row _ _ _ _ from by simpa [DC] using hpu))
              · exact (HB2.out.drew).setCell (by simp) _
        · have HFE : Hid (fracN (6 - k) n (l.drop p) = (n, l.drop p)) := by
            show _ = _
            by_cases hk6 : k < 6
            · have : v < 0 := by
                by_cases h : v < 0
                · exact h
                · exact absurd ⟨hk6, h⟩ hgo
              exact numI_none (by rw [← EV.out]; exact this) n _
            · rw [show 6 - k = 0 by omega]; rfl
          by_cases hk0 : k = 0
          · have hv0 : v < 0 := by
              by_cases h : v < 0
              · exact h
              · exact absurd ⟨by omega, h⟩ hgo
            have HNO : Hid (cal4 l = none) := by
              show cal4 l = none
              have h20 : numI l 20 1 < 0 := by
                rcases HK.out with ⟨_, h⟩ | ⟨h, _⟩
                · rw [← h, ← EV.out]; exact hv0
                · exact absurd hk0 h
              rw [HC1.out, HF.out, if_pos h20]
            have dk : decide ((k : Int) < 6) = true := decide_eq_true (by omega)
            have dv : decide ((0 : Int) ≤ v) = false := decide_eq_false (by omega)
            have d0 : ((k : Int) == 0) = true := by rw [hk0]; rfl
            clear hgo hk0
            have r0 : wr.cell? ⟨w.heap.size, 0, none⟩ = some (.int .i64 0) := HR2.out.cell 0
            have rf0 := HR2.out.frozen 0
            have r1 : wr.cell? ⟨w.heap.size, 1, none⟩ = some (.int .i64 0) := HR2.out.cell 1
            have rf1 := HR2.out.frozen 1
            have r2 : wr.cell? ⟨w.heap.size, 2, none⟩ = some (.int .i64 0) := HR2.out.cell 2
            have rf2 := HR2.out.frozen 2
            have r3 : wr.cell? ⟨w.heap.size, 3, none⟩ = some (.int .i64 0) := HR2.out.cell 3
            have rf3 := HR2.out.frozen 3
            have r4 : wr.cell? ⟨w.heap.size, 4, none⟩ = some (.int .i64 0) := HR2.out.cell 4
            have rf4 := HR2.out.frozen 4
            have r5 : wr.cell? ⟨w.heap.size, 5, none⟩ = some (.int .i64 0) := HR2.out.cell 5
            have rf5 := HR2.out.frozen 5
            have r6 : wr.cell? ⟨w.heap.size, 6, none⟩ = some (.int .i64 0) := HR2.out.cell 6
            have rf6 := HR2.out.frozen 6
            have r7 : wr.cell? ⟨w.heap.size, 7, none⟩ = some (.int .i64 0) := HR2.out.cell 7
            have rf7 := HR2.out.frozen 7
            go_wp2_with (go_at_call 52; refine (NV.out _).mono ?_; rintro e w' ⟨rfl, rfl⟩)
            have hR2 := (((((((((HR2.out).put 0 (.int .i64 0)).put 1 (.int .i64 0)).put 2 (.int .i64 0)).put 3 (.int .i64 0)).put 4 (.int .i64 0)).put 5 (.int .i64 0)).put 6 (.int .i64 0)).put 7 (.int .i64 0))
            have hR3 := (show Row _ w.heap.size 46 DATZ from by simpa [DATZ] using hR2)
            clear hR2
            refine bodyPost_ret (results_cell_row_tmp2 rfl _ _ w.heap.size _ DATZ (0, 0) _ rfl hR3 Tryz.underlying46 rfl dateSize) rfl (RD.no HNO.out rfl ?_)
            exact (((((((((HB2.out).setCell (by simp) _).setCell (by simp) _).setCell (by simp) _).setCell (by simp) _).setCell (by simp) _).setCell (by simp) _).setCell (by simp) _).setCell (by simp) _)
          · have HFR : Hid (frac4 (l.drop 19) = some (n, l.drop p)) := by
              show _ = _
              have h20 : ¬ numI l 20 1 < 0 := by
                rcases HK.out with ⟨h, _⟩ | ⟨_, h⟩
                · exact absurd h hk0
                · exact h
              rw [HF.out, if_neg h20, ← HFN.out, HFE.out]
            have d0 : ((k : Int) == 0) = false := by simp; omega
            by_cases hk6 : k < 6
            · have hv0 : v < 0 := by
                by_cases h : v < 0
                · exact h
                · exact absurd ⟨hk6, h⟩ hgo
              have dk : decide ((k : Int) < 6) = true := decide_eq_true (by omega)
              have dv : decide ((0 : Int) ≤ v) = false := decide_eq_false (by omega)
              clear hgo
              go_wp2_with (go_at_call 52; refine (NV.out _).mono ?_; rintro e w' ⟨rfl, rfl⟩)
              go_meet
              exact ⟨n, p, rfl, hp, HFR, HR2.out, HD2.out, HB2.out⟩
            · have dk : decide ((k : Int) < 6) = false := decide_eq_false (by omega)
              clear hgo
              go_wp2_with fail
              go_meet
              exact ⟨n, p, rfl, hp, HFR, HR2.out, HD2.out, HB2.out⟩
  case rest =>
  obtain ⟨n, p, rfl, hp, hfr, hr2, hd2, hb2⟩ := hcut
  apply_assumption
  rw [HLL.out]
  refine stageC4 s w hs _ _ ?_
  unfold JC4
  refine ⟨y, m, d, h, mi, ss, n, p, ?_⟩
  repeat apply Exists.intro
  exact ⟨⟨hr2, hd2, hb2, by rw [← HLL.out]; exact HDT.out, hp, by rw [← HLL.out]; exact HMK.out, by rw [← HLL.out]; exact hfr.out⟩, rfl⟩
set_option maxHeartbeats 8000000 in
set_option maxRecDepth 100000 in
theorem ref4_c (s : ByteArray) (w : World) (hs : s.size ≤ 4194304) :
    Calls Tryz.prog 24 #[.string s] w (RD (cal4 s.data.toList) w) := by
  obtain ⟨l, hl⟩ : ∃ l, l = s.data.toList := ⟨_, rfl⟩
  have hsz : l.length = s.size := by rw [hl]; rfl
  have HNUM : Hid (∀ (p k : Nat) (W : World), p ≤ 8388608 → 1 ≤ k → k ≤ 4 → Calls Tryz.prog 52 #[.string s, .int .i64 p, .int .i64 k] W fun e w' => e = .returned (.int .i64 (numI l p k)) ∧ W = w') := Lib.hid fun p k W hp hk hk4 => by
    rw [hl]
    exact num_c s p k W (by omega) (by omega) hk hk4
  have HIS : Hid (∀ (p : Nat) (c : UInt8) (W : World), p ≤ 8388608 → Calls Tryz.prog 53 #[.string s, .int .i64 p, .int .u8 c.toNat] W fun e w' => e = .returned (.bool (isAt l p c)) ∧ W = w') := Lib.hid fun p c W hp => by
    rw [hl]
    exact is_c s p c W (by omega) (by omega)
  rw [← hl]
  have HL := Lib.hid hl; have HSZ := Lib.hid hsz
  clear hl hsz
  obtain ⟨y, hy⟩ : ∃ x, x = numI l 0 4 := ⟨_, rfl⟩
  have Ny : Hid (∀ W : World, Calls Tryz.prog 52 #[.string s, .int .i64 0, .int .i64 4] W fun e w' => e = .returned (.int .i64 y) ∧ W = w') := Lib.hid fun W => by rw [hy]; exact HNUM.out 0 4 W (by omega) (by omega) (by omega)
  have Ey := Lib.hid hy
  obtain ⟨m, hm⟩ : ∃ x, x = numI l 5 2 := ⟨_, rfl⟩
  have Nm : Hid (∀ W : World, Calls Tryz.prog 52 #[.string s, .int .i64 5, .int .i64 2] W fun e w' => e = .returned (.int .i64 m) ∧ W = w') := Lib.hid fun W => by rw [hm]; exact HNUM.out 5 2 W (by omega) (by omega) (by omega)
  have Em := Lib.hid hm
  obtain ⟨d, hd⟩ : ∃ x, x = numI l 8 2 := ⟨_, rfl⟩
  have Nd : Hid (∀ W : World, Calls Tryz.prog 52 #[.string s, .int .i64 8, .int .i64 2] W fun e w' => e = .returned (.int .i64 d) ∧ W = w') := Lib.hid fun W => by rw [hd]; exact HNUM.out 8 2 W (by omega) (by omega) (by omega)
  have Ed := Lib.hid hd
  obtain ⟨h, hh⟩ : ∃ x, x = numI l 11 2 := ⟨_, rfl⟩
  have Nh : Hid (∀ W : World, Calls Tryz.prog 52 #[.string s, .int .i64 11, .int .i64 2] W fun e w' => e = .returned (.int .i64 h) ∧ W = w') := Lib.hid fun W => by rw [hh]; exact HNUM.out 11 2 W (by omega) (by omega) (by omega)
  have Eh := Lib.hid hh
  obtain ⟨mi, hmi⟩ : ∃ x, x = numI l 14 2 := ⟨_, rfl⟩
  have Nmi : Hid (∀ W : World, Calls Tryz.prog 52 #[.string s, .int .i64 14, .int .i64 2] W fun e w' => e = .returned (.int .i64 mi) ∧ W = w') := Lib.hid fun W => by rw [hmi]; exact HNUM.out 14 2 W (by omega) (by omega) (by omega)
  have Emi := Lib.hid hmi
  obtain ⟨ss, hss⟩ : ∃ x, x = numI l 17 2 := ⟨_, rfl⟩
  have Nss : Hid (∀ W : World, Calls Tryz.prog 52 #[.string s, .int .i64 17, .int .i64 2] W fun e w' => e = .returned (.int .i64 ss) ∧ W = w') := Lib.hid fun W => by rw [hss]; exact HNUM.out 17 2 W (by omega) (by omega) (by omega)
  have Ess := Lib.hid hss
  obtain ⟨b4, hb4⟩ : ∃ x, x = isAt l 4 45 := ⟨_, rfl⟩
  have I4 : Hid (∀ W : World, Calls Tryz.prog 53 #[.string s, .int .i64 4, .int .u8 45] W fun e w' => e = .returned (.bool b4) ∧ W = w') := Lib.hid fun W => by rw [hb4]; exact HIS.out 4 45 W (by omega)
  have B4 := Lib.hid hb4.symm
  obtain ⟨b7, hb7⟩ : ∃ x, x = isAt l 7 45 := ⟨_, rfl⟩
  have I7 : Hid (∀ W : World, Calls Tryz.prog 53 #[.string s, .int .i64 7, .int .u8 45] W fun e w' => e = .returned (.bool b7) ∧ W = w') := Lib.hid fun W => by rw [hb7]; exact HIS.out 7 45 W (by omega)
  have B7 := Lib.hid hb7.symm
  obtain ⟨b10, hb10⟩ : ∃ x, x = isAt l 10 84 := ⟨_, rfl⟩
  have I10 : Hid (∀ W : World, Calls Tryz.prog 53 #[.string s, .int .i64 10, .int .u8 84] W fun e w' => e = .returned (.bool b10) ∧ W = w') := Lib.hid fun W => by rw [hb10]; exact HIS.out 10 84 W (by omega)
  have B10 := Lib.hid hb10.symm
  obtain ⟨b13, hb13⟩ : ∃ x, x = isAt l 13 58 := ⟨_, rfl⟩
  have I13 : Hid (∀ W : World, Calls Tryz.prog 53 #[.string s, .int .i64 13, .int .u8 58] W fun e w' => e = .returned (.bool b13) ∧ W = w') := Lib.hid fun W => by rw [hb13]; exact HIS.out 13 58 W (by omega)
  have B13 := Lib.hid hb13.symm
  obtain ⟨b16, hb16⟩ : ∃ x, x = isAt l 16 58 := ⟨_, rfl⟩
  have I16 : Hid (∀ W : World, Calls Tryz.prog 53 #[.string s, .int .i64 16, .int .u8 58] W fun e w' => e = .returned (.bool b16) ∧ W = w') := Lib.hid fun W => by rw [hb16]; exact HIS.out 16 58 W (by omega)
  have B16 := Lib.hid hb16.symm
  clear hy hm hd hh hmi hss hb4 hb7 hb10 hb13 hb16
  have HR0 : Hid (Row ((w.alloc (Obj.cells DATZ 46)).alloc (Obj.cells (DC y m d h mi ss 0 0) 46)) w.heap.size 46 DATZ) := Lib.hid ((Row.laid _ _ _).alloc _)
  have HD0 : Hid (Row ((w.alloc (Obj.cells DATZ 46)).alloc (Obj.cells (DC y m d h mi ss 0 0) 46)) (w.heap.size + 1) 46 (DC y m d h mi ss 0 0)) := Lib.hid (by have := Row.laid (w.alloc (Obj.cells DATZ 46)) 46 (DC y m d h mi ss 0 0); simpa using this)
  have HB0 : Hid (Below w.heap.size w ((w.alloc (Obj.cells DATZ 46)).alloc (Obj.cells (DC y m d h mi ss 0 0) 46))) := Lib.hid (((Below.refl _ _).alloc (Nat.le_refl _) _).alloc (by simp) _)
  have v0 : True := trivial; have v1 : True := trivial; have v2 : True := trivial; have v3 : True := trivial; have v4 : True := trivial; have v5 : True := trivial
  go_enter Tryz.func24, Tryz.ntmps24
  go_upto_region 2 with (first | (go_at_call 52; clear v0; refine (Ny.out _).mono ?_; rintro e w' ⟨rfl, rfl⟩) | (go_at_call 52; clear v1; refine (Nm.out _).mono ?_; rintro e w' ⟨rfl, rfl⟩) | (go_at_call 52; clear v2; refine (Nd.out _).mono ?_; rintro e w' ⟨rfl, rfl⟩) | (go_at_call 52; clear v3; refine (Nh.out _).mono ?_; rintro e w' ⟨rfl, rfl⟩) | (go_at_call 52; clear v4; refine (Nmi.out _).mono ?_; rintro e w' ⟨rfl, rfl⟩) | (go_at_call 52; clear v5; refine (Nss.out _).mono ?_; rintro e w' ⟨rfl, rfl⟩))
  go_cut [6] (fun s6 wx => s6 = .bool (marks4 l) ∧ Row wx w.heap.size 46 DATZ ∧ Row wx (w.heap.size + 1) 46 (DC y m d h mi ss 0 0) ∧ Below w.heap.size w wx)
  case first =>
    have u1 : True := trivial; have u2 : True := trivial; have u3 : True := trivial; have u4 : True := trivial; have u5 : True := trivial
    cases b4 with
    | false =>
      have HM : Hid (marks4 l = false) := by
        show marks4 l = false
        rw [marks4, B4.out]; simp
      go_wp2_with (first | (go_at_call 53; clear u1; refine (I4.out _).mono ?_; rintro e w' ⟨rfl, rfl⟩))
      go_meet
      exact ⟨by rw [HM.out], HR0.out, HD0.out, HB0.out⟩
    | true =>
      cases b7 with
      | false =>
        have HM : Hid (marks4 l = false) := by
          show marks4 l = false
          rw [marks4, B4.out, B7.out]; simp
        go_wp2_with (first | (go_at_call 53; clear u1; refine (I4.out _).mono ?_; rintro e w' ⟨rfl, rfl⟩) | (go_at_call 53; clear u2; refine (I7.out _).mono ?_; rintro e w' ⟨rfl, rfl⟩))
        go_meet
        exact ⟨by rw [HM.out], HR0.out, HD0.out, HB0.out⟩
      | true =>
        cases b10 with
        | false =>
          have HM : Hid (marks4 l = false) := by
            show marks4 l = false
            rw [marks4, B4.out, B7.out, B10.out]; simp
          go_wp2_with (first | (go_at_call 53; clear u1; refine (I4.out _).mono ?_; rintro e w' ⟨rfl, rfl⟩) | (go_at_call 53; clear u2; refine (I7.out _).mono ?_; rintro e w' ⟨rfl, rfl⟩) | (go_at_call 53; clear u3; refine (I10.out _).mono ?_; rintro e w' ⟨rfl, rfl⟩))
          go_meet
          exact ⟨by rw [HM.out], HR0.out, HD0.out, HB0.out⟩
        | true =>
          cases b13 with
          | false =>
            have HM : Hid (marks4 l = false) := by
              show marks4 l = false
              rw [marks4, B4.out, B7.out, B10.out, B13.out]; simp
            go_wp2_with (first | (go_at_call 53; clear u1; refine (I4.out _).mono ?_; rintro e w' ⟨rfl, rfl⟩) | (go_at_call 53; clear u2; refine (I7.out _).mono ?_; rintro e w' ⟨rfl, rfl⟩) | (go_at_call 53; clear u3; refine (I10.out _).mono ?_; rintro e w' ⟨rfl, rfl⟩) | (go_at_call 53; clear u4; refine (I13.out _).mono ?_; rintro e w' ⟨rfl, rfl⟩))
            go_meet
            exact ⟨by rw [HM.out], HR0.out, HD0.out, HB0.out⟩
          | true =>
            cases b16 with
            | false =>
              have HM : Hid (marks4 l = false) := by
                show marks4 l = false
                rw [marks4, B4.out, B7.out, B10.out, B13.out, B16.out]; simp
              go_wp2_with (first | (go_at_call 53; clear u1; refine (I4.out _).mono ?_; rintro e w' ⟨rfl, rfl⟩) | (go_at_call 53; clear u2; refine (I7.out _).mono ?_; rintro e w' ⟨rfl, rfl⟩) | (go_at_call 53; clear u3; refine (I10.out _).mono ?_; rintro e w' ⟨rfl, rfl⟩) | (go_at_call 53; clear u4; refine (I13.out _).mono ?_; rintro e w' ⟨rfl, rfl⟩) | (go_at_call 53; clear u5; refine (I16.out _).mono ?_; rintro e w' ⟨rfl, rfl⟩))
              go_meet
              exact ⟨by rw [HM.out], HR0.out, HD0.out, HB0.out⟩
            | true =>
              have HM : Hid (marks4 l = true) := by
                show marks4 l = true
                rw [marks4, B4.out, B7.out, B10.out, B13.out, B16.out]; rfl
              go_wp2_with (first | (go_at_call 53; clear u1; refine (I4.out _).mono ?_; rintro e w' ⟨rfl, rfl⟩) | (go_at_call 53; clear u2; refine (I7.out _).mono ?_; rintro e w' ⟨rfl, rfl⟩) | (go_at_call 53; clear u3; refine (I10.out _).mono ?_; rintro e w' ⟨rfl, rfl⟩) | (go_at_call 53; clear u4; refine (I13.out _).mono ?_; rintro e w' ⟨rfl, rfl⟩) | (go_at_call 53; clear u5; refine (I16.out _).mono ?_; rintro e w' ⟨rfl, rfl⟩))
              go_meet
              exact ⟨by rw [HM.out], HR0.out, HD0.out, HB0.out⟩
  case rest =>
  obtain ⟨rfl, hr1, hd1, hb1⟩ := hcut
  have HR1 := Lib.hid hr1; have HD1 := Lib.hid hd1; have HB1 := Lib.hid hb1
  clear hr1 hd1 hb1 HR0 HD0 HB0 I4 I7 I10 I13 I16 Ny Nm Nd Nh Nmi Nss
  obtain ⟨w1, rfl⟩ : ∃ x : World, x = wc := ⟨_, rfl⟩
  cases hmk : marks4 l with
  | false =>
    have HNO : Hid (cal4 l = none) := by
      show cal4 l = none
      rw [cal4, hmk]; rfl
    clear hmk
    have r0 : w1.cell? ⟨w.heap.size, 0, none⟩ = some (.int .i64 0) := HR1.out.cell 0
    have rf0 := HR1.out.frozen 0
    have r1 : w1.cell? ⟨w.heap.size, 1, none⟩ = some (.int .i64 0) := HR1.out.cell 1
    have rf1 := HR1.out.frozen 1
    have r2 : w1.cell? ⟨w.heap.size, 2, none⟩ = some (.int .i64 0) := HR1.out.cell 2
    have rf2 := HR1.out.frozen 2
    have r3 : w1.cell? ⟨w.heap.size, 3, none⟩ = some (.int .i64 0) := HR1.out.cell 3
    have rf3 := HR1.out.frozen 3
    have r4 : w1.cell? ⟨w.heap.size, 4, none⟩ = some (.int .i64 0) := HR1.out.cell 4
    have rf4 := HR1.out.frozen 4
    have r5 : w1.cell? ⟨w.heap.size, 5, none⟩ = some (.int .i64 0) := HR1.out.cell 5
    have rf5 := HR1.out.frozen 5
    have r6 : w1.cell? ⟨w.heap.size, 6, none⟩ = some (.int .i64 0) := HR1.out.cell 6
    have rf6 := HR1.out.frozen 6
    have r7 : w1.cell? ⟨w.heap.size, 7, none⟩ = some (.int .i64 0) := HR1.out.cell 7
    have rf7 := HR1.out.frozen 7
    go_wp2_with fail
    have hR2 := (((((((((HR1.out).put 0 (.int .i64 0)).put 1 (.int .i64 0)).put 2 (.int .i64 0)).put 3 (.int .i64 0)).put 4 (.int .i64 0)).put 5 (.int .i64 0)).put 6 (.int .i64 0)).put 7 (.int .i64 0))
    have hR3 := (show Row _ w.heap.size 46 DATZ from by simpa [DATZ] using hR2)
    clear hR2
    refine bodyPost_ret (results_cell_row_tmp2 rfl _ _ w.heap.size _ DATZ (0, 0) _ rfl hR3 Tryz.underlying46 rfl dateSize) rfl (RD.no HNO.out rfl ?_)
    exact (((((((((HB1.out).setCell (by simp) _).setCell (by simp) _).setCell (by simp) _).setCell (by simp) _).setCell (by simp) _).setCell (by simp) _).setCell (by simp) _).setCell (by simp) _)
  | true =>
  have hdt : ∀ n z, date4 s.data.toList n z = ⟨y, m, d, h, mi, ss, n, z⟩ := fun n z => by
    rw [← HL.out, date4, ← Ey.out, ← Em.out, ← Ed.out, ← Eh.out, ← Emi.out, ← Ess.out]
  have hmk2 : marks4 s.data.toList = true := by rw [← HL.out]; exact hmk
  go_upto_if 50 with (fail)
  go_cut [] (fun wx => Row wx w.heap.size 46 DATZ ∧ Row wx (w.heap.size + 1) 46 (DC y m d h mi ss 0 0) ∧ Below w.heap.size w wx)
  case first =>
    go_wp2_with fail
    go_meet
    exact ⟨HR1.out, HD1.out, HB1.out⟩
  case rest =>
  obtain ⟨hr1, hd1, hb1⟩ := hcut
  apply_assumption
  rw [HL.out]
  refine stageB4 s w hs _ _ ?_
  unfold JB4
  refine ⟨y, m, d, h, mi, ss, ?_⟩
  repeat apply Exists.intro
  exact ⟨⟨hr1, hd1, hb1, hdt, hmk2⟩, rfl⟩
end Go.Proofs.YtdkfgobbpadmgaaGreatDoor
