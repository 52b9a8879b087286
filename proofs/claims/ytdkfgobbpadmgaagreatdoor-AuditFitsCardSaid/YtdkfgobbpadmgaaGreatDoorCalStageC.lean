/- Package cal: Parse behind the nanoseconds. -/
import Derived.Test.YtdkfgobbpadmgaaGreatDoorCalLabels
set_option linter.unusedVariables false
set_option linter.unusedSimpArgs false
namespace Go.Proofs.YtdkfgobbpadmgaaGreatDoor
open Go.RowKit
/-- ahead of the zone -/
@[irreducible] def JC (l : List UInt8) (w : World) (a' : Act) (w' : World) : Prop :=
  ∃ (y m d h mi s n : Int) (l7 : List UInt8) (k7 : Bool), ∃ u0 u3 u4 u11 u12 u13 u14 u15 u16 u17 u18 u19 u20 u21 u22 u23 u24 u25 u26 u27 u28 u29 u30 u31 u32 u33 u34 u35 u36 u37 u38 u39 u40 u41 u42 u43 u44 u45 u46 u47 u48 u49 u50 u51 u52 u53 u54 u55 u56 u57 u58 u59 u60 u61 u62 u63 u64 u65 u66 u67 u68 u69 u70 u71 u72 u73 u74 u75 u76 u77 u78 u79 u80 u81 u82 u83 u84 u85 u86 u87 u88 u89 u90 u91 u92 u93 u94 u95 u96 u97 u98 u99 u100 u101 u102 u103 u104 u105 u106 u107 u108 u109 u110 u111 u112 : Value, (CW w w' l7 k7 (DC y m d h mi s n 0) ∧ l7.length ≤ 4194304 ∧ calD l = match zoneD l7 k7 with | none => none | some (z, r2, k2) => endD ⟨y, m, d, h, mi, s, n, z⟩ r2 k2) ∧ a' = { tmps := #[u0, .pointer (some ⟨w.heap.size, 0, none⟩), .pointer (some ⟨w.heap.size + 1, 0, none⟩), u3, u4, .pointer (some ⟨w.heap.size + 2, 0, none⟩), .func (.func 36) #[] #[.pointer (some ⟨w.heap.size, 0, none⟩), .pointer (some ⟨w.heap.size + 2, 0, none⟩)], .pointer (some ⟨w.heap.size + 3, 0, none⟩), .func (.func 38) #[] #[.pointer (some ⟨w.heap.size + 3, 0, none⟩), .pointer (some ⟨w.heap.size + 2, 0, none⟩)], .pointer (some ⟨w.heap.size + 4, 0, none⟩), .int .i64 1, u11, u12, u13, u14, u15, u16, u17, u18, u19, u20, u21, u22, u23, u24, u25, u26, u27, u28, u29, u30, u31, u32, u33, u34, u35, u36, u37, u38, u39, u40, u41, u42, u43, u44, u45, u46, u47, u48, u49, u50, u51, u52, u53, u54, u55, u56, u57, u58, u59, u60, u61, u62, u63, u64, u65, u66, u67, u68, u69, u70, u71, u72, u73, u74, u75, u76, u77, u78, u79, u80, u81, u82, u83, u84, u85, u86, u87, u88, u89, u90, u91, u92, u93, u94, u95, u96, u97, u98, u99, u100, u101, u102, u103, u104, u105, u106, u107, u108, u109, u110, u111, u112], defers := [] }
set_option maxHeartbeats 4000000 in
set_option maxRecDepth 100000 in
theorem stageC (l : List UInt8) (w : World) (hG : Tab w) : ∀ a wx, JC l w a wx → (restOf 20 (scopeOf (Tryz.f14.body.getD .ret))).wp Tryz.prog (Exit.two (J0 l w) (J1 l w) (bodyPost Tryz.prog Tryz.f14 (CPOST l w))) a wx := by
  have HTAB := Lib.hid hG; clear hG
  refine at_rest rfl ?_
  intro a' w0 hinv
  unfold JC at hinv
  obtain ⟨y, m, d, h, mi, s, n, l7, k7, hinv⟩ := hinv
  obtain ⟨u0, hinv⟩ := hinv
  obtain ⟨u3, hinv⟩ := hinv
  obtain ⟨u4, hinv⟩ := hinv
  obtain ⟨u11, hinv⟩ := hinv
  obtain ⟨u12, hinv⟩ := hinv
  obtain ⟨u13, hinv⟩ := hinv
  obtain ⟨u14, hinv⟩ := hinv
  obtain ⟨u15, hinv⟩ := hinv
  obtain ⟨u16, hinv⟩ := hinv
  obtain ⟨u17, hinv⟩ := hinv
  obtain ⟨u18, hinv⟩ := hinv
  obtain ⟨u19, hinv⟩ := hinv
  obtain ⟨u20, hinv⟩ := hinv
  obtain ⟨u21, hinv⟩ := hinv
  obtain ⟨u22, hinv⟩ := hinv
  obtain ⟨u23, hinv⟩ := hinv
  obtain ⟨u24, hinv⟩ := hinv
  obtain ⟨u25, hinv⟩ := hinv
  obtain ⟨u26, hinv⟩ := hinv
  obtain ⟨u27, hinv⟩ := hinv
  obtain ⟨u28, hinv⟩ := hinv
  obtain ⟨u29, hinv⟩ := hinv
  obtain ⟨u30, hinv⟩ := hinv
  obtain ⟨u31, hinv⟩ := hinv
  obtain ⟨u32, hinv⟩ := hinv
  obtain ⟨u33, hinv⟩ := hinv
  obtain ⟨u34, hinv⟩ := hinv
  obtain ⟨u35, hinv⟩ := hinv
  obtain ⟨u36, hinv⟩ := hinv
  obtain ⟨u37, hinv⟩ := hinv
  obtain ⟨u38, hinv⟩ := hinv
  obtain ⟨u39, hinv⟩ := hinv
  obtain ⟨u40, hinv⟩ := hinv
  obtain ⟨u41, hinv⟩ := hinv
  obtain ⟨u42, hinv⟩ := hinv
  obtain ⟨u43, hinv⟩ := hinv
  obtain ⟨u44, hinv⟩ := hinv
  obtain ⟨u45, hinv⟩ := hinv
  obtain ⟨u46, hinv⟩ := hinv
  obtain ⟨u47, hinv⟩ := hinv
  obtain ⟨u48, hinv⟩ := hinv
  obtain ⟨u49, hinv⟩ := hinv
  obtain ⟨u50, hinv⟩ := hinv
  obtain ⟨u51, hinv⟩ := hinv
  obtain ⟨u52, hinv⟩ := hinv
  obtain ⟨u53, hinv⟩ := hinv
  obtain ⟨u54, hinv⟩ := hinv
  obtain ⟨u55, hinv⟩ := hinv
  obtain ⟨u56, hinv⟩ := hinv
  obtain ⟨u57, hinv⟩ := hinv
  obtain ⟨u58, hinv⟩ := hinv
  obtain ⟨u59, hinv⟩ := hinv
  obtain ⟨u60, hinv⟩ := hinv
  obtain ⟨u61, hinv⟩ := hinv
  obtain ⟨u62, hinv⟩ := hinv
  obtain ⟨u63, hinv⟩ := hinv
  obtain ⟨u64, hinv⟩ := hinv
  obtain ⟨u65, hinv⟩ := hinv
  obtain ⟨u66, hinv⟩ := hinv
  obtain ⟨u67, hinv⟩ := hinv
  obtain ⟨u68, hinv⟩ := hinv
  obtain ⟨u69, hinv⟩ := hinv
  obtain ⟨u70, hinv⟩ := hinv
  obtain ⟨u71, hinv⟩ := hinv
  obtain ⟨u72, hinv⟩ := hinv
  obtain ⟨u73, hinv⟩ := hinv
  obtain ⟨u74, hinv⟩ := hinv
  obtain ⟨u75, hinv⟩ := hinv
  obtain ⟨u76, hinv⟩ := hinv
  obtain ⟨u77, hinv⟩ := hinv
  obtain ⟨u78, hinv⟩ := hinv
  obtain ⟨u79, hinv⟩ := hinv
  obtain ⟨u80, hinv⟩ := hinv
  obtain ⟨u81, hinv⟩ := hinv
  obtain ⟨u82, hinv⟩ := hinv
  obtain ⟨u83, hinv⟩ := hinv
  obtain ⟨u84, hinv⟩ := hinv
  obtain ⟨u85, hinv⟩ := hinv
  obtain ⟨u86, hinv⟩ := hinv
  obtain ⟨u87, hinv⟩ := hinv
  obtain ⟨u88, hinv⟩ := hinv
  obtain ⟨u89, hinv⟩ := hinv
  obtain ⟨u90, hinv⟩ := hinv
  obtain ⟨u91, hinv⟩ := hinv
  obtain ⟨u92, hinv⟩ := hinv
  obtain ⟨u93, hinv⟩ := hinv
  obtain ⟨u94, hinv⟩ := hinv
  obtain ⟨u95, hinv⟩ := hinv
  obtain ⟨u96, hinv⟩ := hinv
  obtain ⟨u97, hinv⟩ := hinv
  obtain ⟨u98, hinv⟩ := hinv
  obtain ⟨u99, hinv⟩ := hinv
  obtain ⟨u100, hinv⟩ := hinv
  obtain ⟨u101, hinv⟩ := hinv
  obtain ⟨u102, hinv⟩ := hinv
  obtain ⟨u103, hinv⟩ := hinv
  obtain ⟨u104, hinv⟩ := hinv
  obtain ⟨u105, hinv⟩ := hinv
  obtain ⟨u106, hinv⟩ := hinv
  obtain ⟨u107, hinv⟩ := hinv
  obtain ⟨u108, hinv⟩ := hinv
  obtain ⟨u109, hinv⟩ := hinv
  obtain ⟨u110, hinv⟩ := hinv
  obtain ⟨u111, hinv⟩ := hinv
  obtain ⟨u112, hinv⟩ := hinv
  obtain ⟨⟨hg, hl7, hcz⟩, hfr⟩ := hinv
  subst hfr
  have HG := Lib.hid hg; have HCZ := Lib.hid hcz
  clear hg hcz
  obtain ⟨zb, hzb⟩ : ∃ b, b = Lib.hasPrefix l7 [90] := ⟨_, rfl⟩
  obtain ⟨mb, hmb⟩ : ∃ b, b = Lib.hasPrefix l7 [45] := ⟨_, rfl⟩
  have HZB := Lib.hid hzb; have HMB := Lib.hid hmb; have HL7 := Lib.hid hl7
  clear hzb hmb hl7
  have m2 : w0.cell? ⟨w.heap.size + 3, 0, none⟩ = some (.func (.func 37) #[] #[.pointer (some ⟨w.heap.size, 0, none⟩)]) := HG.out.mf.cell 0
  go_upto_if 81 with (go_at_call 37; clear m2; refine (markc_t _ _ _ _ _ _ HG.out.sh).mono ?_; rintro e v20 ⟨he, h1, t1⟩; replace he : e = .returned (.bool zb) := he.trans (by rw [HZB.out]); subst he; have HH := Lib.hid (HG.out.turn t1 h1); clear h1 t1)
  cases zb with
  | true =>
    have HX : Hid (calD l = endD ⟨y, m, d, h, mi, s, n, 0⟩ (Lib.trimPrefix l7 [90]) k7) := by
      show calD l = _
      rw [HCZ.out, zoneD, if_pos HZB.out.symm]
    refine wp_cond_true rfl ?_
    go_step3
    refine Goes.one ?_
    unfold J1
    repeat apply Exists.intro
    exact ⟨⟨y, m, d, h, mi, s, n, 0, Lib.trimPrefix l7 [90], k7, HH.out, Nat.le_trans (trim_len _ _) HL7.out, HX.out⟩, rfl⟩
  | false =>
    have HI : Hid (CW w v20 l7 k7 (DC y m d h mi s n 0)) := by
      have h := HH.out
      have hT : Lib.trimPrefix l7 [90] = l7 := by rw [Lib.trimPrefix, ← HZB.out]; rfl
      replace h : CW w v20 (Lib.trimPrefix l7 [90]) k7 _ := h
      rw [hT] at h
      exact h
    have HCS : Hid (calD l = match signD l7 k7 with | (sg, r, k) => match zoneT sg r k with | none => none | some (z, r2, k2) => endD ⟨y, m, d, h, mi, s, n, z⟩ r2 k2) := by
      show calD l = _
      rw [HCZ.out, zoneD, if_neg (by rw [← HZB.out]; simp)]
    clear HH HG HCZ HZB
    have m3 : v20.cell? ⟨w.heap.size + 3, 0, none⟩ = some (.func (.func 37) #[] #[.pointer (some ⟨w.heap.size, 0, none⟩)]) := HI.out.mf.cell 0
    refine wp_cond_false rfl ?_
    go_upto_if 83 with (go_at_call 37; clear m3; refine (markc_t _ _ _ _ _ _ HI.out.sh).mono ?_; rintro e v21 ⟨he, h1, t1⟩; replace he : e = .returned (.bool mb) := he.trans (by rw [HMB.out]); subst he; have HJ := Lib.hid (HI.out.turn t1 h1); clear h1 t1)
    go_cut [10] (fun s10 wx => ∃ (sg : Int) (l8 : List UInt8) (k8 : Bool), s10 = .int .i64 sg ∧ Hid (signD l7 k7 = (sg, l8, k8)) ∧ CW w wx l8 k8 (DC y m d h mi s n 0) ∧ l8.length ≤ 4194304 ∧ -1 ≤ sg ∧ sg ≤ 1)
    case first =>
      cases mb with
      | true =>
        go_wp2_with fail
        go_meet
        refine ⟨-1, Lib.trimPrefix l7 [45], k7, rfl, ?_, HJ.out, Nat.le_trans (trim_len _ _) HL7.out, by omega, by omega⟩
        show signD l7 k7 = _
        rw [signD, if_pos HMB.out.symm]
      | false =>
        have HK : Hid (CW w v21 l7 k7 (DC y m d h mi s n 0)) := by
          have h := HJ.out
          have hT : Lib.trimPrefix l7 [45] = l7 := by rw [Lib.trimPrefix, ← HMB.out]; rfl
          replace h : CW w v21 (Lib.trimPrefix l7 [45]) k7 _ := h
          rw [hT] at h
          exact h
        clear HJ HI
        go_wp2_with (go_at_call 38; refine (needc_t _ _ _ _ _ _ _ HK.out.sh HK.out.mf).mono ?_; rintro e v22 ⟨rfl, h1, t1⟩; have HM := Lib.hid (HK.out.turn t1 h1); clear h1 t1)
        go_meet
        refine ⟨1, Lib.trimPrefix l7 [43], Lib.hasPrefix l7 [43] && k7, rfl, ?_, HM.out, Nat.le_trans (trim_len _ _) HL7.out, by omega, by omega⟩
        show signD l7 k7 = _
        rw [signD, if_neg (by rw [← HMB.out]; simp)]
    case rest =>
      obtain ⟨sg, l8, k8, rfl, hsg, hcw, hl8, sg0, sg1⟩ := hcut
      have HN0 := Lib.hid hcw
      have HCT2 : Hid (calD l = match zoneT sg l8 k8 with | none => none | some (z, r2, k2) => endD ⟨y, m, d, h, mi, s, n, z⟩ r2 k2) := by
        show calD l = _
        rw [HCS.out, hsg.out]
      obtain ⟨hv, l9, k9, e9⟩ : ∃ y l1 k1, tkN 2 l8 k8 = (y, l1, k1) := ⟨_, _, _, rfl⟩
      obtain ⟨mv, l10, k10, e10⟩ : ∃ y l1 k1, tkN 2 (Lib.trimPrefix l9 [58]) (Lib.hasPrefix l9 [58] && k9) = (y, l1, k1) := ⟨_, _, _, rfl⟩
      have hb := tk_bd 2 l8 k8 (by omega)
      have mb2 := tk_bd 2 (Lib.trimPrefix l9 [58]) (Lib.hasPrefix l9 [58] && k9) (by omega)
      rw [e9] at hb; rw [e10] at mb2
      obtain ⟨hb0, hb1⟩ := hb
      obtain ⟨mb0, mb1⟩ := mb2
      have h9 := tk_to e9
      have h10 := tk_step e10
      have HL9 : Hid ((Lib.trimPrefix l9 [58]).length ≤ 4194304) := Nat.le_trans (trim_len _ _) (Nat.le_trans h9 hl8)
      have HL10 : Hid (l10.length ≤ 4194304) := Nat.le_trans h10 (Nat.le_trans h9 hl8)
      have HL8 := Lib.hid hl8
      have HZT : Hid (zoneT sg l8 k8 = if 23 < hv ∨ 59 < mv then none else some (sg * (60 * hv + mv), l10, k10)) := by
        show zoneT sg l8 k8 = _
        rw [zoneT, e9]
        dsimp only
        rw [e10]
      have E9 := Lib.hid e9; have E10 := Lib.hid e10
      clear e9 e10 h9 h10 hl8 hcw hsg HJ HI HCS HMB HL7
      have hcase : (23 < hv ∨ (hv ≤ 23 ∧ 59 < mv)) ∨ (hv ≤ 23 ∧ mv ≤ 59) := by omega
      rcases hcase with hc | ⟨hc1, hc2⟩
      · have HNO : Hid (calD l = none) := by
          show calD l = none
          rw [HCT2.out, HZT.out, if_pos (by omega)]
        rcases hc with hc | ⟨hc1, hc2⟩
        all_goals
          have tk21 : True := trivial
          go_upto_if 97 with (first
            | (go_at_call 36; clear tk21; refine (take_t 2 _ _ _ _ _ (by omega) HN0.out.sh (Nat.le_trans HL8.out (by decide))).mono ?_; rintro e v23 ⟨he, h1, t1⟩; rw [E9.out] at he h1; subst he; have HN1 := Lib.hid (HN0.out.turn t1 h1); clear h1 t1)
            | (go_at_call 38; refine (needc_t _ _ _ _ _ _ _ HN1.out.sh HN1.out.mf).mono ?_; rintro e v24 ⟨rfl, h1, t1⟩; have HN2 := Lib.hid (HN1.out.turn t1 h1); clear h1 t1)
            | (go_at_call 36; refine (take_t 2 _ _ _ _ _ (by omega) HN2.out.sh (Nat.le_trans HL9.out (by decide))).mono ?_; rintro e v25 ⟨he, h1, t1⟩; rw [E10.out] at he h1; subst he; have HN3 := Lib.hid (HN2.out.turn t1 h1); clear h1 t1))
          refine wp_cond_true rfl ?_
          go_step3
          refine Goes.zero ?_
          unfold J0
          repeat apply Exists.intro
          exact ⟨⟨HN3.out.res, HN3.out.below, HNO.out⟩, rfl⟩
      · have HXX : Hid (calD l = endD ⟨y, m, d, h, mi, s, n, sg * (60 * hv + mv)⟩ l10 k10) := by
          show calD l = _
          rw [HCT2.out, HZT.out, if_neg (by omega)]
        have q1 : decide ((23 : Int) < hv) = false := decide_eq_false (by omega)
        have q2 : decide ((59 : Int) < mv) = false := decide_eq_false (by omega)
        have tk21 : True := trivial
        go_upto_if 97 with (first
          | (go_at_call 36; clear tk21; refine (take_t 2 _ _ _ _ _ (by omega) HN0.out.sh (Nat.le_trans HL8.out (by decide))).mono ?_; rintro e v23 ⟨he, h1, t1⟩; rw [E9.out] at he h1; subst he; have HN1 := Lib.hid (HN0.out.turn t1 h1); clear h1 t1)
          | (go_at_call 38; refine (needc_t _ _ _ _ _ _ _ HN1.out.sh HN1.out.mf).mono ?_; rintro e v24 ⟨rfl, h1, t1⟩; have HN2 := Lib.hid (HN1.out.turn t1 h1); clear h1 t1)
          | (go_at_call 36; refine (take_t 2 _ _ _ _ _ (by omega) HN2.out.sh (Nat.le_trans HL9.out (by decide))).mono ?_; rintro e v25 ⟨he, h1, t1⟩; rw [E10.out] at he h1; subst he; have HN3 := Lib.hid (HN2.out.turn t1 h1); clear h1 t1))
        refine wp_cond_false rfl ?_
        have z0 : v25.cell? ⟨w.heap.size + 4, 7, none⟩ = some (.int .i64 0) := HN3.out.d.cell 7
        have zf := HN3.out.d.frozen 7
        have HW2 : Hid (IntKind.i64.wrap (sg * (60 * hv + mv)) = sg * (60 * hv + mv)) := by
          show _ = _
          have hs3 : sg = -1 ∨ sg = 0 ∨ sg = 1 := by omega
          rcases hs3 with rfl | rfl | rfl <;> (rw [IntKind.wrap_i64]; omega)
        have HW3 : Hid (wrap64 (sg * (60 * hv + mv)) = sg * (60 * hv + mv)) := by
          show _ = _
          have hs3 : sg = -1 ∨ sg = 0 ∨ sg = 1 := by omega
          rcases hs3 with rfl | rfl | rfl <;> (unfold wrap64; omega)
        go_upto_region 33 with fail
        go_cut [] (fun wx => ∃ z : Int, Hid (calD l = endD ⟨y, m, d, h, mi, s, n, z⟩ l10 k10) ∧ CW w wx l10 k10 (DC y m d h mi s n z))
        case first =>
          go_wp2_with fail
          go_meet
          have hput := (HN3.out.put 7 (.int .i64 (sg * (60 * hv + mv)))).cells (cs' := DC y m d h mi s n (sg * (60 * hv + mv))) (by simp [DC])
          refine ⟨sg * (60 * hv + mv), HXX, ?_⟩
          first | exact hput | (rw [HW2.out]; exact hput) | (rw [HW3.out]; exact hput)
        case rest =>
          obtain ⟨z, hX, hcw⟩ := hcut
          obtain ⟨wx, rfl⟩ : ∃ x : World, x = wc := ⟨_, rfl⟩
          have HP := Lib.hid hcw; have HX := Lib.hid hX.out
          clear hcw hX HXX HN0 HN1 HN2 HN3 HCT2 HZT z0 zf
          apply_assumption
          refine wp_seq (wp_label (Exit.of_no (lbl1b l w HTAB.out _ _ ?_)))
          unfold J1
          repeat apply Exists.intro
          exact ⟨⟨y, m, d, h, mi, s, n, z, l10, k10, HP.out, HL10.out, HX.out⟩, rfl⟩
end Go.Proofs.YtdkfgobbpadmgaaGreatDoor
