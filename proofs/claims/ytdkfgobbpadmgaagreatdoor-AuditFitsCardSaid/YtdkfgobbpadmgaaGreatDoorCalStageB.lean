/- Package cal: Parse behind the seconds. -/
import Derived.Test.YtdkfgobbpadmgaaGreatDoorCalStageC
set_option linter.unusedVariables false
set_option linter.unusedSimpArgs false
namespace Go.Proofs.YtdkfgobbpadmgaaGreatDoor
open Go.RowKit
theorem pow_bd (f : Nat) (hf : f ≤ 4) : (1000 : Int) ≤ 10 ^ (3 + f) ∧ (10 : Int) ^ (3 + f) ≤ 10000000 := by
  match f, hf with
  | 0, _ => decide
  | 1, _ => decide
  | 2, _ => decide
  | 3, _ => decide
  | 4, _ => decide
/-- ahead of the nanoseconds -/
@[irreducible] def JB (l : List UInt8) (w : World) (a' : Act) (w' : World) : Prop :=
  ∃ (y m d h mi s : Int) (l6 : List UInt8), ∃ u0 u3 u4 u12 u13 u14 u15 u16 u17 u18 u19 u20 u21 u22 u23 u24 u25 u26 u27 u28 u29 u30 u31 u32 u33 u34 u35 u36 u37 u38 u39 u40 u41 u42 u43 u44 u45 u46 u47 u48 u49 u50 u51 u52 u53 u54 u55 u56 u57 u58 u59 u60 u61 u62 u63 u64 u65 u66 u67 u68 u69 u70 u71 u72 u73 u74 u75 u76 u77 u78 u79 u80 u81 u82 u83 u84 u85 u86 u87 u88 u89 u90 u91 u92 u93 u94 u95 u96 u97 u98 u99 u100 u101 u102 u103 u104 u105 u106 u107 u108 u109 u110 u111 u112 : Value, (CW w w' l6 true (DC y m d h mi s 0 0) ∧ l6.length ≤ 4194304 ∧ calD l = tailD y m d h mi s l6) ∧ a' = { tmps := #[u0, .pointer (some ⟨w.heap.size, 0, none⟩), .pointer (some ⟨w.heap.size + 1, 0, none⟩), u3, u4, .pointer (some ⟨w.heap.size + 2, 0, none⟩), .func (.func 36) #[] #[.pointer (some ⟨w.heap.size, 0, none⟩), .pointer (some ⟨w.heap.size + 2, 0, none⟩)], .pointer (some ⟨w.heap.size + 3, 0, none⟩), .func (.func 38) #[] #[.pointer (some ⟨w.heap.size + 3, 0, none⟩), .pointer (some ⟨w.heap.size + 2, 0, none⟩)], .pointer (some ⟨w.heap.size + 4, 0, none⟩), .int .i64 1, .int .i64 100000000, u12, u13, u14, u15, u16, u17, u18, u19, u20, u21, u22, u23, u24, u25, u26, u27, u28, u29, u30, u31, u32, u33, u34, u35, u36, u37, u38, u39, u40, u41, u42, u43, u44, u45, u46, u47, u48, u49, u50, u51, u52, u53, u54, u55, u56, u57, u58, u59, u60, u61, u62, u63, u64, u65, u66, u67, u68, u69, u70, u71, u72, u73, u74, u75, u76, u77, u78, u79, u80, u81, u82, u83, u84, u85, u86, u87, u88, u89, u90, u91, u92, u93, u94, u95, u96, u97, u98, u99, u100, u101, u102, u103, u104, u105, u106, u107, u108, u109, u110, u111, u112], defers := [] }
set_option maxHeartbeats 4000000 in
set_option maxRecDepth 100000 in
theorem stageB (l : List UInt8) (w : World) (hG : Tab w) : ∀ a wx, JB l w a wx → (restOf 19 (scopeOf (Tryz.f14.body.getD .ret))).wp Tryz.prog (Exit.two (J0 l w) (J1 l w) (bodyPost Tryz.prog Tryz.f14 (CPOST l w))) a wx := by
  refine at_rest rfl ?_
  intro a' w0 hinv
  unfold JB at hinv
  obtain ⟨y, m, d, h, mi, s, l6, hinv⟩ := hinv
  obtain ⟨u0, hinv⟩ := hinv
  obtain ⟨u3, hinv⟩ := hinv
  obtain ⟨u4, hinv⟩ := hinv
  obtain ⟨u12, hinv⟩ := hinv
  obtain ⟨u13, hinv⟩ := hinv
  obtain ⟨u14, hinv⟩ := hinv
  obtain ⟨u15, hinv⟩ := hinv
  obtain ⟨u16, hinv⟩ := hinv
  obtain ⟨u17, hinv⟩ := hinv
  obtain ⟨u18, hinv⟩ := hinv
  obtain ⟨u19, hinv⟩ := hinv
  obtain ⟨u20, hinv⟩ := hinv
  obtain ⟨u21, hinv⟩ := hinv
  obtain ⟨u22, hinv⟩ := hinv
  obtain ⟨u23, hinv⟩ := hinv
  obtain ⟨u24, hinv⟩ := hinv
  obtain ⟨u25, hinv⟩ := hinv
  obtain ⟨u26, hinv⟩ := hinv
  obtain ⟨u27, hinv⟩ := hinv
  obtain ⟨u28, hinv⟩ := hinv
  obtain ⟨u29, hinv⟩ := hinv
  obtain ⟨u30, hinv⟩ := hinv
  obtain ⟨u31, hinv⟩ := hinv
  obtain ⟨u32, hinv⟩ := hinv
  obtain ⟨u33, hinv⟩ := hinv
  obtain ⟨u34, hinv⟩ := hinv
  obtain ⟨u35, hinv⟩ := hinv
  obtain ⟨u36, hinv⟩ := hinv
  obtain ⟨u37, hinv⟩ := hinv
  obtain ⟨u38, hinv⟩ := hinv
  obtain ⟨u39, hinv⟩ := hinv
  obtain ⟨u40, hinv⟩ := hinv
  obtain ⟨u41, hinv⟩ := hinv
  obtain ⟨u42, hinv⟩ := hinv
  obtain ⟨u43, hinv⟩ := hinv
  obtain ⟨u44, hinv⟩ := hinv
  obtain ⟨u45, hinv⟩ := hinv
  obtain ⟨u46, hinv⟩ := hinv
  obtain ⟨u47, hinv⟩ := hinv
  obtain ⟨u48, hinv⟩ := hinv
  obtain ⟨u49, hinv⟩ := hinv
  obtain ⟨u50, hinv⟩ := hinv
  obtain ⟨u51, hinv⟩ := hinv
  obtain ⟨u52, hinv⟩ := hinv
  obtain ⟨u53, hinv⟩ := hinv
  obtain ⟨u54, hinv⟩ := hinv
  obtain ⟨u55, hinv⟩ := hinv
  obtain ⟨u56, hinv⟩ := hinv
  obtain ⟨u57, hinv⟩ := hinv
  obtain ⟨u58, hinv⟩ := hinv
  obtain ⟨u59, hinv⟩ := hinv
  obtain ⟨u60, hinv⟩ := hinv
  obtain ⟨u61, hinv⟩ := hinv
  obtain ⟨u62, hinv⟩ := hinv
  obtain ⟨u63, hinv⟩ := hinv
  obtain ⟨u64, hinv⟩ := hinv
  obtain ⟨u65, hinv⟩ := hinv
  obtain ⟨u66, hinv⟩ := hinv
  obtain ⟨u67, hinv⟩ := hinv
  obtain ⟨u68, hinv⟩ := hinv
  obtain ⟨u69, hinv⟩ := hinv
  obtain ⟨u70, hinv⟩ := hinv
  obtain ⟨u71, hinv⟩ := hinv
  obtain ⟨u72, hinv⟩ := hinv
  obtain ⟨u73, hinv⟩ := hinv
  obtain ⟨u74, hinv⟩ := hinv
  obtain ⟨u75, hinv⟩ := hinv
  obtain ⟨u76, hinv⟩ := hinv
  obtain ⟨u77, hinv⟩ := hinv
  obtain ⟨u78, hinv⟩ := hinv
  obtain ⟨u79, hinv⟩ := hinv
  obtain ⟨u80, hinv⟩ := hinv
  obtain ⟨u81, hinv⟩ := hinv
  obtain ⟨u82, hinv⟩ := hinv
  obtain ⟨u83, hinv⟩ := hinv
  obtain ⟨u84, hinv⟩ := hinv
  obtain ⟨u85, hinv⟩ := hinv
  obtain ⟨u86, hinv⟩ := hinv
  obtain ⟨u87, hinv⟩ := hinv
  obtain ⟨u88, hinv⟩ := hinv
  obtain ⟨u89, hinv⟩ := hinv
  obtain ⟨u90, hinv⟩ := hinv
  obtain ⟨u91, hinv⟩ := hinv
  obtain ⟨u92, hinv⟩ := hinv
  obtain ⟨u93, hinv⟩ := hinv
  obtain ⟨u94, hinv⟩ := hinv
  obtain ⟨u95, hinv⟩ := hinv
  obtain ⟨u96, hinv⟩ := hinv
  obtain ⟨u97, hinv⟩ := hinv
  obtain ⟨u98, hinv⟩ := hinv
  obtain ⟨u99, hinv⟩ := hinv
  obtain ⟨u100, hinv⟩ := hinv
  obtain ⟨u101, hinv⟩ := hinv
  obtain ⟨u102, hinv⟩ := hinv
  obtain ⟨u103, hinv⟩ := hinv
  obtain ⟨u104, hinv⟩ := hinv
  obtain ⟨u105, hinv⟩ := hinv
  obtain ⟨u106, hinv⟩ := hinv
  obtain ⟨u107, hinv⟩ := hinv
  obtain ⟨u108, hinv⟩ := hinv
  obtain ⟨u109, hinv⟩ := hinv
  obtain ⟨u110, hinv⟩ := hinv
  obtain ⟨u111, hinv⟩ := hinv
  obtain ⟨u112, hinv⟩ := hinv
  obtain ⟨⟨ha, hl6', hct⟩, hfr⟩ := hinv
  subst hfr
  have HA := Lib.hid ha; have HCT := Lib.hid hct
  clear ha hct
  have m0 : w0.cell? ⟨w.heap.size + 3, 0, none⟩ = some (.func (.func 37) #[] #[.pointer (some ⟨w.heap.size, 0, none⟩)]) := HA.out.mf.cell 0
  obtain ⟨fb, hfb⟩ : ∃ b, b = Lib.hasPrefix l6 [46] := ⟨_, rfl⟩
  have HFB := Lib.hid hfb; clear hfb
  go_upto_if 48 with (go_at_call 37; clear m0; refine (markc_t _ _ _ _ _ _ HA.out.sh).mono ?_; rintro e v12 ⟨he, h1, t1⟩; replace he : e = .returned (.bool fb) := he.trans (by rw [HFB.out]); subst he; have HB := Lib.hid (HA.out.turn t1 h1); clear h1 t1)
  go_cut [11] (fun s11 wx => ∃ (n : Int) (l7 : List UInt8) (k7 : Bool), Hid (fracD l6 = (n, l7, k7)) ∧ CW w wx l7 k7 (DC y m d h mi s n 0) ∧ l7.length ≤ 4194304)
  case first =>
    cases fb with
    | false =>
      go_wp2_with fail
      go_meet
      refine ⟨0, l6, true, ?_, ?_, hl6'⟩
      · show fracD l6 = _
        rw [fracD, if_neg (by rw [← HFB.out]; simp)]
      · have h := HB.out
        have hT : Lib.trimPrefix l6 [46] = l6 := by rw [Lib.trimPrefix, ← HFB.out]; rfl
        replace h : CW w v12 (Lib.trimPrefix l6 [46]) true _ := h
        rw [hT] at h
        exact h
    | true =>
      obtain ⟨v, l7, k7, e7⟩ : ∃ v l7 k7, tkN 1 (Lib.trimPrefix l6 [46]) true = (v, l7, k7) := ⟨_, _, _, rfl⟩
      have hv := tk_one_bd (Lib.trimPrefix l6 [46]) true
      rw [e7] at hv
      obtain ⟨hv0, hv1⟩ := hv
      have hl7 : l7.length ≤ 4194304 := Nat.le_trans (tk_step e7) hl6'
      have HFR : Hid (fracD l6 = ((fracN 5 (v * 100000000) l7).1, (fracN 5 (v * 100000000) l7).2, k7)) := by
        show fracD l6 = _
        rw [fracD, if_pos HFB.out.symm, e7]
      have E7 := Lib.hid e7; clear e7
      have hl6t : Hid ((Lib.trimPrefix l6 [46]).length ≤ 4194304) := Nat.le_trans (trim_len _ _) hl6'
      go_wp2_with (go_at_call 36; refine (take_t 1 _ _ _ _ _ (by omega) HB.out.sh (Nat.le_trans hl6t.out (by decide))).mono ?_; rintro e v13 ⟨he, h1, t1⟩; replace h1 : Sh v13 w.heap.size (w.heap.size + 2) (tkN 1 (Lib.trimPrefix l6 [46]) true).2.1 (tkN 1 (Lib.trimPrefix l6 [46]) true).2.2 := h1; replace he : e = .returned (.int .i64 (tkN 1 (Lib.trimPrefix l6 [46]) true).1) := he; rw [E7.out] at he h1; subst he; have HC := Lib.hid (HB.out.turn t1 h1); clear h1 t1; have c13 : v13.cell? ⟨w.heap.size + 4, 6, none⟩ = some (.int .i64 0) := HC.out.d.cell 6; have f13 := HC.out.d.frozen 6)
      go_loopg [11] 5 (fun g c wr => ∃ (n S : Int) (l' : List UInt8), c = .int .i64 S ∧ g ≤ 5 ∧ Hid (S = 10 ^ (3 + g)) ∧ 0 ≤ n ∧ n ≤ 1000000000 - S ∧ Hid (fracN g n l' = fracN 5 (v * 100000000) l7) ∧ CW w wr l' k7 (DC y m d h mi s n 0) ∧ l'.length ≤ 4194304)
      case atStart => exact ⟨v * 100000000, 100000000, l7, rfl, by omega, (by show _ = _; decide), by omega, by omega, rfl, (HC.out.put 6 (.int .i64 (v * 100000000))).cells (by simp [DC]), hl7⟩
      case round =>
        obtain ⟨n, S, l', rfl, hg5, hS, hn0, hn1, hfr, hcw, hl'⟩ := hrel
        have HD := Lib.hid hcw; have HS := Lib.hid hS.out; have HFN := Lib.hid hfr.out
        clear hcw hS hfr HB HC HA
        have s0 : wr.cell? ⟨w.heap.size, 0, none⟩ = some (.string ⟨l'.toArray⟩) := HD.out.sh.s.cell 0
        cases gk with
        | zero =>
          obtain rfl : S = 1000 := HS.out
          go_wp2_with fail
          go_meet
          refine ⟨n, l', k7, ?_, HD.out, hl'⟩
          show fracD l6 = _
          rw [HFR.out, ← HFN.out]; rfl
        | succ f =>
          have hf := hg5
          obtain ⟨S', hS'⟩ : ∃ S' : Int, S' = 10 ^ (3 + f) := ⟨_, rfl⟩
          have hSS : S = 10 * S' := by rw [HS.out, hS', show 3 + (f + 1) = (3 + f) + 1 by omega, Int.pow_succ]; omega
          have hb1 : 1000 ≤ S' ∧ S' ≤ 10000000 := by
            rw [hS']
            exact pow_bd f (by omega)
          obtain ⟨b1, b2⟩ := hb1
          have HSS := Lib.hid hSS; have HS' := Lib.hid hS'
          have gt1 : (1000 : Int) < S := by omega
          have hq : S.tdiv 10 = S' := by rw [hSS]; exact Int.mul_tdiv_cancel_left S' (by decide)
          have bS : S ≤ 100000000 := by omega
          clear hSS hS' HS
          cases l' with
          | nil =>
            go_wp2_with fail
            go_meet
            refine ⟨n, [], k7, ?_, HD.out, hl'⟩
            show fracD l6 = _
            rw [HFR.out, ← HFN.out]; rfl
          | cons c r =>
            obtain ⟨sb, hsb⟩ : ∃ sb : ByteArray, sb = ⟨(c :: r).toArray⟩ := ⟨_, rfl⟩
            have hne : sb.toList.isEmpty = false := by rw [ByteArray.toList_eq, hsb]; rfl
            have hsz : sb.size = r.length + 1 := by rw [hsb]; rfl
            have hs0 : 0 < sb.size := by omega
            have hget : sb[0]'hs0 = c := by subst hsb; rfl
            rw [← hsb] at s0
            have HSB := Lib.hid hsb; have HGET := Lib.hid hget
            clear hsb hget
            have HCR : Hid (fracN (f + 1) n (c :: r) = if isDig c then fracN f (n + ((c.toNat : Int) - 48) * 10 ^ (3 + f)) r else (n, c :: r)) := by
              show fracN (f + 1) n (c :: r) = _
              rw [fracN]
            by_cases hd : isDig c = true
            · obtain ⟨q1, q2⟩ := of_decide_eq_true hd
              rw [← HGET.out] at q1 q2
              have q1' : (48 : Int) ≤ ((sb[0]'hs0).toNat : Int) := by omega
              have q2' : ((sb[0]'hs0).toNat : Int) ≤ 57 := by omega
              have q3' : ¬ ((sb[0]'hs0).toNat : Int) < 48 := by omega
              have q4' : ¬ (57 : Int) < ((sb[0]'hs0).toNat : Int) := by omega
              have HDG := Lib.hid hd
              clear hd
              have c6 : wr.cell? ⟨w.heap.size + 4, 6, none⟩ = some (.int .i64 n) := HD.out.d.cell 6
              go_upto_region 24 with fail
              obtain ⟨V, hV⟩ : ∃ V : Int, V = (c.toNat : Int) - 48 := ⟨_, rfl⟩
              have HV := Lib.hid hV
              have v0 : 0 ≤ V := by rw [hV, ← HGET.out]; omega
              have v9 : V ≤ 9 := by rw [hV, ← HGET.out]; omega
              have p0 : 0 ≤ V * S' := Int.mul_nonneg v0 (by omega)
              have p1 : V * S' ≤ 9 * S' := Int.mul_le_mul_of_nonneg_right v9 (by omega)
              have HTO : Hid (tkN 1 (c :: r) k7 = (V, r, k7)) := by
                show tkN 1 (c :: r) k7 = _
                rw [tk_one c r k7 HDG.out, HV.out]
              have HSE := HSS.out
              have p2 : n + V * S' ≤ 1000000000 - S' := by omega
              have hlr : r.length ≤ 4194304 := by simp at hl'; omega
              have HLL := Lib.hid hl'
              have HN1' := Lib.hid p2
              have HW1 : Hid (IntKind.i64.wrap (V * S') = V * S' ∧ IntKind.i64.wrap (n + V * S') = n + V * S') := by
                show _ ∧ _
                generalize V * S' = U at p0 p1 p2
                exact ⟨by rw [IntKind.wrap_i64]; omega, by rw [IntKind.wrap_i64]; omega⟩
              clear hV HSE hl'
              go_region_with (go_at_call 36; refine (take_t 1 _ _ _ _ _ (by omega) HD.out.drew.sh (Nat.le_trans HLL.out (by decide))).mono ?_; rintro e v14 ⟨he, h1, t1⟩; replace he : e = .returned (.int .i64 (tkN 1 (c :: r) k7).1) := he; replace h1 : Sh v14 w.heap.size (w.heap.size + 2) (tkN 1 (c :: r) k7).2.1 (tkN 1 (c :: r) k7).2.2 := h1; rw [HTO.out] at he h1; subst he; have HE := Lib.hid (HD.out.drew.turn t1 h1); clear h1 t1; have c14 : v14.cell? ⟨w.heap.size + 4, 6, none⟩ = some (.int .i64 n) := HE.out.d.cell 6; have f14 := HE.out.d.frozen 6)
              all_goals
                go_wp2_with fail
                go_roundg f
                case measure => omega
                case rel =>
                  refine ⟨n + V * S', S', r, rfl, by omega, HS', by omega, HN1'.out, ?_, ?_, hlr⟩
                  · show fracN f (n + V * S') r = _
                    rw [← HFN.out, HCR.out, if_pos HDG.out, HV.out, HS'.out]
                  · rw [HW1.out.1, HW1.out.2]; exact (HE.out.put 6 (.int .i64 (n + V * S'))).cells (cs' := DC y m d h mi s (n + V * S') 0) (by simp [DC])
            · have hR : fracN (f + 1) n (c :: r) = (n, c :: r) := by rw [HCR.out, if_neg hd]
              have HR := Lib.hid hR
              have hq : ((sb[0]'hs0).toNat : Int) < 48 ∨ 57 < ((sb[0]'hs0).toNat : Int) := by
                rw [HGET.out]
                have : ¬ (48 ≤ c.toNat ∧ c.toNat ≤ 57) := fun hh => hd (decide_eq_true hh)
                omega
              clear hd hR
              rcases hq with hq | hq
              · have q1' : ¬ (48 : Int) ≤ ((sb[0]'hs0).toNat : Int) := by omega
                go_wp2_with fail
                go_meet
                refine ⟨n, c :: r, k7, ?_, HD.out, hl'⟩
                show fracD l6 = _
                rw [HFR.out, ← HFN.out, HR.out]
              · have q1' : (48 : Int) ≤ ((sb[0]'hs0).toNat : Int) := by omega
                have q2' : ¬ ((sb[0]'hs0).toNat : Int) ≤ 57 := by omega
                go_wp2_with fail
                go_meet
                refine ⟨n, c :: r, k7, ?_, HD.out, hl'⟩
                show fracD l6 = _
                rw [HFR.out, ← HFN.out, HR.out]
  case rest =>
    obtain ⟨n, l7, k7, hfr, hcw, hl7⟩ := hcut
    apply_assumption
    refine stageC l w hG _ _ ?_
    unfold JC
    refine ⟨y, m, d, h, mi, s, n, l7, k7, ?_⟩
    repeat apply Exists.intro
    refine ⟨⟨hcw, hl7, ?_⟩, rfl⟩
    rw [HCT.out, tailD, hfr.out]
    rfl
end Go.Proofs.YtdkfgobbpadmgaaGreatDoor
