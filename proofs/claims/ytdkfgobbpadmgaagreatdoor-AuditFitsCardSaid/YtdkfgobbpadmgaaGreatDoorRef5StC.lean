/- Package tabularyref05: Parse, the words. -/
import Derived.Test.YtdkfgobbpadmgaaGreatDoorRef5StD
set_option linter.unusedVariables false
set_option linter.unusedSimpArgs false
namespace Go.Proofs.YtdkfgobbpadmgaaGreatDoor
open Go.RowKit
set_option maxRecDepth 1000000 in
@[irreducible] def JC5 (s : ByteArray) (w : World) (a' : Act) (w' : World) : Prop :=
  ∃ (E n : Nat) (t : Bool) (a : Int) (p : Nat), ∃ u1 u3 u4 u5 u6 u7 u8 u11 u12 u13 u14 u15 u16 u17 u18 u19 u20 u21 u22 u23 u24 u25 u26 u27 u28 u29 u30 u31 u32 u33 u34 u35 u36 u37 u38 u39 u40 u41 u42 u43 u44 u45 u46 u47 u48 u49 u50 u51 u52 u53 u54 u55 u56 u57 u58 u59 u60 u61 u62 u63 u64 u65 u66 u67 u68 u69 u70 u71 u72 u73 u74 u75 u76 u77 u78 u79 u80 u81 u82 u83 u84 u85 u86 u87 u88 u89 u90 u91 u92 u93 u94 u95 u96 u97 u98 u99 u100 u101 u102 u103 u104 u105 u106 u107 u108 u109 u110 u111 u112 u113 u114 u115 u116 u117 u118 u119 u120 u121 u122 u123 u124 u125 u126 u127 u128 u129 u130 u131 u132 u133 u134 u135 u136 u137 u138 u139 u140 u141 u142 u143 u144 u145 u146 u147 u148 u149 u150 u151 u152 u153 u154 u155 u156 u157 u158 u159 u160 u161 u162 u163 u164 u165 u166 u167 u168 u169 u170 u171 u172 u173 u174 u175 u176 u177 u178 u179 u180 u181 u182 u183 u184 u185 u186 u187 u188 u189 u190 u191 u192 u193 u194 u195 u196 u197 u198 u199 u200 u201 u202 u203 u204 u205 u206 u207 u208 u209 u210 u211 u212 u213 u214 u215 u216 u217 u218 u219 u220 u221 u222 u223 u224 u225 u226 u227 u228 : Value, (R5 w E w' (EVC ((n % 8 : Nat) : Int) ((n / 8 : Nat) : Int) t a [] [] [] [] (.slice none 0 0) []) ∧ -9223372036854775808 ≤ a ∧ a ≤ 9223372036854775807 ∧ p ≤ s.size ∧ parseN calD s.data.toList = rwds n t a (rwordsN 4 (s.data.toList.drop p) [])) ∧ a' = { tmps := #[.string s, u1, .pointer (some ⟨w.heap.size, 0, none⟩), u3, u4, u5, u6, u7, u8, .pointer (some ⟨E, 0, none⟩), .int .i64 p, u11, u12, u13, u14, u15, u16, u17, u18, u19, u20, u21, u22, u23, u24, u25, u26, u27, u28, u29, u30, u31, u32, u33, u34, u35, u36, u37, u38, u39, u40, u41, u42, u43, u44, u45, u46, u47, u48, u49, u50, u51, u52, u53, u54, u55, u56, u57, u58, u59, u60, u61, u62, u63, u64, u65, u66, u67, u68, u69, u70, u71, u72, u73, u74, u75, u76, u77, u78, u79, u80, u81, u82, u83, u84, u85, u86, u87, u88, u89, u90, u91, u92, u93, u94, u95, u96, u97, u98, u99, u100, u101, u102, u103, u104, u105, u106, u107, u108, u109, u110, u111, u112, u113, u114, u115, u116, u117, u118, u119, u120, u121, u122, u123, u124, u125, u126, u127, u128, u129, u130, u131, u132, u133, u134, u135, u136, u137, u138, u139, u140, u141, u142, u143, u144, u145, u146, u147, u148, u149, u150, u151, u152, u153, u154, u155, u156, u157, u158, u159, u160, u161, u162, u163, u164, u165, u166, u167, u168, u169, u170, u171, u172, u173, u174, u175, u176, u177, u178, u179, u180, u181, u182, u183, u184, u185, u186, u187, u188, u189, u190, u191, u192, u193, u194, u195, u196, u197, u198, u199, u200, u201, u202, u203, u204, u205, u206, u207, u208, u209, u210, u211, u212, u213, u214, u215, u216, u217, u218, u219, u220, u221, u222, u223, u224, u225, u226, u227, u228], defers := [] }
set_option maxHeartbeats 8000000 in
set_option maxRecDepth 100000 in
theorem stageC5 (s : ByteArray) (w : World) (hs : s.size ≤ 4194304) : ∀ a wx, JC5 s w a wx → (restOf 12 (Tryz.f7.body.getD .ret)).wp Tryz.prog (bodyPost Tryz.prog Tryz.f7 (POST calD s.data.toList w)) a wx := by
  obtain ⟨l, hl⟩ : ∃ l, l = s.data.toList := ⟨_, rfl⟩
  have hsz : l.length = s.size := by rw [hl]; rfl
  refine at_rest rfl ?_
  intro a' w1 hinv
  unfold JC5 at hinv
  obtain ⟨E, n, t, a, p, hinv⟩ := hinv
  obtain ⟨u1, hinv⟩ := hinv
  obtain ⟨u3, hinv⟩ := hinv
  obtain ⟨u4, hinv⟩ := hinv
  obtain ⟨u5, hinv⟩ := hinv
  obtain ⟨u6, hinv⟩ := hinv
  obtain ⟨u7, hinv⟩ := hinv
  obtain ⟨u8, hinv⟩ := hinv
  obtain ⟨u11, hinv⟩ := hinv
  obtain ⟨u12, hinv⟩ := hinv
  obtain ⟨u13, hinv⟩ := hinv
  obtain ⟨u14, hinv⟩ := hinv
  obtain ⟨u15, hinv⟩ := hinv
  obtain ⟨u16, hinv⟩ := hinv
  obtain ⟨u17, hinv⟩ := hinv
  obtain ⟨u18, hinv⟩ := hinv
  obtain ⟨u19, hinv⟩ := hinv
  obtain ⟨u20, hinv⟩ := hinv
  obtain ⟨u21, hinv⟩ := hinv
  obtain ⟨u22, hinv⟩ := hinv
  obtain ⟨u23, hinv⟩ := hinv
  obtain ⟨u24, hinv⟩ := hinv
  obtain ⟨u25, hinv⟩ := hinv
  obtain ⟨u26, hinv⟩ := hinv
  obtain ⟨u27, hinv⟩ := hinv
  obtain ⟨u28, hinv⟩ := hinv
  obtain ⟨u29, hinv⟩ := hinv
  obtain ⟨u30, hinv⟩ := hinv
  obtain ⟨u31, hinv⟩ := hinv
  obtain ⟨u32, hinv⟩ := hinv
  obtain ⟨u33, hinv⟩ := hinv
  obtain ⟨u34, hinv⟩ := hinv
  obtain ⟨u35, hinv⟩ := hinv
  obtain ⟨u36, hinv⟩ := hinv
  obtain ⟨u37, hinv⟩ := hinv
  obtain ⟨u38, hinv⟩ := hinv
  obtain ⟨u39, hinv⟩ := hinv
  obtain ⟨u40, hinv⟩ := hinv
  obtain ⟨u41, hinv⟩ := hinv
  obtain ⟨u42, hinv⟩ := hinv
  obtain ⟨u43, hinv⟩ := hinv
  obtain ⟨u44, hinv⟩ := hinv
  obtain ⟨u45, hinv⟩ := hinv
  obtain ⟨u46, hinv⟩ := hinv
  obtain ⟨u47, hinv⟩ := hinv
  obtain ⟨u48, hinv⟩ := hinv
  obtain ⟨u49, hinv⟩ := hinv
  obtain ⟨u50, hinv⟩ := hinv
  obtain ⟨u51, hinv⟩ := hinv
  obtain ⟨u52, hinv⟩ := hinv
  obtain ⟨u53, hinv⟩ := hinv
  obtain ⟨u54, hinv⟩ := hinv
  obtain ⟨u55, hinv⟩ := hinv
  obtain ⟨u56, hinv⟩ := hinv
  obtain ⟨u57, hinv⟩ := hinv
  obtain ⟨u58, hinv⟩ := hinv
  obtain ⟨u59, hinv⟩ := hinv
  obtain ⟨u60, hinv⟩ := hinv
  obtain ⟨u61, hinv⟩ := hinv
  obtain ⟨u62, hinv⟩ := hinv
  obtain ⟨u63, hinv⟩ := hinv
  obtain ⟨u64, hinv⟩ := hinv
  obtain ⟨u65, hinv⟩ := hinv
  obtain ⟨u66, hinv⟩ := hinv
  obtain ⟨u67, hinv⟩ := hinv
  obtain ⟨u68, hinv⟩ := hinv
  obtain ⟨u69, hinv⟩ := hinv
  obtain ⟨u70, hinv⟩ := hinv
  obtain ⟨u71, hinv⟩ := hinv
  obtain ⟨u72, hinv⟩ := hinv
  obtain ⟨u73, hinv⟩ := hinv
  obtain ⟨u74, hinv⟩ := hinv
  obtain ⟨u75, hinv⟩ := hinv
  obtain ⟨u76, hinv⟩ := hinv
  obtain ⟨u77, hinv⟩ := hinv
  obtain ⟨u78, hinv⟩ := hinv
  obtain ⟨u79, hinv⟩ := hinv
  obtain ⟨u80, hinv⟩ := hinv
  obtain ⟨u81, hinv⟩ := hinv
  obtain ⟨u82, hinv⟩ := hinv
  obtain ⟨u83, hinv⟩ := hinv
  obtain ⟨u84, hinv⟩ := hinv
  obtain ⟨u85, hinv⟩ := hinv
  obtain ⟨u86, hinv⟩ := hinv
  obtain ⟨u87, hinv⟩ := hinv
  obtain ⟨u88, hinv⟩ := hinv
  obtain ⟨u89, hinv⟩ := hinv
  obtain ⟨u90, hinv⟩ := hinv
  obtain ⟨u91, hinv⟩ := hinv
  obtain ⟨u92, hinv⟩ := hinv
  obtain ⟨u93, hinv⟩ := hinv
  obtain ⟨u94, hinv⟩ := hinv
  obtain ⟨u95, hinv⟩ := hinv
  obtain ⟨u96, hinv⟩ := hinv
  obtain ⟨u97, hinv⟩ := hinv
  obtain ⟨u98, hinv⟩ := hinv
  obtain ⟨u99, hinv⟩ := hinv
  obtain ⟨u100, hinv⟩ := hinv
  obtain ⟨u101, hinv⟩ := hinv
  obtain ⟨u102, hinv⟩ := hinv
  obtain ⟨u103, hinv⟩ := hinv
  obtain ⟨u104, hinv⟩ := hinv
  obtain ⟨u105, hinv⟩ := hinv
  obtain ⟨u106, hinv⟩ := hinv
  obtain ⟨u107, hinv⟩ := hinv
  obtain ⟨u108, hinv⟩ := hinv
  obtain ⟨u109, hinv⟩ := hinv
  obtain ⟨u110, hinv⟩ := hinv
  obtain ⟨u111, hinv⟩ := hinv
  obtain ⟨u112, hinv⟩ := hinv
  obtain ⟨u113, hinv⟩ := hinv
  obtain ⟨u114, hinv⟩ := hinv
  obtain ⟨u115, hinv⟩ := hinv
  obtain ⟨u116, hinv⟩ := hinv
  obtain ⟨u117, hinv⟩ := hinv
  obtain ⟨u118, hinv⟩ := hinv
  obtain ⟨u119, hinv⟩ := hinv
  obtain ⟨u120, hinv⟩ := hinv
  obtain ⟨u121, hinv⟩ := hinv
  obtain ⟨u122, hinv⟩ := hinv
  obtain ⟨u123, hinv⟩ := hinv
  obtain ⟨u124, hinv⟩ := hinv
  obtain ⟨u125, hinv⟩ := hinv
  obtain ⟨u126, hinv⟩ := hinv
  obtain ⟨u127, hinv⟩ := hinv
  obtain ⟨u128, hinv⟩ := hinv
  obtain ⟨u129, hinv⟩ := hinv
  obtain ⟨u130, hinv⟩ := hinv
  obtain ⟨u131, hinv⟩ := hinv
  obtain ⟨u132, hinv⟩ := hinv
  obtain ⟨u133, hinv⟩ := hinv
  obtain ⟨u134, hinv⟩ := hinv
  obtain ⟨u135, hinv⟩ := hinv
  obtain ⟨u136, hinv⟩ := hinv
  obtain ⟨u137, hinv⟩ := hinv
  obtain ⟨u138, hinv⟩ := hinv
  obtain ⟨u139, hinv⟩ := hinv
  obtain ⟨u140, hinv⟩ := hinv
  obtain ⟨u141, hinv⟩ := hinv
  obtain ⟨u142, hinv⟩ := hinv
  obtain ⟨u143, hinv⟩ := hinv
  obtain ⟨u144, hinv⟩ := hinv
  obtain ⟨u145, hinv⟩ := hinv
  obtain ⟨u146, hinv⟩ := hinv
  obtain ⟨u147, hinv⟩ := hinv
  obtain ⟨u148, hinv⟩ := hinv
  obtain ⟨u149, hinv⟩ := hinv
  obtain ⟨u150, hinv⟩ := hinv
  obtain ⟨u151, hinv⟩ := hinv
  obtain ⟨u152, hinv⟩ := hinv
  obtain ⟨u153, hinv⟩ := hinv
  obtain ⟨u154, hinv⟩ := hinv
  obtain ⟨u155, hinv⟩ := hinv
  obtain ⟨u156, hinv⟩ := hinv
  obtain ⟨u157, hinv⟩ := hinv
  obtain ⟨u158, hinv⟩ := hinv
  obtain ⟨u159, hinv⟩ := hinv
  obtain ⟨u160, hinv⟩ := hinv
  obtain ⟨u161, hinv⟩ := hinv
  obtain ⟨u162, hinv⟩ := hinv
  obtain ⟨u163, hinv⟩ := hinv
  obtain ⟨u164, hinv⟩ := hinv
  obtain ⟨u165, hinv⟩ := hinv
  obtain ⟨u166, hinv⟩ := hinv
  obtain ⟨u167, hinv⟩ := hinv
  obtain ⟨u168, hinv⟩ := hinv
  obtain ⟨u169, hinv⟩ := hinv
  obtain ⟨u170, hinv⟩ := hinv
  obtain ⟨u171, hinv⟩ := hinv
  obtain ⟨u172, hinv⟩ := hinv
  obtain ⟨u173, hinv⟩ := hinv
  obtain ⟨u174, hinv⟩ := hinv
  obtain ⟨u175, hinv⟩ := hinv
  obtain ⟨u176, hinv⟩ := hinv
  obtain ⟨u177, hinv⟩ := hinv
  obtain ⟨u178, hinv⟩ := hinv
  obtain ⟨u179, hinv⟩ := hinv
  obtain ⟨u180, hinv⟩ := hinv
  obtain ⟨u181, hinv⟩ := hinv
  obtain ⟨u182, hinv⟩ := hinv
  obtain ⟨u183, hinv⟩ := hinv
  obtain ⟨u184, hinv⟩ := hinv
  obtain ⟨u185, hinv⟩ := hinv
  obtain ⟨u186, hinv⟩ := hinv
  obtain ⟨u187, hinv⟩ := hinv
  obtain ⟨u188, hinv⟩ := hinv
  obtain ⟨u189, hinv⟩ := hinv
  obtain ⟨u190, hinv⟩ := hinv
  obtain ⟨u191, hinv⟩ := hinv
  obtain ⟨u192, hinv⟩ := hinv
  obtain ⟨u193, hinv⟩ := hinv
  obtain ⟨u194, hinv⟩ := hinv
  obtain ⟨u195, hinv⟩ := hinv
  obtain ⟨u196, hinv⟩ := hinv
  obtain ⟨u197, hinv⟩ := hinv
  obtain ⟨u198, hinv⟩ := hinv
  obtain ⟨u199, hinv⟩ := hinv
  obtain ⟨u200, hinv⟩ := hinv
  obtain ⟨u201, hinv⟩ := hinv
  obtain ⟨u202, hinv⟩ := hinv
  obtain ⟨u203, hinv⟩ := hinv
  obtain ⟨u204, hinv⟩ := hinv
  obtain ⟨u205, hinv⟩ := hinv
  obtain ⟨u206, hinv⟩ := hinv
  obtain ⟨u207, hinv⟩ := hinv
  obtain ⟨u208, hinv⟩ := hinv
  obtain ⟨u209, hinv⟩ := hinv
  obtain ⟨u210, hinv⟩ := hinv
  obtain ⟨u211, hinv⟩ := hinv
  obtain ⟨u212, hinv⟩ := hinv
  obtain ⟨u213, hinv⟩ := hinv
  obtain ⟨u214, hinv⟩ := hinv
  obtain ⟨u215, hinv⟩ := hinv
  obtain ⟨u216, hinv⟩ := hinv
  obtain ⟨u217, hinv⟩ := hinv
  obtain ⟨u218, hinv⟩ := hinv
  obtain ⟨u219, hinv⟩ := hinv
  obtain ⟨u220, hinv⟩ := hinv
  obtain ⟨u221, hinv⟩ := hinv
  obtain ⟨u222, hinv⟩ := hinv
  obtain ⟨u223, hinv⟩ := hinv
  obtain ⟨u224, hinv⟩ := hinv
  obtain ⟨u225, hinv⟩ := hinv
  obtain ⟨u226, hinv⟩ := hinv
  obtain ⟨u227, hinv⟩ := hinv
  obtain ⟨u228, hinv⟩ := hinv
  obtain ⟨⟨hr, a0, a1, hp, hpn⟩, hfr0⟩ := hinv
  subst hfr0
  rw [← hl] at hpn
  rw [← hl]
  have HL := Lib.hid hl; have HSZ := Lib.hid hsz
  clear hl hsz
  have HR0 := Lib.hid hr; have HPN := Lib.hid hpn
  have hlow := hr.low
  have HFN : Hid (∀ (k : Nat) (W : World), k ≤ s.size → Calls Tryz.prog 21 #[.string s, .int .i64 k, .int .u8 32, .int .u8 32] W fun e w' => e = .returned (.int .i64 (findI spB l k)) ∧ W = w') := Lib.hid fun k W hk => by
    have h := find_c s k 32 32 W (by omega) (by omega)
    rw [twoB_sp, ← HL.out] at h
    exact h
  clear hr hpn
  obtain ⟨j0, hi, hz0, hz1, hz2⟩ := info_parts strInfo
  go_wp2_with fail
  go_loopg [10, 15] 4 (fun g s10 s15 wr => ∃ (j k : Nat) (ws : List (List UInt8)) (v : Value), s15 = v ∧ s10 = .int .i64 k ∧ k ≤ s.size ∧ Hid (ws.length = j) ∧ j ≤ 4 ∧ Hid (g = 4 - j) ∧ (∀ x ∈ ws, x.length ≤ 4194304) ∧ Hid (rwordsN (4 - j) (l.drop k) ws = rwordsN 4 (l.drop p) []) ∧ R5 w E wr (EVC ((n % 8 : Nat) : Int) ((n / 8 : Nat) : Int) t a [] [] [] [] (.slice none 0 0) []) ∧ wr.ownsRow (E + 1) 9 1 v j (wordCells ws))
  case atStart => exact ⟨0, p, [], .slice none 0 0, rfl, rfl, hp, rfl, by omega, rfl, by simp, rfl, HR0.out, World.ownsRow_nil _ _ _ _⟩
  case round =>
    obtain ⟨j, k, ws, v, rfl, rfl, hk, hwl, hj, HG, hws, HRW, hr, hown⟩ := hrel
    have HR := Lib.hid hr
    obtain ⟨sa, sc, hsv, hsb, hcell⟩ := own_shape hown
    subst hsv
    have HO := Lib.hid hown; have HCELL := Lib.hid hcell
    have hEw : E < wr.heap.size := hr.ev.lt
    obtain ⟨wo, rfl⟩ : ∃ x : World, x = wr := ⟨_, rfl⟩
    clear hr hown hcell hsb HR0
    by_cases hjl : j < 4
    · have hdj : decide (j < 4) = true := decide_eq_true hjl
      cases ha : pAny spB (l.drop k) with
      | false =>
        have HNO : Hid (parseN calD l = none) := by
          show parseN calD l = none
          rw [HPN.out, ← HRW.out, show 4 - j = (4 - (j + 1)) + 1 by omega, rwordsN, ha]; rfl
        have HFY : Hid (∀ W : World, Calls Tryz.prog 21 #[.string s, .int .i64 k, .int .u8 32, .int .u8 32] W fun e w' => e = .returned (.int .i64 (-1)) ∧ W = w') := Lib.hid fun W => by
          have h := HFN.out k W hk
          rw [findI_no ha] at h
          exact h
        have hd1 : decide ((-1 : Int) ≤ (k : Int)) = true := decide_eq_true (by omega)
        clear ha
        have r0 : wo.cell? ⟨w.heap.size, 0, none⟩ = some (.int .i64 0) := HR.out.res.cell 0
        have rf0 := HR.out.res.frozen 0
        have r1 : wo.cell? ⟨w.heap.size, 1, none⟩ = some (.int .i64 0) := HR.out.res.cell 1
        have rf1 := HR.out.res.frozen 1
        have r2 : wo.cell? ⟨w.heap.size, 2, none⟩ = some (.bool false) := HR.out.res.cell 2
        have rf2 := HR.out.res.frozen 2
        have r3 : wo.cell? ⟨w.heap.size, 3, none⟩ = some (.int .i64 0) := HR.out.res.cell 3
        have rf3 := HR.out.res.frozen 3
        have r4 : wo.cell? ⟨w.heap.size, 4, none⟩ = some (.string ⟨#[]⟩) := HR.out.res.cell 4
        have rf4 := HR.out.res.frozen 4
        have r5 : wo.cell? ⟨w.heap.size, 5, none⟩ = some (.string ⟨#[]⟩) := HR.out.res.cell 5
        have rf5 := HR.out.res.frozen 5
        have r6 : wo.cell? ⟨w.heap.size, 6, none⟩ = some (.string ⟨#[]⟩) := HR.out.res.cell 6
        have rf6 := HR.out.res.frozen 6
        have r7 : wo.cell? ⟨w.heap.size, 7, none⟩ = some (.string ⟨#[]⟩) := HR.out.res.cell 7
        have rf7 := HR.out.res.frozen 7
        have r8 : wo.cell? ⟨w.heap.size, 8, none⟩ = some (.slice none 0 0) := HR.out.res.cell 8
        have rf8 := HR.out.res.frozen 8
        have r9 : wo.cell? ⟨w.heap.size, 9, none⟩ = some (.string ⟨#[]⟩) := HR.out.res.cell 9
        have rf9 := HR.out.res.frozen 9
        go_wp2_with (go_at_call 21; refine (HFY.out _).mono ?_; rintro e w2 ⟨rfl, rfl⟩)
        have hR2 := (((((((((((HR.out.res).put 0 (.int .i64 0)).put 1 (.int .i64 0)).put 2 (.bool false)).put 3 (.int .i64 0)).put 4 (.string ⟨#[]⟩)).put 5 (.string ⟨#[]⟩)).put 6 (.string ⟨#[]⟩)).put 7 (.string ⟨#[]⟩)).put 8 (.slice none 0 0)).put 9 (.string ⟨#[]⟩))
        have hR3 := (show Row _ w.heap.size 25 EVZ from by simpa [EVZ] using hR2)
        clear hR2
        refine bodyPost_ret (results_cell_row_tmp rfl _ _ w.heap.size _ EVZ (0, 0) _ rfl hR3 Tryz.underlying25 rfl evSize) rfl (POST.no HNO.out rfl ?_)
        exact (((((((((((HR.out.below).setCell (by simp) _).setCell (by simp) _).setCell (by simp) _).setCell (by simp) _).setCell (by simp) _).setCell (by simp) _).setCell (by simp) _).setCell (by simp) _).setCell (by simp) _).setCell (by simp) _)
      | true =>
        obtain ⟨i0, hi0⟩ : ∃ i0, i0 = k + (pTo spB (l.drop k)).length := ⟨_, rfl⟩
        have hi1 : i0 < s.size := by
          have := to_lt ha
          rw [List.length_drop, HSZ.out] at this
          omega
        have hki : k ≤ i0 := by omega
        have HFY : Hid (∀ W : World, Calls Tryz.prog 21 #[.string s, .int .i64 k, .int .u8 32, .int .u8 32] W fun e w' => e = .returned (.int .i64 i0) ∧ W = w') := Lib.hid fun W => by
          have h := HFN.out k W hk
          rw [findI_yes ha, ← hi0] at h
          exact h
        by_cases hem : i0 = k
        · have HNO : Hid (parseN calD l = none) := by
            show parseN calD l = none
            have he : (pTo spB (l.drop k)).isEmpty = true := by
              rw [List.isEmpty_iff]
              exact List.eq_nil_of_length_eq_zero (by omega)
            rw [HPN.out, ← HRW.out, show 4 - j = (4 - (j + 1)) + 1 by omega, rwordsN, ha, he]; rfl
          have hd1 : decide ((i0 : Int) ≤ (k : Int)) = true := decide_eq_true (by omega)
          have hd2 : decide (i0 ≤ k) = true := decide_eq_true (by omega)
          clear ha hi0 hem
          have r0 : wo.cell? ⟨w.heap.size, 0, none⟩ = some (.int .i64 0) := HR.out.res.cell 0
          have rf0 := HR.out.res.frozen 0
          have r1 : wo.cell? ⟨w.heap.size, 1, none⟩ = some (.int .i64 0) := HR.out.res.cell 1
          have rf1 := HR.out.res.frozen 1
          have r2 : wo.cell? ⟨w.heap.size, 2, none⟩ = some (.bool false) := HR.out.res.cell 2
          have rf2 := HR.out.res.frozen 2
          have r3 : wo.cell? ⟨w.heap.size, 3, none⟩ = some (.int .i64 0) := HR.out.res.cell 3
          have rf3 := HR.out.res.frozen 3
          have r4 : wo.cell? ⟨w.heap.size, 4, none⟩ = some (.string ⟨#[]⟩) := HR.out.res.cell 4
          have rf4 := HR.out.res.frozen 4
          have r5 : wo.cell? ⟨w.heap.size, 5, none⟩ = some (.string ⟨#[]⟩) := HR.out.res.cell 5
          have rf5 := HR.out.res.frozen 5
          have r6 : wo.cell? ⟨w.heap.size, 6, none⟩ = some (.string ⟨#[]⟩) := HR.out.res.cell 6
          have rf6 := HR.out.res.frozen 6
          have r7 : wo.cell? ⟨w.heap.size, 7, none⟩ = some (.string ⟨#[]⟩) := HR.out.res.cell 7
          have rf7 := HR.out.res.frozen 7
          have r8 : wo.cell? ⟨w.heap.size, 8, none⟩ = some (.slice none 0 0) := HR.out.res.cell 8
          have rf8 := HR.out.res.frozen 8
          have r9 : wo.cell? ⟨w.heap.size, 9, none⟩ = some (.string ⟨#[]⟩) := HR.out.res.cell 9
          have rf9 := HR.out.res.frozen 9
          go_wp2_with (go_at_call 21; refine (HFY.out _).mono ?_; rintro e w2 ⟨rfl, rfl⟩)
          have hR2 := (((((((((((HR.out.res).put 0 (.int .i64 0)).put 1 (.int .i64 0)).put 2 (.bool false)).put 3 (.int .i64 0)).put 4 (.string ⟨#[]⟩)).put 5 (.string ⟨#[]⟩)).put 6 (.string ⟨#[]⟩)).put 7 (.string ⟨#[]⟩)).put 8 (.slice none 0 0)).put 9 (.string ⟨#[]⟩))
          have hR3 := (show Row _ w.heap.size 25 EVZ from by simpa [EVZ] using hR2)
          clear hR2
          refine bodyPost_ret (results_cell_row_tmp rfl _ _ w.heap.size _ EVZ (0, 0) _ rfl hR3 Tryz.underlying25 rfl evSize) rfl (POST.no HNO.out rfl ?_)
          exact (((((((((((HR.out.below).setCell (by simp) _).setCell (by simp) _).setCell (by simp) _).setCell (by simp) _).setCell (by simp) _).setCell (by simp) _).setCell (by simp) _).setCell (by simp) _).setCell (by simp) _).setCell (by simp) _)
        · have HCK : Hid ((pAny spB (l.drop k) && !(pTo spB (l.drop k)).isEmpty) = true) := by
            show _ = true
            rw [ha, Bool.true_and]
            cases hpt : pTo spB (l.drop k) with
            | nil => rw [hpt] at hi0; simp at hi0; exact absurd hi0 hem
            | cons _ _ => rfl
          have HFD : Hid ((pFrom spB (l.drop k)).drop 1 = l.drop (i0 + 1)) := by
            show _ = _
            rw [from_drop_drop, ← hi0, List.drop_drop]
          have HSL : Hid ((wordS (l.drop k)).length ≤ 4194304) := by
            show _ ≤ _
            unfold wordS
            split
            · simp
            · have := pTo_len spB (l.drop k)
              rw [List.length_drop, HSZ.out] at this
              omega
          obtain ⟨wb, hwb⟩ : ∃ wb : ByteArray, wb = ⟨(pTo spB (l.drop k)).toArray⟩ := ⟨_, rfl⟩
          have hwbl : wb.toList = pTo spB (l.drop k) := by rw [ByteArray.toList_eq, hwb]
          have hsl : ∀ W : World, (Instr.slice 9 (.string s) (some (.int .i64 k)) (some (.int .i64 i0)) none).run Tryz.prog W = .ok (.string wb) W := fun W => by
            have h := slice_at s k i0 k i0 rfl rfl hki (by omega) W
            rw [hi0, piece_at s l HL.out, ← to_take, ← hwb, ← hi0] at h
            exact h
          have hd1 : decide ((i0 : Int) ≤ (k : Int)) = false := decide_eq_false (by omega)
          have hd2 : decide (i0 ≤ k) = false := decide_eq_false (by omega)
          cases h45 : (wb.toList == [45]) with
          | true =>
            have HWV : Hid ((⟨#[]⟩ : ByteArray) = ⟨(wordS (l.drop k)).toArray⟩) := by
              show _ = _
              have : pTo spB (l.drop k) = [45] := by rw [← hwbl]; simpa using h45
              rw [wordS, if_pos this]
            clear ha hi0 hem hwb hwbl
            go_wp2_with (first
              | (go_at_call 21; refine (HFY.out _).mono ?_; rintro e w2 ⟨rfl, rfl⟩)
              | (at_builtin; go_must (refine wpList_append_one wo rfl (.tmp 143) (.tmp 145) 68 rfl (E + 1) 9 j0 (.string ⟨#[]⟩) 1 16 Tryz.underlying68 hi hz0 hz1 hz2 rfl (by decide) (.slice sa j sc) j (wordCells ws) [.string ⟨#[]⟩] wo.heap.size rfl rfl rfl HO.out rfl (by simp [Value.oneCell']) (by unfold maxLen; omega) (by omega) (by omega) ?_); intro v' w6 hown6 hturn6 hloc6; have HO6 := Lib.hid hown6; have HT6 := Lib.hid hturn6; clear hown6 hturn6 hloc6))
            go_roundg (4 - (j + 1))
            case measure => rw [HG.out]; omega
            case rel =>
              have hq : ∀ g, (Value.slice sa j sc).ownBlock = some g → E < g := fun g hg => by have := own_ge HO.out hg; omega
              refine ⟨j + 1, i0 + 1, ws ++ [wordS (l.drop k)], v', rfl, by go_num, by omega, by show _ = _; rw [List.length_append, List.length_singleton, hwl.out], by omega, rfl, ?_, ?_, HR.out.turn HT6.out hq, ?_⟩
              · intro x hx
                rw [List.mem_append, List.mem_singleton] at hx
                rcases hx with hx | rfl
                · exact hws x hx
                · exact HSL.out
              · show _ = _
                rw [← HRW.out, show 4 - j = (4 - (j + 1)) + 1 by omega, rwordsN, if_pos HCK.out, HFD.out]
              · have h := HO6.out
                rw [HWV.out] at h
                simpa [wordCells, txt] using h
          | false =>
            have HWV : Hid (wb = ⟨(wordS (l.drop k)).toArray⟩) := by
              show _ = _
              have : pTo spB (l.drop k) ≠ [45] := by rw [← hwbl]; simpa using h45
              rw [wordS, if_neg this]; exact hwb
            clear ha hi0 hem hwb hwbl
            go_wp2_with (first
              | (go_at_call 21; refine (HFY.out _).mono ?_; rintro e w2 ⟨rfl, rfl⟩)
              | (at_builtin; go_must (refine wpList_append_one wo rfl (.tmp 143) (.tmp 145) 68 rfl (E + 1) 9 j0 (.string ⟨#[]⟩) 1 16 Tryz.underlying68 hi hz0 hz1 hz2 rfl (by decide) (.slice sa j sc) j (wordCells ws) [.string wb] wo.heap.size rfl rfl rfl HO.out rfl (by simp [Value.oneCell']) (by unfold maxLen; omega) (by omega) (by omega) ?_); intro v' w6 hown6 hturn6 hloc6; have HO6 := Lib.hid hown6; have HT6 := Lib.hid hturn6; clear hown6 hturn6 hloc6))
            go_roundg (4 - (j + 1))
            case measure => rw [HG.out]; omega
            case rel =>
              have hq : ∀ g, (Value.slice sa j sc).ownBlock = some g → E < g := fun g hg => by have := own_ge HO.out hg; omega
              refine ⟨j + 1, i0 + 1, ws ++ [wordS (l.drop k)], v', rfl, by go_num, by omega, by show _ = _; rw [List.length_append, List.length_singleton, hwl.out], by omega, rfl, ?_, ?_, HR.out.turn HT6.out hq, ?_⟩
              · intro x hx
                rw [List.mem_append, List.mem_singleton] at hx
                rcases hx with hx | rfl
                · exact hws x hx
                · exact HSL.out
              · show _ = _
                rw [← HRW.out, show 4 - j = (4 - (j + 1)) + 1 by omega, rwordsN, if_pos HCK.out, HFD.out]
              · have h := HO6.out
                rw [HWV.out] at h
                simpa [wordCells, txt] using h
    · obtain rfl : j = 4 := by omega
      have hdj : decide ((4 : Int) < (4 : Int)) = false := by decide
      have HRF : Hid (rwordsN 4 (l.drop p) [] = some (ws, l.drop k)) := by
        show _ = _
        rw [← HRW.out]; rfl
      obtain ⟨b, rfl, hsp, hoff, hcl⟩ := HCELL.out 0 (by omega)
      obtain ⟨gw, go, sp⟩ := b
      cases hsp
      cases hoff
      have hgw : E + 1 ≤ gw := own_ge HO.out rfl
      have hw4 := hwl.out
      obtain ⟨v0, v1, v2, v3, hv⟩ : ∃ v0 v1 v2 v3, ws = [v0, v1, v2, v3] := by
        match ws, hw4 with
        | [v0, v1, v2, v3], _ => exact ⟨v0, v1, v2, v3, rfl⟩
      have q0 : wo.cell? ⟨gw, 0, none⟩ = some (.string ⟨v0.toArray⟩) := hcl 0 _ (by rw [hv]; rfl)
      have q1 : wo.cell? ⟨gw, 1, none⟩ = some (.string ⟨v1.toArray⟩) := hcl 1 _ (by rw [hv]; rfl)
      have q2 : wo.cell? ⟨gw, 2, none⟩ = some (.string ⟨v2.toArray⟩) := hcl 2 _ (by rw [hv]; rfl)
      have q3 : wo.cell? ⟨gw, 3, none⟩ = some (.string ⟨v3.toArray⟩) := hcl 3 _ (by rw [hv]; rfl)
      have HV := Lib.hid hv
      have e4 : wo.cell? ⟨E, 4, none⟩ = some (.string ⟨#[]⟩) := HR.out.ev.cell 4
      have e5 : wo.cell? ⟨E, 5, none⟩ = some (.string ⟨#[]⟩) := HR.out.ev.cell 5
      have e6 : wo.cell? ⟨E, 6, none⟩ = some (.string ⟨#[]⟩) := HR.out.ev.cell 6
      have e7 : wo.cell? ⟨E, 7, none⟩ = some (.string ⟨#[]⟩) := HR.out.ev.cell 7
      have g4 := HR.out.ev.frozen 4
      have g5 := HR.out.ev.frozen 5
      have g6 := HR.out.ev.frozen 6
      have g7 := HR.out.ev.frozen 7
      have hne : gw ≠ E := by omega
      clear hv hcl hw4 hwl HRW HCELL
      go_upto_region 39 with fail
      go_cut [] (fun wx => R5 w E wx (EVC ((n % 8 : Nat) : Int) ((n / 8 : Nat) : Int) t a v0 v1 v2 v3 (.slice none 0 0) []))
      case first =>
        go_wp2_with fail
        go_meet
        exact ((((HR.out.put 4 (.string ⟨v0.toArray⟩)).put 5 (.string ⟨v1.toArray⟩)).put 6 (.string ⟨v2.toArray⟩)).put 7 (.string ⟨v3.toArray⟩)).cells (by simp [EVC])
      case rest =>
      apply_assumption
      rw [HL.out]
      refine stageD5 s w hs _ _ ?_
      unfold JD5
      refine ⟨E, n, t, a, ws, k, ?_⟩
      repeat apply Exists.intro
      rw [← HL.out]
      exact ⟨⟨by rw [HV.out]; exact hcut, hws, a0, a1, hk, by rw [HPN.out, HRF.out]; rfl⟩, rfl⟩
end Go.Proofs.YtdkfgobbpadmgaaGreatDoor
