/- Package tabularyref05: Parse, the elements. -/
import Derived.Test.YtdkfgobbpadmgaaGreatDoorRef5StE
set_option linter.unusedVariables false
set_option linter.unusedSimpArgs false
namespace Go.Proofs.YtdkfgobbpadmgaaGreatDoor
open Go.RowKit
theorem elemInfo : (Tryz.prog.info? 58).map (fun i => (i.zero, i.size, i.bytes)) = some (some (.agg #[.string ⟨#[]⟩, .slice none 0 0]), 2, 40) := by kernel_rfl
set_option maxRecDepth 1000000 in
@[irreducible] def JD5 (s : ByteArray) (w : World) (a' : Act) (w' : World) : Prop :=
  ∃ (E n : Nat) (t : Bool) (a : Int) (ws : List (List UInt8)) (p : Nat), ∃ u1 u3 u4 u5 u6 u7 u8 u11 u12 u13 u14 u15 u16 u17 u18 u19 u20 u21 u22 u23 u24 u25 u26 u27 u28 u29 u30 u31 u32 u33 u34 u35 u36 u37 u38 u39 u40 u41 u42 u43 u44 u45 u46 u47 u48 u49 u50 u51 u52 u53 u54 u55 u56 u57 u58 u59 u60 u61 u62 u63 u64 u65 u66 u67 u68 u69 u70 u71 u72 u73 u74 u75 u76 u77 u78 u79 u80 u81 u82 u83 u84 u85 u86 u87 u88 u89 u90 u91 u92 u93 u94 u95 u96 u97 u98 u99 u100 u101 u102 u103 u104 u105 u106 u107 u108 u109 u110 u111 u112 u113 u114 u115 u116 u117 u118 u119 u120 u121 u122 u123 u124 u125 u126 u127 u128 u129 u130 u131 u132 u133 u134 u135 u136 u137 u138 u139 u140 u141 u142 u143 u144 u145 u146 u147 u148 u149 u150 u151 u152 u153 u154 u155 u156 u157 u158 u159 u160 u161 u162 u163 u164 u165 u166 u167 u168 u169 u170 u171 u172 u173 u174 u175 u176 u177 u178 u179 u180 u181 u182 u183 u184 u185 u186 u187 u188 u189 u190 u191 u192 u193 u194 u195 u196 u197 u198 u199 u200 u201 u202 u203 u204 u205 u206 u207 u208 u209 u210 u211 u212 u213 u214 u215 u216 u217 u218 u219 u220 u221 u222 u223 u224 u225 u226 u227 u228 : Value, (R5 w E w' (EVC ((n % 8 : Nat) : Int) ((n / 8 : Nat) : Int) t a (ws.getD 0 []) (ws.getD 1 []) (ws.getD 2 []) (ws.getD 3 []) (.slice none 0 0) []) ∧ (∀ x ∈ ws, x.length ≤ 4194304) ∧ -9223372036854775808 ≤ a ∧ a ≤ 9223372036854775807 ∧ p ≤ s.size ∧ parseN calD s.data.toList = rmid n t a ws (rdataN (s.data.toList.drop p))) ∧ a' = { tmps := #[.string s, u1, .pointer (some ⟨w.heap.size, 0, none⟩), u3, u4, u5, u6, u7, u8, .pointer (some ⟨E, 0, none⟩), .int .i64 p, u11, u12, u13, u14, u15, u16, u17, u18, u19, u20, u21, u22, u23, u24, u25, u26, u27, u28, u29, u30, u31, u32, u33, u34, u35, u36, u37, u38, u39, u40, u41, u42, u43, u44, u45, u46, u47, u48, u49, u50, u51, u52, u53, u54, u55, u56, u57, u58, u59, u60, u61, u62, u63, u64, u65, u66, u67, u68, u69, u70, u71, u72, u73, u74, u75, u76, u77, u78, u79, u80, u81, u82, u83, u84, u85, u86, u87, u88, u89, u90, u91, u92, u93, u94, u95, u96, u97, u98, u99, u100, u101, u102, u103, u104, u105, u106, u107, u108, u109, u110, u111, u112, u113, u114, u115, u116, u117, u118, u119, u120, u121, u122, u123, u124, u125, u126, u127, u128, u129, u130, u131, u132, u133, u134, u135, u136, u137, u138, u139, u140, u141, u142, u143, u144, u145, u146, u147, u148, u149, u150, u151, u152, u153, u154, u155, u156, u157, u158, u159, u160, u161, u162, u163, u164, u165, u166, u167, u168, u169, u170, u171, u172, u173, u174, u175, u176, u177, u178, u179, u180, u181, u182, u183, u184, u185, u186, u187, u188, u189, u190, u191, u192, u193, u194, u195, u196, u197, u198, u199, u200, u201, u202, u203, u204, u205, u206, u207, u208, u209, u210, u211, u212, u213, u214, u215, u216, u217, u218, u219, u220, u221, u222, u223, u224, u225, u226, u227, u228], defers := [] }
set_option maxHeartbeats 8000000 in
set_option maxRecDepth 100000 in
theorem stageD5 (s : ByteArray) (w : World) (hs : s.size ≤ 4194304) : ∀ a wx, JD5 s w a wx → (restOf 18 (Tryz.f7.body.getD .ret)).wp Tryz.prog (bodyPost Tryz.prog Tryz.f7 (POST calD s.data.toList w)) a wx := by
  obtain ⟨l, hl⟩ : ∃ l, l = s.data.toList := ⟨_, rfl⟩
  have hsz : l.length = s.size := by rw [hl]; rfl
  refine at_rest rfl ?_
  intro a' w1 hinv
  unfold JD5 at hinv
  obtain ⟨E, n, t, a, ws, p, hinv⟩ := hinv
  obtain ⟨u1, hinv⟩ := hinv
  obtain ⟨u3, hinv⟩ := hinv
  obtain ⟨u4, hinv⟩ := hinv
  obtain ⟨u5, hinv⟩ := hinv
  obtain ⟨u6, hinv⟩ := hinv
  obtain ⟨u7, hinv⟩ := hinv
  obtain ⟨u8, hinv⟩ := hinv
  obtain ⟨u11, hinv⟩ := hinv
  obtain ⟨u12, hinv⟩ := hinv
  obtain ⟨u13, hinv⟩ := hinv
  obtain ⟨u14, hinv⟩ := hinv
  obtain ⟨u15, hinv⟩ := hinv
  obtain ⟨u16, hinv⟩ := hinv
  obtain ⟨u17, hinv⟩ := hinv
  obtain ⟨u18, hinv⟩ := hinv
  obtain ⟨u19, hinv⟩ := hinv
  obtain ⟨u20, hinv⟩ := hinv
  obtain ⟨u21, hinv⟩ := hinv
  obtain ⟨u22, hinv⟩ := hinv
  obtain ⟨u23, hinv⟩ := hinv
  obtain ⟨u24, hinv⟩ := hinv
  obtain ⟨u25, hinv⟩ := hinv
  obtain ⟨u26, hinv⟩ := hinv
  obtain ⟨u27, hinv⟩ := hinv
  obtain ⟨u28, hinv⟩ := hinv
  obtain ⟨u29, hinv⟩ := hinv
  obtain ⟨u30, hinv⟩ := hinv
  obtain ⟨u31, hinv⟩ := hinv
  obtain ⟨u32, hinv⟩ := hinv
  obtain ⟨u33, hinv⟩ := hinv
  obtain ⟨u34, hinv⟩ := hinv
  obtain ⟨u35, hinv⟩ := hinv
  obtain ⟨u36, hinv⟩ := hinv
  obtain ⟨u37, hinv⟩ := hinv
  obtain ⟨u38, hinv⟩ := hinv
  obtain ⟨u39, hinv⟩ := hinv
  obtain ⟨u40, hinv⟩ := hinv
  obtain ⟨u41, hinv⟩ := hinv
  obtain ⟨u42, hinv⟩ := hinv
  obtain ⟨u43, hinv⟩ := hinv
  obtain ⟨u44, hinv⟩ := hinv
  obtain ⟨u45, hinv⟩ := hinv
  obtain ⟨u46, hinv⟩ := hinv
  obtain ⟨u47, hinv⟩ := hinv
  obtain ⟨u48, hinv⟩ := hinv
  obtain ⟨u49, hinv⟩ := hinv
  obtain ⟨u50, hinv⟩ := hinv
  obtain ⟨u51, hinv⟩ := hinv
  obtain ⟨u52, hinv⟩ := hinv
  obtain ⟨u53, hinv⟩ := hinv
  obtain ⟨u54, hinv⟩ := hinv
  obtain ⟨u55, hinv⟩ := hinv
  obtain ⟨u56, hinv⟩ := hinv
  obtain ⟨u57, hinv⟩ := hinv
  obtain ⟨u58, hinv⟩ := hinv
  obtain ⟨u59, hinv⟩ := hinv
  obtain ⟨u60, hinv⟩ := hinv
  obtain ⟨u61, hinv⟩ := hinv
  obtain ⟨u62, hinv⟩ := hinv
  obtain ⟨u63, hinv⟩ := hinv
  obtain ⟨u64, hinv⟩ := hinv
  obtain ⟨u65, hinv⟩ := hinv
  obtain ⟨u66, hinv⟩ := hinv
  obtain ⟨u67, hinv⟩ := hinv
  obtain ⟨u68, hinv⟩ := hinv
  obtain ⟨u69, hinv⟩ := hinv
  obtain ⟨u70, hinv⟩ := hinv
  obtain ⟨u71, hinv⟩ := hinv
  obtain ⟨u72, hinv⟩ := hinv
  obtain ⟨u73, hinv⟩ := hinv
  obtain ⟨u74, hinv⟩ := hinv
  obtain ⟨u75, hinv⟩ := hinv
  obtain ⟨u76, hinv⟩ := hinv
  obtain ⟨u77, hinv⟩ := hinv
  obtain ⟨u78, hinv⟩ := hinv
  obtain ⟨u79, hinv⟩ := hinv
  obtain ⟨u80, hinv⟩ := hinv
  obtain ⟨u81, hinv⟩ := hinv
  obtain ⟨u82, hinv⟩ := hinv
  obtain ⟨u83, hinv⟩ := hinv
  obtain ⟨u84, hinv⟩ := hinv
  obtain ⟨u85, hinv⟩ := hinv
  obtain ⟨u86, hinv⟩ := hinv
  obtain ⟨u87, hinv⟩ := hinv
  obtain ⟨u88, hinv⟩ := hinv
  obtain ⟨u89, hinv⟩ := hinv
  obtain ⟨u90, hinv⟩ := hinv
  obtain ⟨u91, hinv⟩ := hinv
  obtain ⟨u92, hinv⟩ := hinv
  obtain ⟨u93, hinv⟩ := hinv
  obtain ⟨u94, hinv⟩ := hinv
  obtain ⟨u95, hinv⟩ := hinv
  obtain ⟨u96, hinv⟩ := hinv
  obtain ⟨u97, hinv⟩ := hinv
  obtain ⟨u98, hinv⟩ := hinv
  obtain ⟨u99, hinv⟩ := hinv
  obtain ⟨u100, hinv⟩ := hinv
  obtain ⟨u101, hinv⟩ := hinv
  obtain ⟨u102, hinv⟩ := hinv
  obtain ⟨u103, hinv⟩ := hinv
  obtain ⟨u104, hinv⟩ := hinv
  obtain ⟨u105, hinv⟩ := hinv
  obtain ⟨u106, hinv⟩ := hinv
  obtain ⟨u107, hinv⟩ := hinv
  obtain ⟨u108, hinv⟩ := hinv
  obtain ⟨u109, hinv⟩ := hinv
  obtain ⟨u110, hinv⟩ := hinv
  obtain ⟨u111, hinv⟩ := hinv
  obtain ⟨u112, hinv⟩ := hinv
  obtain ⟨u113, hinv⟩ := hinv
  obtain ⟨u114, hinv⟩ := hinv
  obtain ⟨u115, hinv⟩ := hinv
  obtain ⟨u116, hinv⟩ := hinv
  obtain ⟨u117, hinv⟩ := hinv
  obtain ⟨u118, hinv⟩ := hinv
  obtain ⟨u119, hinv⟩ := hinv
  obtain ⟨u120, hinv⟩ := hinv
  obtain ⟨u121, hinv⟩ := hinv
  obtain ⟨u122, hinv⟩ := hinv
  obtain ⟨u123, hinv⟩ := hinv
  obtain ⟨u124, hinv⟩ := hinv
  obtain ⟨u125, hinv⟩ := hinv
  obtain ⟨u126, hinv⟩ := hinv
  obtain ⟨u127, hinv⟩ := hinv
  obtain ⟨u128, hinv⟩ := hinv
  obtain ⟨u129, hinv⟩ := hinv
  obtain ⟨u130, hinv⟩ := hinv
  obtain ⟨u131, hinv⟩ := hinv
  obtain ⟨u132, hinv⟩ := hinv
  obtain ⟨u133, hinv⟩ := hinv
  obtain ⟨u134, hinv⟩ := hinv
  obtain ⟨u135, hinv⟩ := hinv
  obtain ⟨u136, hinv⟩ := hinv
  obtain ⟨u137, hinv⟩ := hinv
  obtain ⟨u138, hinv⟩ := hinv
  obtain ⟨u139, hinv⟩ := hinv
  obtain ⟨u140, hinv⟩ := hinv
  obtain ⟨u141, hinv⟩ := hinv
  obtain ⟨u142, hinv⟩ := hinv
  obtain ⟨u143, hinv⟩ := hinv
  obtain ⟨u144, hinv⟩ := hinv
  obtain ⟨u145, hinv⟩ := hinv
  obtain ⟨u146, hinv⟩ := hinv
  obtain ⟨u147, hinv⟩ := hinv
  obtain ⟨u148, hinv⟩ := hinv
  obtain ⟨u149, hinv⟩ := hinv
  obtain ⟨u150, hinv⟩ := hinv
  obtain ⟨u151, hinv⟩ := hinv
  obtain ⟨u152, hinv⟩ := hinv
  obtain ⟨u153, hinv⟩ := hinv
  obtain ⟨u154, hinv⟩ := hinv
  obtain ⟨u155, hinv⟩ := hinv
  obtain ⟨u156, hinv⟩ := hinv
  obtain ⟨u157, hinv⟩ := hinv
  obtain ⟨u158, hinv⟩ := hinv
  obtain ⟨u159, hinv⟩ := hinv
  obtain ⟨u160, hinv⟩ := hinv
  obtain ⟨u161, hinv⟩ := hinv
  obtain ⟨u162, hinv⟩ := hinv
  obtain ⟨u163, hinv⟩ := hinv
  obtain ⟨u164, hinv⟩ := hinv
  obtain ⟨u165, hinv⟩ := hinv
  obtain ⟨u166, hinv⟩ := hinv
  obtain ⟨u167, hinv⟩ := hinv
  obtain ⟨u168, hinv⟩ := hinv
  obtain ⟨u169, hinv⟩ := hinv
  obtain ⟨u170, hinv⟩ := hinv
  obtain ⟨u171, hinv⟩ := hinv
  obtain ⟨u172, hinv⟩ := hinv
  obtain ⟨u173, hinv⟩ := hinv
  obtain ⟨u174, hinv⟩ := hinv
  obtain ⟨u175, hinv⟩ := hinv
  obtain ⟨u176, hinv⟩ := hinv
  obtain ⟨u177, hinv⟩ := hinv
  obtain ⟨u178, hinv⟩ := hinv
  obtain ⟨u179, hinv⟩ := hinv
  obtain ⟨u180, hinv⟩ := hinv
  obtain ⟨u181, hinv⟩ := hinv
  obtain ⟨u182, hinv⟩ := hinv
  obtain ⟨u183, hinv⟩ := hinv
  obtain ⟨u184, hinv⟩ := hinv
  obtain ⟨u185, hinv⟩ := hinv
  obtain ⟨u186, hinv⟩ := hinv
  obtain ⟨u187, hinv⟩ := hinv
  obtain ⟨u188, hinv⟩ := hinv
  obtain ⟨u189, hinv⟩ := hinv
  obtain ⟨u190, hinv⟩ := hinv
  obtain ⟨u191, hinv⟩ := hinv
  obtain ⟨u192, hinv⟩ := hinv
  obtain ⟨u193, hinv⟩ := hinv
  obtain ⟨u194, hinv⟩ := hinv
  obtain ⟨u195, hinv⟩ := hinv
  obtain ⟨u196, hinv⟩ := hinv
  obtain ⟨u197, hinv⟩ := hinv
  obtain ⟨u198, hinv⟩ := hinv
  obtain ⟨u199, hinv⟩ := hinv
  obtain ⟨u200, hinv⟩ := hinv
  obtain ⟨u201, hinv⟩ := hinv
  obtain ⟨u202, hinv⟩ := hinv
  obtain ⟨u203, hinv⟩ := hinv
  obtain ⟨u204, hinv⟩ := hinv
  obtain ⟨u205, hinv⟩ := hinv
  obtain ⟨u206, hinv⟩ := hinv
  obtain ⟨u207, hinv⟩ := hinv
  obtain ⟨u208, hinv⟩ := hinv
  obtain ⟨u209, hinv⟩ := hinv
  obtain ⟨u210, hinv⟩ := hinv
  obtain ⟨u211, hinv⟩ := hinv
  obtain ⟨u212, hinv⟩ := hinv
  obtain ⟨u213, hinv⟩ := hinv
  obtain ⟨u214, hinv⟩ := hinv
  obtain ⟨u215, hinv⟩ := hinv
  obtain ⟨u216, hinv⟩ := hinv
  obtain ⟨u217, hinv⟩ := hinv
  obtain ⟨u218, hinv⟩ := hinv
  obtain ⟨u219, hinv⟩ := hinv
  obtain ⟨u220, hinv⟩ := hinv
  obtain ⟨u221, hinv⟩ := hinv
  obtain ⟨u222, hinv⟩ := hinv
  obtain ⟨u223, hinv⟩ := hinv
  obtain ⟨u224, hinv⟩ := hinv
  obtain ⟨u225, hinv⟩ := hinv
  obtain ⟨u226, hinv⟩ := hinv
  obtain ⟨u227, hinv⟩ := hinv
  obtain ⟨u228, hinv⟩ := hinv
  obtain ⟨⟨hr, hws, a0, a1, hp, hpn⟩, hfr0⟩ := hinv
  subst hfr0
  rw [← hl] at hpn
  rw [← hl]
  have HL := Lib.hid hl; have HSZ := Lib.hid hsz
  clear hl hsz
  have HR := Lib.hid hr; have HPN := Lib.hid hpn
  have HBG : Hid (∀ (k : Nat) (W : World) (c : UInt8), k ≤ s.size → Calls Tryz.prog 22 #[.string s, .int .i64 k, .string ⟨#[c]⟩] W fun e w' => e = .returned (.bool (Lib.hasPrefix (l.drop k) [c])) ∧ W = w') := Lib.hid fun k W c hk => by
    have h := begins_c s k ⟨#[c]⟩ W (by omega) (by omega) (by show 1 ≤ 1 ∧ 1 ≤ 1152921504606846976; omega)
    rw [← HL.out] at h
    exact h
  have hlow := hr.low
  clear hr hpn
  obtain ⟨mb, hmb⟩ : ∃ b, b = Lib.hasPrefix (l.drop p) [45] := ⟨_, rfl⟩
  obtain ⟨ob, hob⟩ : ∃ b, b = Lib.hasPrefix (l.drop p) open8 := ⟨_, rfl⟩
  have HB1 : Hid (∀ W : World, Calls Tryz.prog 22 #[.string s, .int .i64 p, .string ⟨#[45]⟩] W fun e w' => e = .returned (.bool mb) ∧ W = w') := Lib.hid fun W => by rw [hmb]; exact HBG.out p W 45 hp
  have HB2 : Hid (∀ W : World, Calls Tryz.prog 22 #[.string s, .int .i64 p, .string ⟨#[91]⟩] W fun e w' => e = .returned (.bool ob) ∧ W = w') := Lib.hid fun W => by rw [hob]; exact HBG.out p W 91 hp
  have HMB := Lib.hid hmb; have HOB := Lib.hid hob
  clear hmb hob
  go_upto_if 168 with (go_at_call 22; refine (HB1.out _).mono ?_; rintro e w2 ⟨rfl, rfl⟩)
  go_cut [10] (fun s10 wx => ∃ (k : Nat) (dv : Value) (es : List VEl), s10 = .int .i64 k ∧ k ≤ s.size ∧ Hid (rdataN (l.drop p) = some (es.map (fun y => (y.1, y.2.2)), l.drop k)) ∧ R5 w E wx (EVC ((n % 8 : Nat) : Int) ((n / 8 : Nat) : Int) t a (ws.getD 0 []) (ws.getD 1 []) (ws.getD 2 []) (ws.getD 3 []) dv []) ∧ OwnEls wx (E + 1) dv es ∧ SmallEls es)
  case first =>
    cases mb with
    | true =>
      have hp1 : p + 1 ≤ s.size := by
        have := has3 HMB.out.symm
        rw [List.length_drop, HSZ.out] at this
        simp at this
        omega
      have HD : Hid (rdataN (l.drop p) = some ([], l.drop (p + 1))) := by
        show _ = _
        rw [rdataN, if_pos HMB.out.symm, List.drop_drop]
      go_wp2_with fail
      go_meet
      exact ⟨p + 1, .slice none 0 0, [], by go_num, hp1, HD, HR.out, OwnEls.nil _ _, SmallEls.nil⟩
    | false =>
      have HD0 : Hid (rdataN (l.drop p) = if ob then relsN ((l.drop p).length + 1) (l.drop p) [] else none) := by
        show _ = _
        rw [rdataN, if_neg (by rw [← HMB.out]; simp), ← HOB.out]
      cases ob with
      | false =>
        have HNO : Hid (parseN calD l = none) := by
          show parseN calD l = none
          rw [HPN.out, HD0.out]; rfl
        have r0 : w1.cell? ⟨w.heap.size, 0, none⟩ = some (.int .i64 0) := HR.out.res.cell 0
        have rf0 := HR.out.res.frozen 0
        have r1 : w1.cell? ⟨w.heap.size, 1, none⟩ = some (.int .i64 0) := HR.out.res.cell 1
        have rf1 := HR.out.res.frozen 1
        have r2 : w1.cell? ⟨w.heap.size, 2, none⟩ = some (.bool false) := HR.out.res.cell 2
        have rf2 := HR.out.res.frozen 2
        have r3 : w1.cell? ⟨w.heap.size, 3, none⟩ = some (.int .i64 0) := HR.out.res.cell 3
        have rf3 := HR.out.res.frozen 3
        have r4 : w1.cell? ⟨w.heap.size, 4, none⟩ = some (.string ⟨#[]⟩) := HR.out.res.cell 4
        have rf4 := HR.out.res.frozen 4
        have r5 : w1.cell? ⟨w.heap.size, 5, none⟩ = some (.string ⟨#[]⟩) := HR.out.res.cell 5
        have rf5 := HR.out.res.frozen 5
        have r6 : w1.cell? ⟨w.heap.size, 6, none⟩ = some (.string ⟨#[]⟩) := HR.out.res.cell 6
        have rf6 := HR.out.res.frozen 6
        have r7 : w1.cell? ⟨w.heap.size, 7, none⟩ = some (.string ⟨#[]⟩) := HR.out.res.cell 7
        have rf7 := HR.out.res.frozen 7
        have r8 : w1.cell? ⟨w.heap.size, 8, none⟩ = some (.slice none 0 0) := HR.out.res.cell 8
        have rf8 := HR.out.res.frozen 8
        have r9 : w1.cell? ⟨w.heap.size, 9, none⟩ = some (.string ⟨#[]⟩) := HR.out.res.cell 9
        have rf9 := HR.out.res.frozen 9
        go_wp2_with (go_at_call 22; refine (HB2.out _).mono ?_; rintro e w2 ⟨rfl, rfl⟩)
        have hR2 := (((((((((((HR.out.res).put 0 (.int .i64 0)).put 1 (.int .i64 0)).put 2 (.bool false)).put 3 (.int .i64 0)).put 4 (.string ⟨#[]⟩)).put 5 (.string ⟨#[]⟩)).put 6 (.string ⟨#[]⟩)).put 7 (.string ⟨#[]⟩)).put 8 (.slice none 0 0)).put 9 (.string ⟨#[]⟩))
        have hR3 := (show Row _ w.heap.size 25 EVZ from by simpa [EVZ] using hR2)
        clear hR2
        refine bodyPost_ret (results_cell_row_tmp rfl _ _ w.heap.size _ EVZ (0, 0) _ rfl hR3 Tryz.underlying25 rfl evSize) rfl (POST.no HNO.out rfl ?_)
        exact (((((((((((HR.out.below).setCell (by simp) _).setCell (by simp) _).setCell (by simp) _).setCell (by simp) _).setCell (by simp) _).setCell (by simp) _).setCell (by simp) _).setCell (by simp) _).setCell (by simp) _).setCell (by simp) _)
      | true =>
        obtain ⟨i0, hi, hz0, hz1, hz2⟩ := info_parts elemInfo
        have HD1 : Hid (rdataN (l.drop p) = relsN ((l.drop p).length + 1) (l.drop p) []) := by
          show _ = _
          rw [HD0.out]; rfl
        clear HD0
        go_wp2_with (go_at_call 22; refine (HB2.out _).mono ?_; rintro e w2 ⟨rfl, rfl⟩)
        go_loopg [10, 19] (s.size + 1 - p) (fun g s10 s19 wr => ∃ (m k : Nat) (b : Bool) (dv : Value) (es : List VEl), s19 = .bool b ∧ s10 = .int .i64 k ∧ k ≤ s.size ∧ Hid (g = s.size + 1 - k) ∧ Hid (b = Lib.hasPrefix (l.drop k) open8 ∧ (l.drop k).length < m ∧ (if b = true then relsN m (l.drop k) (es.map fun y => (y.1, y.2.2)) else some (es.map (fun y => (y.1, y.2.2)), l.drop k)) = relsN ((l.drop p).length + 1) (l.drop p) []) ∧ es.length ≤ k ∧ R5 w E wr (EVC ((n % 8 : Nat) : Int) ((n / 8 : Nat) : Int) t a (ws.getD 0 []) (ws.getD 1 []) (ws.getD 2 []) (ws.getD 3 []) dv []) ∧ OwnEls wr (E + 1) dv es ∧ SmallEls es)
        case atStart => exact ⟨(l.drop p).length + 1, p, true, .slice none 0 0, [], rfl, rfl, hp, rfl, ⟨HOB.out, by omega, rfl⟩, by simp, HR.out, OwnEls.nil _ _, SmallEls.nil⟩
        case round =>
          obtain ⟨m, k, b, dv, es, rfl, rfl, hk, HG, hm, hek, hr1, ho1, hs1⟩ := hrel
          have HR1 := Lib.hid hr1; have HO1 := Lib.hid ho1; have HS1 := Lib.hid hs1
          obtain ⟨dp, dl, dc, rfl⟩ := owns_slice ho1.row
          have hlw := hr1.ev.lt
          clear hr1 ho1 hs1 HR HB1 HB2
          obtain ⟨wo, rfl⟩ : ∃ x : World, x = wr := ⟨_, rfl⟩
          cases b with
          | false =>
            have HDF : Hid (rdataN (l.drop p) = some (es.map (fun y => (y.1, y.2.2)), l.drop k)) := by
              show _ = _
              rw [HD1.out, ← hm.out.2.2]; rfl
            clear hm
            go_wp2_with fail
            go_meet
            exact ⟨k, .slice dp dl dc, es, rfl, hk, HDF, HR1.out, HO1.out, HS1.out⟩
          | true =>
            obtain ⟨hm1, hm2, hm3⟩ := hm.out
            have hk1 : k + 1 ≤ s.size := by
              have := has3 hm1.symm
              rw [List.length_drop, HSZ.out] at this
              have h3 : open8.length = 1 := rfl
              omega
            cases m with
            | zero => omega
            | succ m =>
            rw [if_pos rfl, relsN, List.drop_drop] at hm3
            have HM3 := Lib.hid hm3
            rw [List.length_drop, HSZ.out] at hm2
            have HEC : Hid (∀ W : World, Calls Tryz.prog 26 #[.string s, .int .i64 ((k : Int) + 1)] W fun e w' => Below W.heap.size W w' ∧ REL l W.heap.size w' (relN (l.drop (k + 1))) e) := Lib.hid fun W => by
              have h := relem_c s (k + 1) W hs hk1
              rw [← HL.out] at h
              exact h
            have c8 : wo.cell? ⟨E, 8, none⟩ = some (.slice dp dl dc) := HR1.out.ev.cell 8
            have f8 := HR1.out.ev.frozen 8
            clear hm hm1 hm3
            cases hre : relN (l.drop (k + 1)) with
            | none =>
              have HNO : Hid (parseN calD l = none) := by
                show parseN calD l = none
                rw [HPN.out, HD1.out, ← HM3.out, hre]; rfl
              have HEN : Hid (∀ W : World, Calls Tryz.prog 26 #[.string s, .int .i64 ((k : Int) + 1)] W fun e w' => e = .returned (.tuple #[.agg #[.string ⟨#[]⟩, .slice none 0 0], .int .i64 (-1)]) ∧ Below W.heap.size W w') := Lib.hid fun W => (HEC.out W).mono fun e w' ⟨hb, h⟩ => by
                rw [hre] at h
                exact ⟨h, hb⟩
              clear hre HM3 c8 f8
              go_wp2_with (go_at_call 26; refine (HEN.out _).mono ?_; rintro e w3 ⟨rfl, b3⟩; have HR3 := Lib.hid ((HR1.out.lower b3).alloc (Obj.cells #[.string ⟨#[]⟩, .slice none 0 0] 58)); clear b3; have r0 : (w3.alloc (Obj.cells #[.string ⟨#[]⟩, .slice none 0 0] 58)).cell? ⟨w.heap.size, 0, none⟩ = some (.int .i64 0) := HR3.out.res.cell 0; have rf0 := HR3.out.res.frozen 0; have r1 : (w3.alloc (Obj.cells #[.string ⟨#[]⟩, .slice none 0 0] 58)).cell? ⟨w.heap.size, 1, none⟩ = some (.int .i64 0) := HR3.out.res.cell 1; have rf1 := HR3.out.res.frozen 1; have r2 : (w3.alloc (Obj.cells #[.string ⟨#[]⟩, .slice none 0 0] 58)).cell? ⟨w.heap.size, 2, none⟩ = some (.bool false) := HR3.out.res.cell 2; have rf2 := HR3.out.res.frozen 2; have r3 : (w3.alloc (Obj.cells #[.string ⟨#[]⟩, .slice none 0 0] 58)).cell? ⟨w.heap.size, 3, none⟩ = some (.int .i64 0) := HR3.out.res.cell 3; have rf3 := HR3.out.res.frozen 3; have r4 : (w3.alloc (Obj.cells #[.string ⟨#[]⟩, .slice none 0 0] 58)).cell? ⟨w.heap.size, 4, none⟩ = some (.string ⟨#[]⟩) := HR3.out.res.cell 4; have rf4 := HR3.out.res.frozen 4; have r5 : (w3.alloc (Obj.cells #[.string ⟨#[]⟩, .slice none 0 0] 58)).cell? ⟨w.heap.size, 5, none⟩ = some (.string ⟨#[]⟩) := HR3.out.res.cell 5; have rf5 := HR3.out.res.frozen 5; have r6 : (w3.alloc (Obj.cells #[.string ⟨#[]⟩, .slice none 0 0] 58)).cell? ⟨w.heap.size, 6, none⟩ = some (.string ⟨#[]⟩) := HR3.out.res.cell 6; have rf6 := HR3.out.res.frozen 6; have r7 : (w3.alloc (Obj.cells #[.string ⟨#[]⟩, .slice none 0 0] 58)).cell? ⟨w.heap.size, 7, none⟩ = some (.string ⟨#[]⟩) := HR3.out.res.cell 7; have rf7 := HR3.out.res.frozen 7; have r8 : (w3.alloc (Obj.cells #[.string ⟨#[]⟩, .slice none 0 0] 58)).cell? ⟨w.heap.size, 8, none⟩ = some (.slice none 0 0) := HR3.out.res.cell 8; have rf8 := HR3.out.res.frozen 8; have r9 : (w3.alloc (Obj.cells #[.string ⟨#[]⟩, .slice none 0 0] 58)).cell? ⟨w.heap.size, 9, none⟩ = some (.string ⟨#[]⟩) := HR3.out.res.cell 9; have rf9 := HR3.out.res.frozen 9)
              have hR2 := (((((((((((HR3.out.res).put 0 (.int .i64 0)).put 1 (.int .i64 0)).put 2 (.bool false)).put 3 (.int .i64 0)).put 4 (.string ⟨#[]⟩)).put 5 (.string ⟨#[]⟩)).put 6 (.string ⟨#[]⟩)).put 7 (.string ⟨#[]⟩)).put 8 (.slice none 0 0)).put 9 (.string ⟨#[]⟩))
              have hR3 := (show Row _ w.heap.size 25 EVZ from by simpa [EVZ] using hR2)
              clear hR2
              refine bodyPost_ret (results_cell_row_tmp rfl _ _ w.heap.size _ EVZ (0, 0) _ rfl hR3 Tryz.underlying25 rfl evSize) rfl (POST.no HNO.out rfl ?_)
              exact (((((((((((HR3.out.below).setCell (by simp) _).setCell (by simp) _).setCell (by simp) _).setCell (by simp) _).setCell (by simp) _).setCell (by simp) _).setCell (by simp) _).setCell (by simp) _).setCell (by simp) _).setCell (by simp) _)
            | some xr =>
              obtain ⟨⟨id, ps⟩, r⟩ := xr
              obtain ⟨g1, g2, g3, g4⟩ := relN_small 4194304 (by rw [List.length_drop, HSZ.out]; omega) hre
              rw [List.length_drop, HSZ.out] at g2
              have HM4 : Hid ((if Lib.hasPrefix r open8 then relsN m r (es.map (fun y => (y.1, y.2.2)) ++ [(id, ps)]) else some (es.map (fun y => (y.1, y.2.2)) ++ [(id, ps)], r)) = relsN ((l.drop p).length + 1) (l.drop p) []) := by
                show _ = _
                rw [← HM3.out, hre]
              have HEY : Hid (∀ W : World, Calls Tryz.prog 26 #[.string s, .int .i64 ((k : Int) + 1)] W fun e w' => Below W.heap.size W w' ∧ ∃ (va : Option Addr) (vl vc : Nat) (q : Nat), q ≤ s.size ∧ r = l.drop q ∧ e = .returned (.tuple #[.agg #[.string ⟨id.toArray⟩, .slice va vl vc], .int .i64 q]) ∧ w'.ownsRow W.heap.size 73 2 (.slice va vl vc) ps.length (parCells ps)) := Lib.hid fun W => (HEC.out W).mono fun e w' ⟨hb, h⟩ => by
                rw [hre] at h
                obtain ⟨v, q, hq1, hq2, he, ho⟩ := h
                obtain ⟨va, vl, vc, rfl⟩ := owns_slice ho
                exact ⟨hb, va, vl, vc, q, by rw [← HSZ.out]; exact hq1, hq2, he, ho⟩
              have g5 : es.length + 1 ≤ 4194304 := by omega
              have HSN : Hid (∀ v : Value, SmallEls (es ++ [(id, v, ps)])) := Lib.hid fun v => HS1.out.more g5 g1 g3 g4
              obtain ⟨idb, hidb⟩ : ∃ idb : ByteArray, idb = ⟨id.toArray⟩ := ⟨_, rfl⟩
              rw [← hidb] at HEY
              have HIDB := Lib.hid hidb
              have HEY0 := Lib.hid (HEY.out wo)
              clear hre HM3 HEC g1 g3 g4 hidb HS1 HEY
              have hwob := HO1.out.row
              go_upto_region 50 with (go_at_call 26; refine HEY0.out.mono ?_; rintro e w3 ⟨b3, va, vl, vc, q, hq1, hq2, rfl, ho3⟩; clear c8 f8; have HR3 := Lib.hid ((HR1.out.lower b3).alloc (Obj.cells #[.string idb, .slice va vl vc] 58)); have HO3 := Lib.hid ((HO1.out.lower b3).turn (p := fun _ => False) ((Turn.refl _ w3).alloc (Obj.cells #[.string idb, .slice va vl vc] 58)) (by simp)); have HV3 := Lib.hid (ho3.alloc (Obj.cells #[.string idb, .slice va vl vc] 58)); have HX3 := Lib.hid (Row.laid w3 58 #[.string idb, .slice va vl vc]); have hsz3 := b3.size; have hq0 : decide ((q : Int) < 0) = false := decide_eq_false (by omega); have HQ2 := Lib.hid hq2; have hgl : r.length = s.size - q := (by rw [hq2, List.length_drop, HSZ.out]); clear b3 ho3 hq2)
              obtain ⟨X, hX⟩ : ∃ X, X = w3.heap.size := ⟨_, rfl⟩
              rw [← hX] at HX3
              have hs4 : (w3.alloc (Obj.cells #[.string idb, .slice va vl vc] 58)).heap.size = X + 1 := by rw [hX]; simp
              rw [← hX]
              rw [← hX] at hsz3
              clear hX
              generalize (w3.alloc (Obj.cells #[.string idb, .slice va vl vc] 58)) = w4 at *
              have x0 : w4.cell? ⟨X, 0, none⟩ = some (.string idb) := HX3.out.cell 0
              have x1 : w4.cell? ⟨X, 1, none⟩ = some (.slice va vl vc) := HX3.out.cell 1
              have c8 : w4.cell? ⟨E, 8, none⟩ = some (.slice dp dl dc) := HR3.out.ev.cell 8
              have f8 := HR3.out.ev.frozen 8
              have HS4 := Lib.hid hs4
              have hEw : E < w4.heap.size := HR3.out.ev.lt
              clear hs4
              go_wp2_with (first
                | (at_builtin; go_must (refine wpList_append_lies _ rfl (.tmp 189) (.tmp 191) 23 rfl (E + 1) 58 i0 (.agg #[.string ⟨#[]⟩, .slice none 0 0]) 2 40 Tryz.underlying23 hi hz0 hz1 hz2 rfl (by decide) (.slice dp dl dc) es.length (elCells es) rfl (HO3.out.row.alloc _) ⟨w4.heap.size, 0, none⟩ 1 1 [.string idb, .slice va vl vc] rfl rfl (World.news_of_block (heap_alloc_new _ _)) (by simp [Value.oneCell']) (by decide) (by unfold maxLen; omega) (by omega) (by simp; omega) (w4.heap.size + 1) (by simp) ?_); intro g cap w6 hown6 hgrow6 hloc6 hlt6; rw [HIDB.out] at hown6; have HO6 := Lib.hid (OwnEls.snoc (id := id) (v := .slice va vl vc) (ps := ps) HO1.out HO3.out hlw HV3.out hown6 hgrow6 hloc6); have HR6 := Lib.hid ((HR3.out.alloc _).grown hgrow6 (fun k hk => (by have := own_ge HO3.out.row hk; omega))); clear hown6 hgrow6 hloc6 hlt6 c8 f8 x0 x1; have c8 : w6.cell? ⟨E, 8, none⟩ = some (.slice dp dl dc) := HR6.out.ev.cell 8; have f8 := HR6.out.ev.frozen 8)
                | (go_at_call 22; refine (HBG.out q _ 91 hq1).mono ?_; rintro e w7 ⟨rfl, rfl⟩))
              go_roundg (s.size + 1 - q)
              case measure => rw [HG.out]; omega
              case rel =>
                refine ⟨m, q, Lib.hasPrefix (l.drop q) open8, .slice (some ⟨g, 0, none⟩) (es.length + 1) cap, es ++ [(id, .slice va vl vc, ps)], rfl, rfl, hq1, rfl, ⟨rfl, by rw [List.length_drop, HSZ.out]; omega, ?_⟩, by simp; omega, ?_, HO6.out.put (show E < E + 1 by omega) _, HSN.out _⟩
                · rw [← HM4.out, HQ2.out, List.map_append]; rfl
                · exact (HR6.out.put 8 (.slice (some ⟨g, 0, none⟩) (es.length + 1) cap)).cells (by simp [EVC])
  case rest =>
  obtain ⟨k, dv, es, rfl, hk, hd, hr1, ho1, hs1⟩ := hcut
  apply_assumption
  rw [HL.out]
  refine stageE5 s w hs _ _ ?_
  unfold JE5
  refine ⟨E, n, t, a, ws, k, dv, es, ?_⟩
  repeat apply Exists.intro
  rw [← HL.out]
  exact ⟨⟨hr1, ho1, hs1, hws, a0, a1, hk, by rw [HPN.out, hd.out]; rfl⟩, rfl⟩
end Go.Proofs.YtdkfgobbpadmgaaGreatDoor
