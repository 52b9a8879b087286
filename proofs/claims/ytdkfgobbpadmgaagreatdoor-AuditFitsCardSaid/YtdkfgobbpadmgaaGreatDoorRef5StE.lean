/- Package tabularyref05: Parse, the text and the end. -/
import Derived.Test.YtdkfgobbpadmgaaGreatDoorRef5ParseN
set_option linter.unusedVariables false
set_option linter.unusedSimpArgs false
namespace Go.Proofs.YtdkfgobbpadmgaaGreatDoor
open Go.RowKit
set_option maxRecDepth 1000000 in
@[irreducible] def JE5 (s : ByteArray) (w : World) (a' : Act) (w' : World) : Prop :=
  ∃ (E n : Nat) (t : Bool) (a : Int) (ws : List (List UInt8)) (p : Nat) (dv : Value) (es : List VEl), ∃ u1 u3 u4 u5 u6 u7 u8 u11 u12 u13 u14 u15 u16 u17 u18 u19 u20 u21 u22 u23 u24 u25 u26 u27 u28 u29 u30 u31 u32 u33 u34 u35 u36 u37 u38 u39 u40 u41 u42 u43 u44 u45 u46 u47 u48 u49 u50 u51 u52 u53 u54 u55 u56 u57 u58 u59 u60 u61 u62 u63 u64 u65 u66 u67 u68 u69 u70 u71 u72 u73 u74 u75 u76 u77 u78 u79 u80 u81 u82 u83 u84 u85 u86 u87 u88 u89 u90 u91 u92 u93 u94 u95 u96 u97 u98 u99 u100 u101 u102 u103 u104 u105 u106 u107 u108 u109 u110 u111 u112 u113 u114 u115 u116 u117 u118 u119 u120 u121 u122 u123 u124 u125 u126 u127 u128 u129 u130 u131 u132 u133 u134 u135 u136 u137 u138 u139 u140 u141 u142 u143 u144 u145 u146 u147 u148 u149 u150 u151 u152 u153 u154 u155 u156 u157 u158 u159 u160 u161 u162 u163 u164 u165 u166 u167 u168 u169 u170 u171 u172 u173 u174 u175 u176 u177 u178 u179 u180 u181 u182 u183 u184 u185 u186 u187 u188 u189 u190 u191 u192 u193 u194 u195 u196 u197 u198 u199 u200 u201 u202 u203 u204 u205 u206 u207 u208 u209 u210 u211 u212 u213 u214 u215 u216 u217 u218 u219 u220 u221 u222 u223 u224 u225 u226 u227 u228 : Value, (R5 w E w' (EVC ((n % 8 : Nat) : Int) ((n / 8 : Nat) : Int) t a (ws.getD 0 []) (ws.getD 1 []) (ws.getD 2 []) (ws.getD 3 []) dv []) ∧ OwnEls w' (E + 1) dv es ∧ SmallEls es ∧ (∀ x ∈ ws, x.length ≤ 4194304) ∧ -9223372036854775808 ≤ a ∧ a ≤ 9223372036854775807 ∧ p ≤ s.size ∧ parseN calD s.data.toList = rtail n t a ws (es.map fun y => (y.1, y.2.2)) (rtextN (s.data.toList.drop p))) ∧ a' = { tmps := #[.string s, u1, .pointer (some ⟨w.heap.size, 0, none⟩), u3, u4, u5, u6, u7, u8, .pointer (some ⟨E, 0, none⟩), .int .i64 p, u11, u12, u13, u14, u15, u16, u17, u18, u19, u20, u21, u22, u23, u24, u25, u26, u27, u28, u29, u30, u31, u32, u33, u34, u35, u36, u37, u38, u39, u40, u41, u42, u43, u44, u45, u46, u47, u48, u49, u50, u51, u52, u53, u54, u55, u56, u57, u58, u59, u60, u61, u62, u63, u64, u65, u66, u67, u68, u69, u70, u71, u72, u73, u74, u75, u76, u77, u78, u79, u80, u81, u82, u83, u84, u85, u86, u87, u88, u89, u90, u91, u92, u93, u94, u95, u96, u97, u98, u99, u100, u101, u102, u103, u104, u105, u106, u107, u108, u109, u110, u111, u112, u113, u114, u115, u116, u117, u118, u119, u120, u121, u122, u123, u124, u125, u126, u127, u128, u129, u130, u131, u132, u133, u134, u135, u136, u137, u138, u139, u140, u141, u142, u143, u144, u145, u146, u147, u148, u149, u150, u151, u152, u153, u154, u155, u156, u157, u158, u159, u160, u161, u162, u163, u164, u165, u166, u167, u168, u169, u170, u171, u172, u173, u174, u175, u176, u177, u178, u179, u180, u181, u182, u183, u184, u185, u186, u187, u188, u189, u190, u191, u192, u193, u194, u195, u196, u197, u198, u199, u200, u201, u202, u203, u204, u205, u206, u207, u208, u209, u210, u211, u212, u213, u214, u215, u216, u217, u218, u219, u220, u221, u222, u223, u224, u225, u226, u227, u228], defers := [] }
set_option maxHeartbeats 8000000 in
set_option maxRecDepth 100000 in
theorem stageE5 (s : ByteArray) (w : World) (hs : s.size ≤ 4194304) : ∀ a wx, JE5 s w a wx → (restOf 20 (Tryz.f7.body.getD .ret)).wp Tryz.prog (bodyPost Tryz.prog Tryz.f7 (POST calD s.data.toList w)) a wx := by
  obtain ⟨l, hl⟩ : ∃ l, l = s.data.toList := ⟨_, rfl⟩
  have hsz : l.length = s.size := by rw [hl]; rfl
  refine at_rest rfl ?_
  intro a' w1 hinv
  unfold JE5 at hinv
  obtain ⟨E, n, t, a, ws, p, dv, es, hinv⟩ := hinv
  obtain ⟨u1, hinv⟩ := hinv
  obtain ⟨u3, hinv⟩ := hinv
  obtain ⟨u4, hinv⟩ := hinv
  obtain ⟨u5, hinv⟩ := hinv
  obtain ⟨u6, hinv⟩ := hinv
  obtain ⟨u7, hinv⟩ := hinv
  obtain ⟨u8, hinv⟩ := hinv
  obtain ⟨u11, hinv⟩ := hinv
  obtain ⟨u12, hinv⟩ := hinv
  obtain ⟨u13, hinv⟩ := hinv
  obtain ⟨u14, hinv⟩ := hinv
  obtain ⟨u15, hinv⟩ := hinv
  obtain ⟨u16, hinv⟩ := hinv
  obtain ⟨u17, hinv⟩ := hinv
  obtain ⟨u18, hinv⟩ := hinv
  obtain ⟨u19, hinv⟩ := hinv
  obtain ⟨u20, hinv⟩ := hinv
  obtain ⟨u21, hinv⟩ := hinv
  obtain ⟨u22, hinv⟩ := hinv
  obtain ⟨u23, hinv⟩ := hinv
  obtain ⟨u24, hinv⟩ := hinv
  obtain ⟨u25, hinv⟩ := hinv
  obtain ⟨u26, hinv⟩ := hinv
  obtain ⟨u27, hinv⟩ := hinv
  obtain ⟨u28, hinv⟩ := hinv
  obtain ⟨u29, hinv⟩ := hinv
  obtain ⟨u30, hinv⟩ := hinv
  obtain ⟨u31, hinv⟩ := hinv
  obtain ⟨u32, hinv⟩ := hinv
  obtain ⟨u33, hinv⟩ := hinv
  obtain ⟨u34, hinv⟩ := hinv
  obtain ⟨u35, hinv⟩ := hinv
  obtain ⟨u36, hinv⟩ := hinv
  obtain ⟨u37, hinv⟩ := hinv
  obtain ⟨u38, hinv⟩ := hinv
  obtain ⟨u39, hinv⟩ := hinv
  obtain ⟨u40, hinv⟩ := hinv
  obtain ⟨u41, hinv⟩ := hinv
  obtain ⟨u42, hinv⟩ := hinv
  obtain ⟨u43, hinv⟩ := hinv
  obtain ⟨u44, hinv⟩ := hinv
  obtain ⟨u45, hinv⟩ := hinv
  obtain ⟨u46, hinv⟩ := hinv
  obtain ⟨u47, hinv⟩ := hinv
  obtain ⟨u48, hinv⟩ := hinv
  obtain ⟨u49, hinv⟩ := hinv
  obtain ⟨u50, hinv⟩ := hinv
  obtain ⟨u51, hinv⟩ := hinv
  obtain ⟨u52, hinv⟩ := hinv
  obtain ⟨u53, hinv⟩ := hinv
  obtain ⟨u54, hinv⟩ := hinv
  obtain ⟨u55, hinv⟩ := hinv
  obtain ⟨u56, hinv⟩ := hinv
  obtain ⟨u57, hinv⟩ := hinv
  obtain ⟨u58, hinv⟩ := hinv
  obtain ⟨u59, hinv⟩ := hinv
  obtain ⟨u60, hinv⟩ := hinv
  obtain ⟨u61, hinv⟩ := hinv
  obtain ⟨u62, hinv⟩ := hinv
  obtain ⟨u63, hinv⟩ := hinv
  obtain ⟨u64, hinv⟩ := hinv
  obtain ⟨u65, hinv⟩ := hinv
  obtain ⟨u66, hinv⟩ := hinv
  obtain ⟨u67, hinv⟩ := hinv
  obtain ⟨u68, hinv⟩ := hinv
  obtain ⟨u69, hinv⟩ := hinv
  obtain ⟨u70, hinv⟩ := hinv
  obtain ⟨u71, hinv⟩ := hinv
  obtain ⟨u72, hinv⟩ := hinv
  obtain ⟨u73, hinv⟩ := hinv
  obtain ⟨u74, hinv⟩ := hinv
  obtain ⟨u75, hinv⟩ := hinv
  obtain ⟨u76, hinv⟩ := hinv
  obtain ⟨u77, hinv⟩ := hinv
  obtain ⟨u78, hinv⟩ := hinv
  obtain ⟨u79, hinv⟩ := hinv
  obtain ⟨u80, hinv⟩ := hinv
  obtain ⟨u81, hinv⟩ := hinv
  obtain ⟨u82, hinv⟩ := hinv
  obtain ⟨u83, hinv⟩ := hinv
  obtain ⟨u84, hinv⟩ := hinv
  obtain ⟨u85, hinv⟩ := hinv
  obtain ⟨u86, hinv⟩ := hinv
  obtain ⟨u87, hinv⟩ := hinv
  obtain ⟨u88, hinv⟩ := hinv
  obtain ⟨u89, hinv⟩ := hinv
  obtain ⟨u90, hinv⟩ := hinv
  obtain ⟨u91, hinv⟩ := hinv
  obtain ⟨u92, hinv⟩ := hinv
  obtain ⟨u93, hinv⟩ := hinv
  obtain ⟨u94, hinv⟩ := hinv
  obtain ⟨u95, hinv⟩ := hinv
  obtain ⟨u96, hinv⟩ := hinv
  obtain ⟨u97, hinv⟩ := hinv
  obtain ⟨u98, hinv⟩ := hinv
  obtain ⟨u99, hinv⟩ := hinv
  obtain ⟨u100, hinv⟩ := hinv
  obtain ⟨u101, hinv⟩ := hinv
  obtain ⟨u102, hinv⟩ := hinv
  obtain ⟨u103, hinv⟩ := hinv
  obtain ⟨u104, hinv⟩ := hinv
  obtain ⟨u105, hinv⟩ := hinv
  obtain ⟨u106, hinv⟩ := hinv
  obtain ⟨u107, hinv⟩ := hinv
  obtain ⟨u108, hinv⟩ := hinv
  obtain ⟨u109, hinv⟩ := hinv
  obtain ⟨u110, hinv⟩ := hinv
  obtain ⟨u111, hinv⟩ := hinv
  obtain ⟨u112, hinv⟩ := hinv
  obtain ⟨u113, hinv⟩ := hinv
  obtain ⟨u114, hinv⟩ := hinv
  obtain ⟨u115, hinv⟩ := hinv
  obtain ⟨u116, hinv⟩ := hinv
  obtain ⟨u117, hinv⟩ := hinv
  obtain ⟨u118, hinv⟩ := hinv
  obtain ⟨u119, hinv⟩ := hinv
  obtain ⟨u120, hinv⟩ := hinv
  obtain ⟨u121, hinv⟩ := hinv
  obtain ⟨u122, hinv⟩ := hinv
  obtain ⟨u123, hinv⟩ := hinv
  obtain ⟨u124, hinv⟩ := hinv
  obtain ⟨u125, hinv⟩ := hinv
  obtain ⟨u126, hinv⟩ := hinv
  obtain ⟨u127, hinv⟩ := hinv
  obtain ⟨u128, hinv⟩ := hinv
  obtain ⟨u129, hinv⟩ := hinv
  obtain ⟨u130, hinv⟩ := hinv
  obtain ⟨u131, hinv⟩ := hinv
  obtain ⟨u132, hinv⟩ := hinv
  obtain ⟨u133, hinv⟩ := hinv
  obtain ⟨u134, hinv⟩ := hinv
  obtain ⟨u135, hinv⟩ := hinv
  obtain ⟨u136, hinv⟩ := hinv
  obtain ⟨u137, hinv⟩ := hinv
  obtain ⟨u138, hinv⟩ := hinv
  obtain ⟨u139, hinv⟩ := hinv
  obtain ⟨u140, hinv⟩ := hinv
  obtain ⟨u141, hinv⟩ := hinv
  obtain ⟨u142, hinv⟩ := hinv
  obtain ⟨u143, hinv⟩ := hinv
  obtain ⟨u144, hinv⟩ := hinv
  obtain ⟨u145, hinv⟩ := hinv
  obtain ⟨u146, hinv⟩ := hinv
  obtain ⟨u147, hinv⟩ := hinv
  obtain ⟨u148, hinv⟩ := hinv
  obtain ⟨u149, hinv⟩ := hinv
  obtain ⟨u150, hinv⟩ := hinv
  obtain ⟨u151, hinv⟩ := hinv
  obtain ⟨u152, hinv⟩ := hinv
  obtain ⟨u153, hinv⟩ := hinv
  obtain ⟨u154, hinv⟩ := hinv
  obtain ⟨u155, hinv⟩ := hinv
  obtain ⟨u156, hinv⟩ := hinv
  obtain ⟨u157, hinv⟩ := hinv
  obtain ⟨u158, hinv⟩ := hinv
  obtain ⟨u159, hinv⟩ := hinv
  obtain ⟨u160, hinv⟩ := hinv
  obtain ⟨u161, hinv⟩ := hinv
  obtain ⟨u162, hinv⟩ := hinv
  obtain ⟨u163, hinv⟩ := hinv
  obtain ⟨u164, hinv⟩ := hinv
  obtain ⟨u165, hinv⟩ := hinv
  obtain ⟨u166, hinv⟩ := hinv
  obtain ⟨u167, hinv⟩ := hinv
  obtain ⟨u168, hinv⟩ := hinv
  obtain ⟨u169, hinv⟩ := hinv
  obtain ⟨u170, hinv⟩ := hinv
  obtain ⟨u171, hinv⟩ := hinv
  obtain ⟨u172, hinv⟩ := hinv
  obtain ⟨u173, hinv⟩ := hinv
  obtain ⟨u174, hinv⟩ := hinv
  obtain ⟨u175, hinv⟩ := hinv
  obtain ⟨u176, hinv⟩ := hinv
  obtain ⟨u177, hinv⟩ := hinv
  obtain ⟨u178, hinv⟩ := hinv
  obtain ⟨u179, hinv⟩ := hinv
  obtain ⟨u180, hinv⟩ := hinv
  obtain ⟨u181, hinv⟩ := hinv
  obtain ⟨u182, hinv⟩ := hinv
  obtain ⟨u183, hinv⟩ := hinv
  obtain ⟨u184, hinv⟩ := hinv
  obtain ⟨u185, hinv⟩ := hinv
  obtain ⟨u186, hinv⟩ := hinv
  obtain ⟨u187, hinv⟩ := hinv
  obtain ⟨u188, hinv⟩ := hinv
  obtain ⟨u189, hinv⟩ := hinv
  obtain ⟨u190, hinv⟩ := hinv
  obtain ⟨u191, hinv⟩ := hinv
  obtain ⟨u192, hinv⟩ := hinv
  obtain ⟨u193, hinv⟩ := hinv
  obtain ⟨u194, hinv⟩ := hinv
  obtain ⟨u195, hinv⟩ := hinv
  obtain ⟨u196, hinv⟩ := hinv
  obtain ⟨u197, hinv⟩ := hinv
  obtain ⟨u198, hinv⟩ := hinv
  obtain ⟨u199, hinv⟩ := hinv
  obtain ⟨u200, hinv⟩ := hinv
  obtain ⟨u201, hinv⟩ := hinv
  obtain ⟨u202, hinv⟩ := hinv
  obtain ⟨u203, hinv⟩ := hinv
  obtain ⟨u204, hinv⟩ := hinv
  obtain ⟨u205, hinv⟩ := hinv
  obtain ⟨u206, hinv⟩ := hinv
  obtain ⟨u207, hinv⟩ := hinv
  obtain ⟨u208, hinv⟩ := hinv
  obtain ⟨u209, hinv⟩ := hinv
  obtain ⟨u210, hinv⟩ := hinv
  obtain ⟨u211, hinv⟩ := hinv
  obtain ⟨u212, hinv⟩ := hinv
  obtain ⟨u213, hinv⟩ := hinv
  obtain ⟨u214, hinv⟩ := hinv
  obtain ⟨u215, hinv⟩ := hinv
  obtain ⟨u216, hinv⟩ := hinv
  obtain ⟨u217, hinv⟩ := hinv
  obtain ⟨u218, hinv⟩ := hinv
  obtain ⟨u219, hinv⟩ := hinv
  obtain ⟨u220, hinv⟩ := hinv
  obtain ⟨u221, hinv⟩ := hinv
  obtain ⟨u222, hinv⟩ := hinv
  obtain ⟨u223, hinv⟩ := hinv
  obtain ⟨u224, hinv⟩ := hinv
  obtain ⟨u225, hinv⟩ := hinv
  obtain ⟨u226, hinv⟩ := hinv
  obtain ⟨u227, hinv⟩ := hinv
  obtain ⟨u228, hinv⟩ := hinv
  obtain ⟨⟨hr, ho, hsm, hws, a0, a1, hp, hpn⟩, hfr0⟩ := hinv
  subst hfr0
  rw [← hl] at hpn
  rw [← hl]
  have HL := Lib.hid hl; have HSZ := Lib.hid hsz
  clear hl hsz
  have HR := Lib.hid hr; have HO := Lib.hid ho; have HSM := Lib.hid hsm; have HPN := Lib.hid hpn
  obtain ⟨dp, dl, dc, rfl⟩ := owns_slice ho.row
  have hlow := hr.low
  have s0 := getD_small hws 0; have s1 := getD_small hws 1; have s2 := getD_small hws 2; have s3 := getD_small hws 3
  clear hr ho hsm hpn hws
  obtain ⟨g0, hg0⟩ : ∃ g : Int, g = ((n % 8 : Nat) : Int) := ⟨_, rfl⟩
  obtain ⟨f0, hf0⟩ : ∃ f : Int, f = ((n / 8 : Nat) : Int) := ⟨_, rfl⟩
  obtain ⟨h0, hh0⟩ : ∃ h : ByteArray, h = ⟨(ws.getD 0 []).toArray⟩ := ⟨_, rfl⟩
  obtain ⟨h1, hh1⟩ : ∃ h : ByteArray, h = ⟨(ws.getD 1 []).toArray⟩ := ⟨_, rfl⟩
  obtain ⟨h2, hh2⟩ : ∃ h : ByteArray, h = ⟨(ws.getD 2 []).toArray⟩ := ⟨_, rfl⟩
  obtain ⟨h3, hh3⟩ : ∃ h : ByteArray, h = ⟨(ws.getD 3 []).toArray⟩ := ⟨_, rfl⟩
  have HEV : Hid (∀ tx : List UInt8, (EVC ((n % 8 : Nat) : Int) ((n / 8 : Nat) : Int) t a (ws.getD 0 []) (ws.getD 1 []) (ws.getD 2 []) (ws.getD 3 []) (.slice dp dl dc) tx) = #[.int .i64 g0, .int .i64 f0, .bool t, .int .i64 a, .string h0, .string h1, .string h2, .string h3, .slice dp dl dc, .string ⟨tx.toArray⟩]) := Lib.hid fun tx => by rw [hg0, hf0, hh0, hh1, hh2, hh3]; rfl
  have HRT : Hid (∀ tx : List UInt8, tx.length ≤ 4194304 → ∀ W : World, OwnEls W (E + 1) (.slice dp dl dc) es → Calls Tryz.prog 27 #[.agg #[.int .i64 g0, .int .i64 f0, .bool t, .int .i64 a, .string h0, .string h1, .string h2, .string h3, .slice dp dl dc, .string ⟨tx.toArray⟩]] W fun e w' => e = .returned (.int .i64 (rightP ⟨n % 8, n / 8, t, a, ws.getD 0 [], ws.getD 1 [], ws.getD 2 [], ws.getD 3 [], es.map (fun y => (y.1, y.2.2)), tx⟩)) ∧ Below W.heap.size W w') := Lib.hid fun tx htx W hO => by
    rw [hh0, hh1, hh2, hh3]
    have h := rright_c g0 f0 t a ⟨(ws.getD 0 []).toArray⟩ ⟨(ws.getD 1 []).toArray⟩ ⟨(ws.getD 2 []).toArray⟩ ⟨(ws.getD 3 []).toArray⟩ ⟨tx.toArray⟩ (.slice dp dl dc) (es.map VEl.bel) W hO.elems HSM.out.eb a0 a1 s0 s1 s2 s3 htx
    have he : rightP ⟨n % 8, n / 8, t, a, ws.getD 0 [], ws.getD 1 [], ws.getD 2 [], ws.getD 3 [], es.map (fun y => (y.1, y.2.2)), tx⟩ = rightE g0 f0 t a ⟨(ws.getD 0 []).toArray⟩ ⟨(ws.getD 1 []).toArray⟩ ⟨(ws.getD 2 []).toArray⟩ ⟨(ws.getD 3 []).toArray⟩ ⟨tx.toArray⟩ (es.map VEl.bel) := by
      rw [rightP, hg0, hf0]
      exact (rightE_same _ _ _ _ _ _ _ _ _ (bel_same es)).symm
    rw [he]
    exact h
  have HBG : Hid (∀ W : World, Calls Tryz.prog 22 #[.string s, .int .i64 ((p : Int) + 1), .string ⟨#[239, 187, 191]⟩] W fun e w' => e = .returned (.bool (Lib.hasPrefix (l.drop (p + 1)) bom8)) ∧ W = w') := Lib.hid fun W => by
    have h := begins_c s (p + 1) ⟨#[239, 187, 191]⟩ W (by omega) (by omega) (by decide)
    rw [← HL.out] at h
    exact h
  clear hg0 hf0 hh0 hh1 hh2 hh3
  go_upto_if 201 with (fail)
  go_cut [] (fun wx => ∃ tx : List UInt8, Hid (rtextN (l.drop p) = some tx) ∧ R5 w E wx (EVC ((n % 8 : Nat) : Int) ((n / 8 : Nat) : Int) t a (ws.getD 0 []) (ws.getD 1 []) (ws.getD 2 []) (ws.getD 3 []) (.slice dp dl dc) tx) ∧ OwnEls wx (E + 1) (.slice dp dl dc) es ∧ tx.length ≤ 4194304)
  case first =>
    by_cases hlt : p < s.size
    · have hkl : p < l.length := by rw [HSZ.out]; exact hlt
      have hget : l[p] = s[p] := by
        have : s.data.toList[p]'(by rw [← HL.out]; exact hkl) = l[p] := by simp [HL.out]
        rw [← this]; rfl
      have hd := List.drop_eq_getElem_cons hkl
      rw [hget] at hd
      have e32 := byte_eq s[p] 32 (by decide)
      cases h32 : (s[p] == 32) with
      | false =>
        have HNO : Hid (parseN calD l = none) := by
          show parseN calD l = none
          rw [HPN.out, hd, text_bad _ _ h32]; rfl
        replace e32 : ((s[p].toNat : Int) == 32) = false := e32.trans h32
        have e32' : ((s[p].toNat : Int) != 32) = true := by rw [bne, e32]; rfl
        clear hget hd h32
        have r0 : w1.cell? ⟨w.heap.size, 0, none⟩ = some (.int .i64 0) := HR.out.res.cell 0
        have rf0 := HR.out.res.frozen 0
        have r1 : w1.cell? ⟨w.heap.size, 1, none⟩ = some (.int .i64 0) := HR.out.res.cell 1
        have rf1 := HR.out.res.frozen 1
        have r2 : w1.cell? ⟨w.heap.size, 2, none⟩ = some (.bool false) := HR.out.res.cell 2
        have rf2 := HR.out.res.frozen 2
        have r3 : w1.cell? ⟨w.heap.size, 3, none⟩ = some (.int .i64 0) := HR.out.res.cell 3
        have rf3 := HR.out.res.frozen 3
        have r4 : w1.cell? ⟨w.heap.size, 4, none⟩ = some (.string ⟨#[]⟩) := HR.out.res.cell 4
        have rf4 := HR.out.res.frozen 4
        have r5 : w1.cell? ⟨w.heap.size, 5, none⟩ = some (.string ⟨#[]⟩) := HR.out.res.cell 5
        have rf5 := HR.out.res.frozen 5
        have r6 : w1.cell? ⟨w.heap.size, 6, none⟩ = some (.string ⟨#[]⟩) := HR.out.res.cell 6
        have rf6 := HR.out.res.frozen 6
        have r7 : w1.cell? ⟨w.heap.size, 7, none⟩ = some (.string ⟨#[]⟩) := HR.out.res.cell 7
        have rf7 := HR.out.res.frozen 7
        have r8 : w1.cell? ⟨w.heap.size, 8, none⟩ = some (.slice none 0 0) := HR.out.res.cell 8
        have rf8 := HR.out.res.frozen 8
        have r9 : w1.cell? ⟨w.heap.size, 9, none⟩ = some (.string ⟨#[]⟩) := HR.out.res.cell 9
        have rf9 := HR.out.res.frozen 9
        go_wp2_with fail
        have hR2 := (((((((((((HR.out.res).put 0 (.int .i64 0)).put 1 (.int .i64 0)).put 2 (.bool false)).put 3 (.int .i64 0)).put 4 (.string ⟨#[]⟩)).put 5 (.string ⟨#[]⟩)).put 6 (.string ⟨#[]⟩)).put 7 (.string ⟨#[]⟩)).put 8 (.slice none 0 0)).put 9 (.string ⟨#[]⟩))
        have hR3 := (show Row _ w.heap.size 25 EVZ from by simpa [EVZ] using hR2)
        clear hR2
        refine bodyPost_ret (results_cell_row_tmp rfl _ _ w.heap.size _ EVZ (0, 0) _ rfl hR3 Tryz.underlying25 rfl evSize) rfl (POST.no HNO.out rfl ?_)
        exact (((((((((((HR.out.below).setCell (by simp) _).setCell (by simp) _).setCell (by simp) _).setCell (by simp) _).setCell (by simp) _).setCell (by simp) _).setCell (by simp) _).setCell (by simp) _).setCell (by simp) _).setCell (by simp) _)
      | true =>
        have hc : s[p] = 32 := by simpa using h32
        have HTX : Hid (rtextN (l.drop p) = if Lib.hasPrefix (l.drop (p + 1)) bom8 then some ((l.drop (p + 1)).drop 3) else if (l.drop (p + 1)).isEmpty then none else some (l.drop (p + 1))) := by
          show _ = _
          rw [hd, hc]; exact text_cons _
        replace e32 : ((s[p].toNat : Int) == 32) = true := e32.trans h32
        have e32' : ((s[p].toNat : Int) != 32) = false := by rw [bne, e32]; rfl
        clear hget hd h32 hc
        have c9 : w1.cell? ⟨E, 9, none⟩ = some (.string ⟨#[]⟩) := HR.out.ev.cell 9
        have f9 := HR.out.ev.frozen 9
        cases hb : Lib.hasPrefix (l.drop (p + 1)) bom8 with
        | true =>
          have hp4 : p + 1 + 3 ≤ s.size := by
            have := has3 hb
            rw [List.length_drop, HSZ.out] at this
            have h3 : bom8.length = 3 := rfl
            omega
          have HT2 : Hid (rtextN (l.drop p) = some (l.drop (p + 1 + 3))) := by
            show _ = _
            rw [HTX.out, hb, if_pos rfl, List.drop_drop]
          have HPC : Hid (s.extract (p + 1 + 3) s.size = ⟨(l.drop (p + 1 + 3)).toArray⟩) := by
            show _ = _
            rw [piece_from, HL.out]
          rw [hb] at HBG
          clear hb HTX
          go_wp2_with (go_at_call 22; refine (HBG.out _).mono ?_; rintro e w2 ⟨rfl, rfl⟩)
          go_meet
          refine ⟨l.drop (p + 1 + 3), HT2, ?_, HO.out.put (show E < E + 1 by omega) _, by rw [List.length_drop, HSZ.out]; omega⟩
          rw [HPC.out]
          exact (HR.out.put 9 (.string ⟨(l.drop (p + 1 + 3)).toArray⟩)).cells (by simp [EVC])
        | false =>
          rw [hb] at HBG
          by_cases hlt2 : p + 1 < s.size
          · have HT2 : Hid (rtextN (l.drop p) = some (l.drop (p + 1))) := by
              show _ = _
              rw [HTX.out, hb, if_neg (by simp), if_neg]
              rw [List.isEmpty_iff]
              intro h
              have := congrArg List.length h
              rw [List.length_drop, HSZ.out] at this
              simp at this
              omega
            have HPC : Hid (s.extract (p + 1) s.size = ⟨(l.drop (p + 1)).toArray⟩) := by
              show _ = _
              rw [piece_from, HL.out]
            have hq : (((p : Int) + 1) == (s.size : Int)) = false := by simp; omega
            clear hb HTX
            go_wp2_with (go_at_call 22; refine (HBG.out _).mono ?_; rintro e w2 ⟨rfl, rfl⟩)
            go_meet
            refine ⟨l.drop (p + 1), HT2, ?_, HO.out.put (show E < E + 1 by omega) _, by rw [List.length_drop, HSZ.out]; omega⟩
            rw [HPC.out]
            exact (HR.out.put 9 (.string ⟨(l.drop (p + 1)).toArray⟩)).cells (by simp [EVC])
          · have HNO : Hid (parseN calD l = none) := by
              show parseN calD l = none
              rw [HPN.out, HTX.out, hb, if_neg (by simp), if_pos]
              · rfl
              · rw [List.isEmpty_iff]
                exact List.drop_eq_nil_of_le (by rw [HSZ.out]; omega)
            have hq : (((p : Int) + 1) == (s.size : Int)) = true := by simp; omega
            clear hb HTX c9 f9
            have r0 : w1.cell? ⟨w.heap.size, 0, none⟩ = some (.int .i64 0) := HR.out.res.cell 0
            have rf0 := HR.out.res.frozen 0
            have r1 : w1.cell? ⟨w.heap.size, 1, none⟩ = some (.int .i64 0) := HR.out.res.cell 1
            have rf1 := HR.out.res.frozen 1
            have r2 : w1.cell? ⟨w.heap.size, 2, none⟩ = some (.bool false) := HR.out.res.cell 2
            have rf2 := HR.out.res.frozen 2
            have r3 : w1.cell? ⟨w.heap.size, 3, none⟩ = some (.int .i64 0) := HR.out.res.cell 3
            have rf3 := HR.out.res.frozen 3
            have r4 : w1.cell? ⟨w.heap.size, 4, none⟩ = some (.string ⟨#[]⟩) := HR.out.res.cell 4
            have rf4 := HR.out.res.frozen 4
            have r5 : w1.cell? ⟨w.heap.size, 5, none⟩ = some (.string ⟨#[]⟩) := HR.out.res.cell 5
            have rf5 := HR.out.res.frozen 5
            have r6 : w1.cell? ⟨w.heap.size, 6, none⟩ = some (.string ⟨#[]⟩) := HR.out.res.cell 6
            have rf6 := HR.out.res.frozen 6
            have r7 : w1.cell? ⟨w.heap.size, 7, none⟩ = some (.string ⟨#[]⟩) := HR.out.res.cell 7
            have rf7 := HR.out.res.frozen 7
            have r8 : w1.cell? ⟨w.heap.size, 8, none⟩ = some (.slice none 0 0) := HR.out.res.cell 8
            have rf8 := HR.out.res.frozen 8
            have r9 : w1.cell? ⟨w.heap.size, 9, none⟩ = some (.string ⟨#[]⟩) := HR.out.res.cell 9
            have rf9 := HR.out.res.frozen 9
            go_wp2_with (go_at_call 22; refine (HBG.out _).mono ?_; rintro e w2 ⟨rfl, rfl⟩)
            have hR2 := (((((((((((HR.out.res).put 0 (.int .i64 0)).put 1 (.int .i64 0)).put 2 (.bool false)).put 3 (.int .i64 0)).put 4 (.string ⟨#[]⟩)).put 5 (.string ⟨#[]⟩)).put 6 (.string ⟨#[]⟩)).put 7 (.string ⟨#[]⟩)).put 8 (.slice none 0 0)).put 9 (.string ⟨#[]⟩))
            have hR3 := (show Row _ w.heap.size 25 EVZ from by simpa [EVZ] using hR2)
            clear hR2
            refine bodyPost_ret (results_cell_row_tmp rfl _ _ w.heap.size _ EVZ (0, 0) _ rfl hR3 Tryz.underlying25 rfl evSize) rfl (POST.no HNO.out rfl ?_)
            exact (((((((((((HR.out.below).setCell (by simp) _).setCell (by simp) _).setCell (by simp) _).setCell (by simp) _).setCell (by simp) _).setCell (by simp) _).setCell (by simp) _).setCell (by simp) _).setCell (by simp) _).setCell (by simp) _)
    · have HT2 : Hid (rtextN (l.drop p) = some []) := by
        show _ = _
        rw [List.drop_eq_nil_of_le (by rw [HSZ.out]; omega)]; rfl
      go_wp2_with fail
      go_meet
      exact ⟨[], HT2, HR.out, HO.out, by simp⟩
  case rest =>
  obtain ⟨tx, htx, hr2, ho2, htl⟩ := hcut
  obtain ⟨w2, rfl⟩ : ∃ x : World, x = wc := ⟨_, rfl⟩
  have HPX : Hid (parseN calD l = if rightP ⟨n % 8, n / 8, t, a, ws.getD 0 [], ws.getD 1 [], ws.getD 2 [], ws.getD 3 [], es.map (fun y => (y.1, y.2.2)), tx⟩ = 0 then some ⟨n % 8, n / 8, t, a, ws.getD 0 [], ws.getD 1 [], ws.getD 2 [], ws.getD 3 [], es.map (fun y => (y.1, y.2.2)), tx⟩ else none) := by
    show parseN calD l = _
    rw [HPN.out, htx.out]; rfl
  have HO2 := Lib.hid ho2
  have HEVC := Lib.hid (HEV.out tx)
  rw [HEV.out tx] at hr2
  have HR2 := Lib.hid hr2
  obtain ⟨xb, hxb⟩ : ∃ xb : ByteArray, xb = ⟨tx.toArray⟩ := ⟨_, rfl⟩
  have HRC : Hid (∀ W : World, OwnEls W (E + 1) (.slice dp dl dc) es → Calls Tryz.prog 27 #[.agg #[.int .i64 g0, .int .i64 f0, .bool t, .int .i64 a, .string h0, .string h1, .string h2, .string h3, .slice dp dl dc, .string xb]] W fun e w' => e = .returned (.int .i64 (rightP ⟨n % 8, n / 8, t, a, ws.getD 0 [], ws.getD 1 [], ws.getD 2 [], ws.getD 3 [], es.map (fun y => (y.1, y.2.2)), tx⟩)) ∧ Below W.heap.size W w') := Lib.hid fun W hO => by rw [hxb]; exact HRT.out tx htl W hO
  rw [← hxb] at HR2
  have HXB := Lib.hid hxb
  clear htx hr2 ho2 HRT HEV HR HO HPN HBG hxb
  have e0 : w2.cell? ⟨E, 0, none⟩ = some (.int .i64 g0) := HR2.out.ev.cell 0
  have e1 : w2.cell? ⟨E, 1, none⟩ = some (.int .i64 f0) := HR2.out.ev.cell 1
  have e2 : w2.cell? ⟨E, 2, none⟩ = some (.bool t) := HR2.out.ev.cell 2
  have e3 : w2.cell? ⟨E, 3, none⟩ = some (.int .i64 a) := HR2.out.ev.cell 3
  have e4 : w2.cell? ⟨E, 4, none⟩ = some (.string h0) := HR2.out.ev.cell 4
  have e5 : w2.cell? ⟨E, 5, none⟩ = some (.string h1) := HR2.out.ev.cell 5
  have e6 : w2.cell? ⟨E, 6, none⟩ = some (.string h2) := HR2.out.ev.cell 6
  have e7 : w2.cell? ⟨E, 7, none⟩ = some (.string h3) := HR2.out.ev.cell 7
  have e8 : w2.cell? ⟨E, 8, none⟩ = some (.slice dp dl dc) := HR2.out.ev.cell 8
  have e9 : w2.cell? ⟨E, 9, none⟩ = some (.string xb) := HR2.out.ev.cell 9
  obtain ⟨R, hR⟩ : ∃ R, R = rightP ⟨n % 8, n / 8, t, a, ws.getD 0 [], ws.getD 1 [], ws.getD 2 [], ws.getD 3 [], es.map (fun y => (y.1, y.2.2)), tx⟩ := ⟨_, rfl⟩
  rw [← hR] at HRC HPX
  by_cases hR0 : R = 0
  · have HYES : Hid (parseN calD l = some ⟨n % 8, n / 8, t, a, ws.getD 0 [], ws.getD 1 [], ws.getD 2 [], ws.getD 3 [], es.map (fun y => (y.1, y.2.2)), tx⟩) := by
      show parseN calD l = _
      rw [HPX.out, if_pos hR0]
    have q0 : ((R : Int) == 0) = true := by rw [hR0]; rfl
    have q1 : ((R : Int) != 0) = false := by rw [bne, q0]; rfl
    clear hR hR0 HPX
    go_wp2_with (go_at_call 27; refine (HRC.out _ HO2.out).mono ?_; rintro e w3 ⟨rfl, b3⟩; clear e0 e1 e2 e3 e4 e5 e6 e7 e8 e9; have HR3 := Lib.hid (HR2.out.lower b3); have HO3 := Lib.hid (HO2.out.lower b3); clear b3; have r0 : w3.cell? ⟨w.heap.size, 0, none⟩ = some (.int .i64 0) := HR3.out.res.cell 0; have rf0 := HR3.out.res.frozen 0; have r1 : w3.cell? ⟨w.heap.size, 1, none⟩ = some (.int .i64 0) := HR3.out.res.cell 1; have rf1 := HR3.out.res.frozen 1; have r2 : w3.cell? ⟨w.heap.size, 2, none⟩ = some (.bool false) := HR3.out.res.cell 2; have rf2 := HR3.out.res.frozen 2; have r3 : w3.cell? ⟨w.heap.size, 3, none⟩ = some (.int .i64 0) := HR3.out.res.cell 3; have rf3 := HR3.out.res.frozen 3; have r4 : w3.cell? ⟨w.heap.size, 4, none⟩ = some (.string ⟨#[]⟩) := HR3.out.res.cell 4; have rf4 := HR3.out.res.frozen 4; have r5 : w3.cell? ⟨w.heap.size, 5, none⟩ = some (.string ⟨#[]⟩) := HR3.out.res.cell 5; have rf5 := HR3.out.res.frozen 5; have r6 : w3.cell? ⟨w.heap.size, 6, none⟩ = some (.string ⟨#[]⟩) := HR3.out.res.cell 6; have rf6 := HR3.out.res.frozen 6; have r7 : w3.cell? ⟨w.heap.size, 7, none⟩ = some (.string ⟨#[]⟩) := HR3.out.res.cell 7; have rf7 := HR3.out.res.frozen 7; have r8 : w3.cell? ⟨w.heap.size, 8, none⟩ = some (.slice none 0 0) := HR3.out.res.cell 8; have rf8 := HR3.out.res.frozen 8; have r9 : w3.cell? ⟨w.heap.size, 9, none⟩ = some (.string ⟨#[]⟩) := HR3.out.res.cell 9; have rf9 := HR3.out.res.frozen 9; have e0 : w3.cell? ⟨E, 0, none⟩ = some (.int .i64 g0) := HR3.out.ev.cell 0; have e1 : w3.cell? ⟨E, 1, none⟩ = some (.int .i64 f0) := HR3.out.ev.cell 1; have e2 : w3.cell? ⟨E, 2, none⟩ = some (.bool t) := HR3.out.ev.cell 2; have e3 : w3.cell? ⟨E, 3, none⟩ = some (.int .i64 a) := HR3.out.ev.cell 3; have e4 : w3.cell? ⟨E, 4, none⟩ = some (.string h0) := HR3.out.ev.cell 4; have e5 : w3.cell? ⟨E, 5, none⟩ = some (.string h1) := HR3.out.ev.cell 5; have e6 : w3.cell? ⟨E, 6, none⟩ = some (.string h2) := HR3.out.ev.cell 6; have e7 : w3.cell? ⟨E, 7, none⟩ = some (.string h3) := HR3.out.ev.cell 7; have e8 : w3.cell? ⟨E, 8, none⟩ = some (.slice dp dl dc) := HR3.out.ev.cell 8; have e9 : w3.cell? ⟨E, 9, none⟩ = some (.string xb) := HR3.out.ev.cell 9)
    have hR2 := (((((((((((HR3.out.res).put 0 (.int .i64 g0)).put 1 (.int .i64 f0)).put 2 (.bool t)).put 3 (.int .i64 a)).put 4 (.string h0)).put 5 (.string h1)).put 6 (.string h2)).put 7 (.string h3)).put 8 (.slice dp dl dc)).put 9 (.string xb))
    have hR3 := (show Row _ w.heap.size 25 #[.int .i64 g0, .int .i64 f0, .bool t, .int .i64 a, .string h0, .string h1, .string h2, .string h3, .slice dp dl dc, .string xb] from by simpa [EVZ] using hR2)
    clear hR2
    refine bodyPost_ret (results_cell_row_tmp rfl _ _ w.heap.size _ #[.int .i64 g0, .int .i64 f0, .bool t, .int .i64 a, .string h0, .string h1, .string h2, .string h3, .slice dp dl dc, .string xb] (0, 0) _ rfl hR3 Tryz.underlying25 rfl evSize) rfl (POST.yes (dv := .slice dp dl dc) (es := es) HYES.out ?_ ?_ rfl ?_)
    · have h := HEVC.out
      rw [← HXB.out] at h
      exact ret_v (congrArg (fun u => Value.tuple #[.agg u, .int .i64 0]) h.symm)
    · exact ((((((((((((HO3.out).put (show w.heap.size < E + 1 by omega) _).put (show w.heap.size < E + 1 by omega) _).put (show w.heap.size < E + 1 by omega) _).put (show w.heap.size < E + 1 by omega) _).put (show w.heap.size < E + 1 by omega) _).put (show w.heap.size < E + 1 by omega) _).put (show w.heap.size < E + 1 by omega) _).put (show w.heap.size < E + 1 by omega) _).put (show w.heap.size < E + 1 by omega) _).put (show w.heap.size < E + 1 by omega) _)).mono (by omega)
    · exact (((((((((((HR3.out.below).setCell (by simp) _).setCell (by simp) _).setCell (by simp) _).setCell (by simp) _).setCell (by simp) _).setCell (by simp) _).setCell (by simp) _).setCell (by simp) _).setCell (by simp) _).setCell (by simp) _)
  · have HNO : Hid (parseN calD l = none) := by
      show parseN calD l = none
      rw [HPX.out, if_neg hR0]
    have q0 : ((R : Int) == 0) = false := by simpa using hR0
    have q1 : ((R : Int) != 0) = true := by rw [bne, q0]; rfl
    clear hR hR0 HPX
    go_wp2_with (go_at_call 27; refine (HRC.out _ HO2.out).mono ?_; rintro e w3 ⟨rfl, b3⟩; clear e0 e1 e2 e3 e4 e5 e6 e7 e8 e9; have HR3 := Lib.hid (HR2.out.lower b3); clear b3; have r0 : w3.cell? ⟨w.heap.size, 0, none⟩ = some (.int .i64 0) := HR3.out.res.cell 0; have rf0 := HR3.out.res.frozen 0; have r1 : w3.cell? ⟨w.heap.size, 1, none⟩ = some (.int .i64 0) := HR3.out.res.cell 1; have rf1 := HR3.out.res.frozen 1; have r2 : w3.cell? ⟨w.heap.size, 2, none⟩ = some (.bool false) := HR3.out.res.cell 2; have rf2 := HR3.out.res.frozen 2; have r3 : w3.cell? ⟨w.heap.size, 3, none⟩ = some (.int .i64 0) := HR3.out.res.cell 3; have rf3 := HR3.out.res.frozen 3; have r4 : w3.cell? ⟨w.heap.size, 4, none⟩ = some (.string ⟨#[]⟩) := HR3.out.res.cell 4; have rf4 := HR3.out.res.frozen 4; have r5 : w3.cell? ⟨w.heap.size, 5, none⟩ = some (.string ⟨#[]⟩) := HR3.out.res.cell 5; have rf5 := HR3.out.res.frozen 5; have r6 : w3.cell? ⟨w.heap.size, 6, none⟩ = some (.string ⟨#[]⟩) := HR3.out.res.cell 6; have rf6 := HR3.out.res.frozen 6; have r7 : w3.cell? ⟨w.heap.size, 7, none⟩ = some (.string ⟨#[]⟩) := HR3.out.res.cell 7; have rf7 := HR3.out.res.frozen 7; have r8 : w3.cell? ⟨w.heap.size, 8, none⟩ = some (.slice none 0 0) := HR3.out.res.cell 8; have rf8 := HR3.out.res.frozen 8; have r9 : w3.cell? ⟨w.heap.size, 9, none⟩ = some (.string ⟨#[]⟩) := HR3.out.res.cell 9; have rf9 := HR3.out.res.frozen 9)
    have hR2 := (((((((((((HR3.out.res).put 0 (.int .i64 0)).put 1 (.int .i64 0)).put 2 (.bool false)).put 3 (.int .i64 0)).put 4 (.string ⟨#[]⟩)).put 5 (.string ⟨#[]⟩)).put 6 (.string ⟨#[]⟩)).put 7 (.string ⟨#[]⟩)).put 8 (.slice none 0 0)).put 9 (.string ⟨#[]⟩))
    have hR3 := (show Row _ w.heap.size 25 EVZ from by simpa [EVZ] using hR2)
    clear hR2
    refine bodyPost_ret (results_cell_row_tmp rfl _ _ w.heap.size _ EVZ (0, 0) _ rfl hR3 Tryz.underlying25 rfl evSize) rfl (POST.no HNO.out rfl ?_)
    exact (((((((((((HR3.out.below).setCell (by simp) _).setCell (by simp) _).setCell (by simp) _).setCell (by simp) _).setCell (by simp) _).setCell (by simp) _).setCell (by simp) _).setCell (by simp) _).setCell (by simp) _).setCell (by simp) _)
end Go.Proofs.YtdkfgobbpadmgaaGreatDoor
