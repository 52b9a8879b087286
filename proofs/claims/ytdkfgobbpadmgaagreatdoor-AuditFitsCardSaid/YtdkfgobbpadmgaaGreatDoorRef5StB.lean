/- Package tabularyref05: Parse, the time. -/
import Derived.Test.YtdkfgobbpadmgaaGreatDoorRef5StC
import Derived.Test.YtdkfgobbpadmgaaGreatDoorRef4Parse
set_option linter.unusedVariables false
set_option linter.unusedSimpArgs false
namespace Go.Proofs.YtdkfgobbpadmgaaGreatDoor
open Go.RowKit
theorem RD.some_out {x : D8} {r : List UInt8} {w w' : World} {e : Ending} (h : RD (some (x, r)) w e w') : e = .returned (.tuple #[x.v, txt r, .int .i64 0]) ∧ Below w.heap.size w w' := ⟨h.2, h.1⟩
theorem RD.none_out {w w' : World} {e : Ending} (h : RD none w e w') : e = .returned (.tuple #[.agg #[.int .i64 0, .int .i64 0, .int .i64 0, .int .i64 0, .int .i64 0, .int .i64 0, .int .i64 0, .int .i64 0], .string ⟨#[]⟩, .int .i64 3]) ∧ Below w.heap.size w w' := ⟨h.2, h.1⟩
theorem RD.date_out {y m d hh mi ss nn z : Int} {r : List UInt8} {w w' : World} {e : Ending} (h : RD (some (⟨y, m, d, hh, mi, ss, nn, z⟩, r)) w e w') : e = .returned (.tuple #[.agg #[.int .i64 y, .int .i64 m, .int .i64 d, .int .i64 hh, .int .i64 mi, .int .i64 ss, .int .i64 nn, .int .i64 z], .string ⟨r.toArray⟩, .int .i64 0]) ∧ Below w.heap.size w w' := ⟨h.some_out.1, h.1⟩
theorem rhead_none {cal : List UInt8 → Option (D8 × List UInt8)} {l : List UInt8} (h : Lib.hasPrefix l dash8 = false) (hc : cal l = none) : rheadN cal l = none := by
  unfold rheadN
  rw [h, hc]; rfl
theorem rhead_some {cal : List UInt8 → Option (D8 × List UInt8)} {l r : List UInt8} {x : D8} (h : Lib.hasPrefix l dash8 = false) (hc : cal l = some (x, r)) : rheadN cal l = if Lib.hasPrefix r blank8 then some (true, x.nanos, r.drop 1) else none := by
  unfold rheadN
  rw [h, hc]; rfl
set_option maxRecDepth 1000000 in
@[irreducible] def JB5 (s : ByteArray) (w : World) (a' : Act) (w' : World) : Prop :=
  ∃ (n en : Nat), ∃ u1 u3 u5 u6 u8 u9 u10 u11 u12 u13 u14 u15 u16 u17 u18 u19 u20 u21 u22 u23 u24 u25 u26 u27 u28 u29 u30 u31 u32 u33 u34 u35 u36 u37 u38 u39 u40 u41 u42 u43 u44 u45 u46 u47 u48 u49 u50 u51 u52 u53 u54 u55 u56 u57 u58 u59 u60 u61 u62 u63 u64 u65 u66 u67 u68 u69 u70 u71 u72 u73 u74 u75 u76 u77 u78 u79 u80 u81 u82 u83 u84 u85 u86 u87 u88 u89 u90 u91 u92 u93 u94 u95 u96 u97 u98 u99 u100 u101 u102 u103 u104 u105 u106 u107 u108 u109 u110 u111 u112 u113 u114 u115 u116 u117 u118 u119 u120 u121 u122 u123 u124 u125 u126 u127 u128 u129 u130 u131 u132 u133 u134 u135 u136 u137 u138 u139 u140 u141 u142 u143 u144 u145 u146 u147 u148 u149 u150 u151 u152 u153 u154 u155 u156 u157 u158 u159 u160 u161 u162 u163 u164 u165 u166 u167 u168 u169 u170 u171 u172 u173 u174 u175 u176 u177 u178 u179 u180 u181 u182 u183 u184 u185 u186 u187 u188 u189 u190 u191 u192 u193 u194 u195 u196 u197 u198 u199 u200 u201 u202 u203 u204 u205 u206 u207 u208 u209 u210 u211 u212 u213 u214 u215 u216 u217 u218 u219 u220 u221 u222 u223 u224 u225 u226 u227 u228 : Value, (Z5 w w' ∧ n ≤ 191 ∧ en + 3 ≤ s.size ∧ parseN calD s.data.toList = rrestN n (rheadN calD (s.data.toList.drop (en + 3)))) ∧ a' = { tmps := #[.string s, u1, .pointer (some ⟨w.heap.size, 0, none⟩), u3, .int .i64 en, u5, u6, .int .i64 n, u8, u9, u10, u11, u12, u13, u14, u15, u16, u17, u18, u19, u20, u21, u22, u23, u24, u25, u26, u27, u28, u29, u30, u31, u32, u33, u34, u35, u36, u37, u38, u39, u40, u41, u42, u43, u44, u45, u46, u47, u48, u49, u50, u51, u52, u53, u54, u55, u56, u57, u58, u59, u60, u61, u62, u63, u64, u65, u66, u67, u68, u69, u70, u71, u72, u73, u74, u75, u76, u77, u78, u79, u80, u81, u82, u83, u84, u85, u86, u87, u88, u89, u90, u91, u92, u93, u94, u95, u96, u97, u98, u99, u100, u101, u102, u103, u104, u105, u106, u107, u108, u109, u110, u111, u112, u113, u114, u115, u116, u117, u118, u119, u120, u121, u122, u123, u124, u125, u126, u127, u128, u129, u130, u131, u132, u133, u134, u135, u136, u137, u138, u139, u140, u141, u142, u143, u144, u145, u146, u147, u148, u149, u150, u151, u152, u153, u154, u155, u156, u157, u158, u159, u160, u161, u162, u163, u164, u165, u166, u167, u168, u169, u170, u171, u172, u173, u174, u175, u176, u177, u178, u179, u180, u181, u182, u183, u184, u185, u186, u187, u188, u189, u190, u191, u192, u193, u194, u195, u196, u197, u198, u199, u200, u201, u202, u203, u204, u205, u206, u207, u208, u209, u210, u211, u212, u213, u214, u215, u216, u217, u218, u219, u220, u221, u222, u223, u224, u225, u226, u227, u228], defers := [] }
set_option maxHeartbeats 8000000 in
set_option maxRecDepth 100000 in
theorem stageB5 (s : ByteArray) (w : World) (hs : s.size ≤ 4194304) : ∀ a wx, JB5 s w a wx → (restOf 8 (Tryz.f7.body.getD .ret)).wp Tryz.prog (bodyPost Tryz.prog Tryz.f7 (POST calD s.data.toList w)) a wx := by
  obtain ⟨l, hl⟩ : ∃ l, l = s.data.toList := ⟨_, rfl⟩
  have hsz : l.length = s.size := by rw [hl]; rfl
  refine at_rest rfl ?_
  intro a' w1 hinv
  unfold JB5 at hinv
  obtain ⟨n, en, hinv⟩ := hinv
  obtain ⟨u1, hinv⟩ := hinv
  obtain ⟨u3, hinv⟩ := hinv
  obtain ⟨u5, hinv⟩ := hinv
  obtain ⟨u6, hinv⟩ := hinv
  obtain ⟨u8, hinv⟩ := hinv
  obtain ⟨u9, hinv⟩ := hinv
  obtain ⟨u10, hinv⟩ := hinv
  obtain ⟨u11, hinv⟩ := hinv
  obtain ⟨u12, hinv⟩ := hinv
  obtain ⟨u13, hinv⟩ := hinv
  obtain ⟨u14, hinv⟩ := hinv
  obtain ⟨u15, hinv⟩ := hinv
  obtain ⟨u16, hinv⟩ := hinv
  obtain ⟨u17, hinv⟩ := hinv
  obtain ⟨u18, hinv⟩ := hinv
  obtain ⟨u19, hinv⟩ := hinv
  obtain ⟨u20, hinv⟩ := hinv
  obtain ⟨u21, hinv⟩ := hinv
  obtain ⟨u22, hinv⟩ := hinv
  obtain ⟨u23, hinv⟩ := hinv
  obtain ⟨u24, hinv⟩ := hinv
  obtain ⟨u25, hinv⟩ := hinv
  obtain ⟨u26, hinv⟩ := hinv
  obtain ⟨u27, hinv⟩ := hinv
  obtain ⟨u28, hinv⟩ := hinv
  obtain ⟨u29, hinv⟩ := hinv
  obtain ⟨u30, hinv⟩ := hinv
  obtain ⟨u31, hinv⟩ := hinv
  obtain ⟨u32, hinv⟩ := hinv
  obtain ⟨u33, hinv⟩ := hinv
  obtain ⟨u34, hinv⟩ := hinv
  obtain ⟨u35, hinv⟩ := hinv
  obtain ⟨u36, hinv⟩ := hinv
  obtain ⟨u37, hinv⟩ := hinv
  obtain ⟨u38, hinv⟩ := hinv
  obtain ⟨u39, hinv⟩ := hinv
  obtain ⟨u40, hinv⟩ := hinv
  obtain ⟨u41, hinv⟩ := hinv
  obtain ⟨u42, hinv⟩ := hinv
  obtain ⟨u43, hinv⟩ := hinv
  obtain ⟨u44, hinv⟩ := hinv
  obtain ⟨u45, hinv⟩ := hinv
  obtain ⟨u46, hinv⟩ := hinv
  obtain ⟨u47, hinv⟩ := hinv
  obtain ⟨u48, hinv⟩ := hinv
  obtain ⟨u49, hinv⟩ := hinv
  obtain ⟨u50, hinv⟩ := hinv
  obtain ⟨u51, hinv⟩ := hinv
  obtain ⟨u52, hinv⟩ := hinv
  obtain ⟨u53, hinv⟩ := hinv
  obtain ⟨u54, hinv⟩ := hinv
  obtain ⟨u55, hinv⟩ := hinv
  obtain ⟨u56, hinv⟩ := hinv
  obtain ⟨u57, hinv⟩ := hinv
  obtain ⟨u58, hinv⟩ := hinv
  obtain ⟨u59, hinv⟩ := hinv
  obtain ⟨u60, hinv⟩ := hinv
  obtain ⟨u61, hinv⟩ := hinv
  obtain ⟨u62, hinv⟩ := hinv
  obtain ⟨u63, hinv⟩ := hinv
  obtain ⟨u64, hinv⟩ := hinv
  obtain ⟨u65, hinv⟩ := hinv
  obtain ⟨u66, hinv⟩ := hinv
  obtain ⟨u67, hinv⟩ := hinv
  obtain ⟨u68, hinv⟩ := hinv
  obtain ⟨u69, hinv⟩ := hinv
  obtain ⟨u70, hinv⟩ := hinv
  obtain ⟨u71, hinv⟩ := hinv
  obtain ⟨u72, hinv⟩ := hinv
  obtain ⟨u73, hinv⟩ := hinv
  obtain ⟨u74, hinv⟩ := hinv
  obtain ⟨u75, hinv⟩ := hinv
  obtain ⟨u76, hinv⟩ := hinv
  obtain ⟨u77, hinv⟩ := hinv
  obtain ⟨u78, hinv⟩ := hinv
  obtain ⟨u79, hinv⟩ := hinv
  obtain ⟨u80, hinv⟩ := hinv
  obtain ⟨u81, hinv⟩ := hinv
  obtain ⟨u82, hinv⟩ := hinv
  obtain ⟨u83, hinv⟩ := hinv
  obtain ⟨u84, hinv⟩ := hinv
  obtain ⟨u85, hinv⟩ := hinv
  obtain ⟨u86, hinv⟩ := hinv
  obtain ⟨u87, hinv⟩ := hinv
  obtain ⟨u88, hinv⟩ := hinv
  obtain ⟨u89, hinv⟩ := hinv
  obtain ⟨u90, hinv⟩ := hinv
  obtain ⟨u91, hinv⟩ := hinv
  obtain ⟨u92, hinv⟩ := hinv
  obtain ⟨u93, hinv⟩ := hinv
  obtain ⟨u94, hinv⟩ := hinv
  obtain ⟨u95, hinv⟩ := hinv
  obtain ⟨u96, hinv⟩ := hinv
  obtain ⟨u97, hinv⟩ := hinv
  obtain ⟨u98, hinv⟩ := hinv
  obtain ⟨u99, hinv⟩ := hinv
  obtain ⟨u100, hinv⟩ := hinv
  obtain ⟨u101, hinv⟩ := hinv
  obtain ⟨u102, hinv⟩ := hinv
  obtain ⟨u103, hinv⟩ := hinv
  obtain ⟨u104, hinv⟩ := hinv
  obtain ⟨u105, hinv⟩ := hinv
  obtain ⟨u106, hinv⟩ := hinv
  obtain ⟨u107, hinv⟩ := hinv
  obtain ⟨u108, hinv⟩ := hinv
  obtain ⟨u109, hinv⟩ := hinv
  obtain ⟨u110, hinv⟩ := hinv
  obtain ⟨u111, hinv⟩ := hinv
  obtain ⟨u112, hinv⟩ := hinv
  obtain ⟨u113, hinv⟩ := hinv
  obtain ⟨u114, hinv⟩ := hinv
  obtain ⟨u115, hinv⟩ := hinv
  obtain ⟨u116, hinv⟩ := hinv
  obtain ⟨u117, hinv⟩ := hinv
  obtain ⟨u118, hinv⟩ := hinv
  obtain ⟨u119, hinv⟩ := hinv
  obtain ⟨u120, hinv⟩ := hinv
  obtain ⟨u121, hinv⟩ := hinv
  obtain ⟨u122, hinv⟩ := hinv
  obtain ⟨u123, hinv⟩ := hinv
  obtain ⟨u124, hinv⟩ := hinv
  obtain ⟨u125, hinv⟩ := hinv
  obtain ⟨u126, hinv⟩ := hinv
  obtain ⟨u127, hinv⟩ := hinv
  obtain ⟨u128, hinv⟩ := hinv
  obtain ⟨u129, hinv⟩ := hinv
  obtain ⟨u130, hinv⟩ := hinv
  obtain ⟨u131, hinv⟩ := hinv
  obtain ⟨u132, hinv⟩ := hinv
  obtain ⟨u133, hinv⟩ := hinv
  obtain ⟨u134, hinv⟩ := hinv
  obtain ⟨u135, hinv⟩ := hinv
  obtain ⟨u136, hinv⟩ := hinv
  obtain ⟨u137, hinv⟩ := hinv
  obtain ⟨u138, hinv⟩ := hinv
  obtain ⟨u139, hinv⟩ := hinv
  obtain ⟨u140, hinv⟩ := hinv
  obtain ⟨u141, hinv⟩ := hinv
  obtain ⟨u142, hinv⟩ := hinv
  obtain ⟨u143, hinv⟩ := hinv
  obtain ⟨u144, hinv⟩ := hinv
  obtain ⟨u145, hinv⟩ := hinv
  obtain ⟨u146, hinv⟩ := hinv
  obtain ⟨u147, hinv⟩ := hinv
  obtain ⟨u148, hinv⟩ := hinv
  obtain ⟨u149, hinv⟩ := hinv
  obtain ⟨u150, hinv⟩ := hinv
  obtain ⟨u151, hinv⟩ := hinv
  obtain ⟨u152, hinv⟩ := hinv
  obtain ⟨u153, hinv⟩ := hinv
  obtain ⟨u154, hinv⟩ := hinv
  obtain ⟨u155, hinv⟩ := hinv
  obtain ⟨u156, hinv⟩ := hinv
  obtain ⟨u157, hinv⟩ := hinv
  obtain ⟨u158, hinv⟩ := hinv
  obtain ⟨u159, hinv⟩ := hinv
  obtain ⟨u160, hinv⟩ := hinv
  obtain ⟨u161, hinv⟩ := hinv
  obtain ⟨u162, hinv⟩ := hinv
  obtain ⟨u163, hinv⟩ := hinv
  obtain ⟨u164, hinv⟩ := hinv
  obtain ⟨u165, hinv⟩ := hinv
  obtain ⟨u166, hinv⟩ := hinv
  obtain ⟨u167, hinv⟩ := hinv
  obtain ⟨u168, hinv⟩ := hinv
  obtain ⟨u169, hinv⟩ := hinv
  obtain ⟨u170, hinv⟩ := hinv
  obtain ⟨u171, hinv⟩ := hinv
  obtain ⟨u172, hinv⟩ := hinv
  obtain ⟨u173, hinv⟩ := hinv
  obtain ⟨u174, hinv⟩ := hinv
  obtain ⟨u175, hinv⟩ := hinv
  obtain ⟨u176, hinv⟩ := hinv
  obtain ⟨u177, hinv⟩ := hinv
  obtain ⟨u178, hinv⟩ := hinv
  obtain ⟨u179, hinv⟩ := hinv
  obtain ⟨u180, hinv⟩ := hinv
  obtain ⟨u181, hinv⟩ := hinv
  obtain ⟨u182, hinv⟩ := hinv
  obtain ⟨u183, hinv⟩ := hinv
  obtain ⟨u184, hinv⟩ := hinv
  obtain ⟨u185, hinv⟩ := hinv
  obtain ⟨u186, hinv⟩ := hinv
  obtain ⟨u187, hinv⟩ := hinv
  obtain ⟨u188, hinv⟩ := hinv
  obtain ⟨u189, hinv⟩ := hinv
  obtain ⟨u190, hinv⟩ := hinv
  obtain ⟨u191, hinv⟩ := hinv
  obtain ⟨u192, hinv⟩ := hinv
  obtain ⟨u193, hinv⟩ := hinv
  obtain ⟨u194, hinv⟩ := hinv
  obtain ⟨u195, hinv⟩ := hinv
  obtain ⟨u196, hinv⟩ := hinv
  obtain ⟨u197, hinv⟩ := hinv
  obtain ⟨u198, hinv⟩ := hinv
  obtain ⟨u199, hinv⟩ := hinv
  obtain ⟨u200, hinv⟩ := hinv
  obtain ⟨u201, hinv⟩ := hinv
  obtain ⟨u202, hinv⟩ := hinv
  obtain ⟨u203, hinv⟩ := hinv
  obtain ⟨u204, hinv⟩ := hinv
  obtain ⟨u205, hinv⟩ := hinv
  obtain ⟨u206, hinv⟩ := hinv
  obtain ⟨u207, hinv⟩ := hinv
  obtain ⟨u208, hinv⟩ := hinv
  obtain ⟨u209, hinv⟩ := hinv
  obtain ⟨u210, hinv⟩ := hinv
  obtain ⟨u211, hinv⟩ := hinv
  obtain ⟨u212, hinv⟩ := hinv
  obtain ⟨u213, hinv⟩ := hinv
  obtain ⟨u214, hinv⟩ := hinv
  obtain ⟨u215, hinv⟩ := hinv
  obtain ⟨u216, hinv⟩ := hinv
  obtain ⟨u217, hinv⟩ := hinv
  obtain ⟨u218, hinv⟩ := hinv
  obtain ⟨u219, hinv⟩ := hinv
  obtain ⟨u220, hinv⟩ := hinv
  obtain ⟨u221, hinv⟩ := hinv
  obtain ⟨u222, hinv⟩ := hinv
  obtain ⟨u223, hinv⟩ := hinv
  obtain ⟨u224, hinv⟩ := hinv
  obtain ⟨u225, hinv⟩ := hinv
  obtain ⟨u226, hinv⟩ := hinv
  obtain ⟨u227, hinv⟩ := hinv
  obtain ⟨u228, hinv⟩ := hinv
  obtain ⟨⟨hz, hn, hen, hpn⟩, hfr0⟩ := hinv
  subst hfr0
  rw [← hl] at hpn
  rw [← hl]
  have HL := Lib.hid hl; have HSZ := Lib.hid hsz
  clear hl hsz
  have HPN := Lib.hid hpn
  obtain ⟨E, hE⟩ : ∃ E, E = w1.heap.size := ⟨_, rfl⟩
  have hcell : ∀ cs : Array Value, R5 w E (w1.alloc (Obj.cells cs 25)) cs := fun cs => ⟨hz.res.alloc _, by rw [hE]; exact Row.laid _ _ _, by rw [hE]; exact hz.res.lt, hz.below.alloc hz.below.size _⟩
  have HRZ : Hid (R5 w E (w1.alloc (Obj.cells #[.int .i64 ((n : Int) % 8), .int .i64 ((n : Int) / 8), .bool false, .int .i64 0, .string ⟨#[]⟩, .string ⟨#[]⟩, .string ⟨#[]⟩, .string ⟨#[]⟩, .slice none 0 0, .string ⟨#[]⟩] 25)) (EVC ((n % 8 : Nat) : Int) ((n / 8 : Nat) : Int) false 0 [] [] [] [] (.slice none 0 0) [])) := Lib.hid ((hcell _).cells (by simp [EVC]))
  have hlow : w.heap.size < E := by rw [hE]; exact hz.res.lt
  have HE := Lib.hid hE
  obtain ⟨hb, hhb⟩ : ∃ b, b = Lib.hasPrefix (l.drop (en + 3)) dash8 := ⟨_, rfl⟩
  have HBG : Hid (∀ W : World, Calls Tryz.prog 22 #[.string s, .int .i64 ((en : Int) + 3), .string ⟨#[45, 32]⟩] W fun e w' => e = .returned (.bool hb) ∧ W = w') := Lib.hid fun W => by
    have h := begins_c s (en + 3) ⟨#[45, 32]⟩ W (by omega) (by omega) (by decide)
    rw [← HL.out] at h
    rw [hhb]
    exact h
  have HHB := Lib.hid hhb
  have HPC : Hid (s.extract (en + 3) s.size = ⟨(l.drop (en + 3)).toArray⟩) := by
    show _ = _
    rw [piece_from, HL.out]
  clear hhb hz hpn hcell hE
  go_upto_if 90 with (go_at_call 22; refine (HBG.out _).mono ?_; rintro e w2 ⟨rfl, rfl⟩)
  rw [← HE.out]
  generalize (w1.alloc (Obj.cells #[.int .i64 ((n : Int) % 8), .int .i64 ((n : Int) / 8), .bool false, .int .i64 0, .string ⟨#[]⟩, .string ⟨#[]⟩, .string ⟨#[]⟩, .string ⟨#[]⟩, .slice none 0 0, .string ⟨#[]⟩] 25)) = w2 at *
  go_cut [10] (fun s10 wx => ∃ (t : Bool) (a : Int) (p : Nat), s10 = .int .i64 p ∧ p ≤ s.size ∧ -9223372036854775808 ≤ a ∧ a ≤ 9223372036854775807 ∧ Hid (rheadN calD (l.drop (en + 3)) = some (t, a, l.drop p)) ∧ R5 w E wx (EVC ((n % 8 : Nat) : Int) ((n / 8 : Nat) : Int) t a [] [] [] [] (.slice none 0 0) []))
  case first =>
    cases hb with
    | true =>
      have hp5 : en + 3 + 2 ≤ s.size := by
        have := has3 HHB.out.symm
        rw [List.length_drop, HSZ.out] at this
        have h3 : dash8.length = 2 := rfl
        omega
      have HD : Hid (rheadN calD (l.drop (en + 3)) = some (false, 0, l.drop (en + 3 + 2))) := by
        show _ = _
        rw [rheadN, if_pos HHB.out.symm, List.drop_drop]
      go_wp2_with fail
      go_meet
      exact ⟨false, 0, en + 3 + 2, by go_num, hp5, by omega, by omega, HD, HRZ.out⟩
    | false =>
      obtain ⟨sb, hsb⟩ : ∃ sb : ByteArray, sb = ⟨(l.drop (en + 3)).toArray⟩ := ⟨_, rfl⟩
      have hsl : ∀ W : World, (Instr.slice 9 (.string s) (some (.int .i64 ((en : Int) + 3))) none none).run Tryz.prog W = .ok (.string sb) W := fun W => by
        have h := Go.run_slice_string_l (P := Tryz.prog) W 9 s Tryz.underlying9 .i64 ((en : Int) + 3) (by omega) (by omega)
        rw [hsb, ← HPC.out]
        have e : ((en : Int) + 3).toNat = en + 3 := by omega
        rw [e] at h
        exact h
      have HCC : Hid (∀ W : World, Calls Tryz.prog 24 #[.string sb] W (RD (calD (l.drop (en + 3))) W)) := Lib.hid fun W => by
        have h := ref4_c sb W (by rw [hsb]; show (l.drop (en + 3)).length ≤ _; rw [List.length_drop, HSZ.out]; omega)
        rw [hsb] at h ⊢
        rw [calD_cal4]
        exact h
      clear hsb
      cases hcal : calD (l.drop (en + 3)) with
      | none =>
        have HNO : Hid (parseN calD l = none) := by
          show parseN calD l = none
          rw [HPN.out, rhead_none HHB.out.symm hcal]; rfl
        have HCN : Hid (∀ W : World, Calls Tryz.prog 24 #[.string sb] W fun e w' => e = .returned (.tuple #[.agg #[.int .i64 0, .int .i64 0, .int .i64 0, .int .i64 0, .int .i64 0, .int .i64 0, .int .i64 0, .int .i64 0], .string ⟨#[]⟩, .int .i64 3]) ∧ Below W.heap.size W w') := Lib.hid fun W => (HCC.out W).mono fun e w' h => by
          rw [hcal] at h
          exact h.none_out
        clear hcal HCC
        go_wp2_with (go_at_call 24; refine (HCN.out _).mono ?_; rintro e w3 ⟨rfl, b3⟩; have HR3 := Lib.hid ((HRZ.out.lower b3).alloc (Obj.cells #[.int .i64 0, .int .i64 0, .int .i64 0, .int .i64 0, .int .i64 0, .int .i64 0, .int .i64 0, .int .i64 0] 46)); clear b3; have r0 : (w3.alloc (Obj.cells #[.int .i64 0, .int .i64 0, .int .i64 0, .int .i64 0, .int .i64 0, .int .i64 0, .int .i64 0, .int .i64 0] 46)).cell? ⟨w.heap.size, 0, none⟩ = some (.int .i64 0) := HR3.out.res.cell 0; have rf0 := HR3.out.res.frozen 0; have r1 : (w3.alloc (Obj.cells #[.int .i64 0, .int .i64 0, .int .i64 0, .int .i64 0, .int .i64 0, .int .i64 0, .int .i64 0, .int .i64 0] 46)).cell? ⟨w.heap.size, 1, none⟩ = some (.int .i64 0) := HR3.out.res.cell 1; have rf1 := HR3.out.res.frozen 1; have r2 : (w3.alloc (Obj.cells #[.int .i64 0, .int .i64 0, .int .i64 0, .int .i64 0, .int .i64 0, .int .i64 0, .int .i64 0, .int .i64 0] 46)).cell? ⟨w.heap.size, 2, none⟩ = some (.bool false) := HR3.out.res.cell 2; have rf2 := HR3.out.res.frozen 2; have r3 : (w3.alloc (Obj.cells #[.int .i64 0, .int .i64 0, .int .i64 0, .int .i64 0, .int .i64 0, .int .i64 0, .int .i64 0, .int .i64 0] 46)).cell? ⟨w.heap.size, 3, none⟩ = some (.int .i64 0) := HR3.out.res.cell 3; have rf3 := HR3.out.res.frozen 3; have r4 : (w3.alloc (Obj.cells #[.int .i64 0, .int .i64 0, .int .i64 0, .int .i64 0, .int .i64 0, .int .i64 0, .int .i64 0, .int .i64 0] 46)).cell? ⟨w.heap.size, 4, none⟩ = some (.string ⟨#[]⟩) := HR3.out.res.cell 4; have rf4 := HR3.out.res.frozen 4; have r5 : (w3.alloc (Obj.cells #[.int .i64 0, .int .i64 0, .int .i64 0, .int .i64 0, .int .i64 0, .int .i64 0, .int .i64 0, .int .i64 0] 46)).cell? ⟨w.heap.size, 5, none⟩ = some (.string ⟨#[]⟩) := HR3.out.res.cell 5; have rf5 := HR3.out.res.frozen 5; have r6 : (w3.alloc (Obj.cells #[.int .i64 0, .int .i64 0, .int .i64 0, .int .i64 0, .int .i64 0, .int .i64 0, .int .i64 0, .int .i64 0] 46)).cell? ⟨w.heap.size, 6, none⟩ = some (.string ⟨#[]⟩) := HR3.out.res.cell 6; have rf6 := HR3.out.res.frozen 6; have r7 : (w3.alloc (Obj.cells #[.int .i64 0, .int .i64 0, .int .i64 0, .int .i64 0, .int .i64 0, .int .i64 0, .int .i64 0, .int .i64 0] 46)).cell? ⟨w.heap.size, 7, none⟩ = some (.string ⟨#[]⟩) := HR3.out.res.cell 7; have rf7 := HR3.out.res.frozen 7; have r8 : (w3.alloc (Obj.cells #[.int .i64 0, .int .i64 0, .int .i64 0, .int .i64 0, .int .i64 0, .int .i64 0, .int .i64 0, .int .i64 0] 46)).cell? ⟨w.heap.size, 8, none⟩ = some (.slice none 0 0) := HR3.out.res.cell 8; have rf8 := HR3.out.res.frozen 8; have r9 : (w3.alloc (Obj.cells #[.int .i64 0, .int .i64 0, .int .i64 0, .int .i64 0, .int .i64 0, .int .i64 0, .int .i64 0, .int .i64 0] 46)).cell? ⟨w.heap.size, 9, none⟩ = some (.string ⟨#[]⟩) := HR3.out.res.cell 9; have rf9 := HR3.out.res.frozen 9)
        have hR2 := (((((((((((HR3.out.res).put 0 (.int .i64 0)).put 1 (.int .i64 0)).put 2 (.bool false)).put 3 (.int .i64 0)).put 4 (.string ⟨#[]⟩)).put 5 (.string ⟨#[]⟩)).put 6 (.string ⟨#[]⟩)).put 7 (.string ⟨#[]⟩)).put 8 (.slice none 0 0)).put 9 (.string ⟨#[]⟩))
        have hR3 := (show Row _ w.heap.size 25 EVZ from by simpa [EVZ] using hR2)
        clear hR2
        refine bodyPost_ret (results_cell_row_tmp rfl _ _ w.heap.size _ EVZ (0, 0) _ rfl hR3 Tryz.underlying25 rfl evSize) rfl (POST.no HNO.out rfl ?_)
        exact (((((((((((HR3.out.below).setCell (by simp) _).setCell (by simp) _).setCell (by simp) _).setCell (by simp) _).setCell (by simp) _).setCell (by simp) _).setCell (by simp) _).setCell (by simp) _).setCell (by simp) _).setCell (by simp) _)
      | some xr =>
        obtain ⟨x, r⟩ := xr
        have hxo : x.ok = true := (calD_ok _ _ _ hcal).1
        obtain ⟨j, hj⟩ := cal4_suffix (by rw [← calD_cal4]; exact hcal)
        rw [List.drop_drop] at hj
        obtain ⟨y, m, d, hh, mi, ss, nn, z⟩ := x
        obtain ⟨rb, hrb⟩ : ∃ rb : ByteArray, rb = ⟨r.toArray⟩ := ⟨_, rfl⟩
        have hrs : rb.size = r.length := by rw [hrb]; rfl
        have hrl : r.length ≤ s.size := by rw [hj, List.length_drop, HSZ.out]; omega
        have HCY : Hid (∀ W : World, Calls Tryz.prog 24 #[.string sb] W fun e w' => e = .returned (.tuple #[.agg #[.int .i64 y, .int .i64 m, .int .i64 d, .int .i64 hh, .int .i64 mi, .int .i64 ss, .int .i64 nn, .int .i64 z], .string rb, .int .i64 0]) ∧ Below W.heap.size W w') := Lib.hid fun W => (HCC.out W).mono fun e w' h => by
          rw [hcal] at h
          rw [hrb]
          exact h.date_out
        have HD1 : Hid (rheadN calD (l.drop (en + 3)) = if Lib.hasPrefix r blank8 then some (true, nanosI y m d hh mi ss nn z, r.drop 1) else none) := by
          have h := rhead_some HHB.out.symm hcal
          exact h
        obtain ⟨NN, hNN⟩ : ∃ NN, NN = nanosI y m d hh mi ss nn z := ⟨_, rfl⟩
        have hxo' : rightB y m d hh mi ss nn z = true := hxo
        have HNA : Hid (∀ W : World, Calls Tryz.prog 25 #[.agg #[.int .i64 y, .int .i64 m, .int .i64 d, .int .i64 hh, .int .i64 mi, .int .i64 ss, .int .i64 nn, .int .i64 z]] W fun e w' => e = .returned (.tuple #[.int .i64 NN, .int .i64 0]) ∧ Below W.heap.size W w') := Lib.hid fun W => by
          have h := rnanos_any y m d hh mi ss nn z W
          have e1 : nanosN y m d hh mi ss nn z = NN := by rw [nanosN, if_pos hxo', hNN]
          have e2 : nanosE y m d hh mi ss nn z = 0 := by rw [nanosE, if_pos hxo']
          rw [e1, e2] at h
          exact h
        have hnb := nanos_bd hxo'
        rw [← hNN] at hnb HD1
        obtain ⟨hnb1, hnb2⟩ := hnb
        have HRB := Lib.hid hrb; have HJ := Lib.hid hj
        clear hcal HCC hNN hxo hxo' hrb
        by_cases hr1 : rb.size < 1
        · have HNO : Hid (parseN calD l = none) := by
            show parseN calD l = none
            have : r = [] := List.eq_nil_of_length_eq_zero (by omega)
            rw [HPN.out, HD1.out, this]; rfl
          have hd1 : decide ((rb.size : Int) < 1) = true := decide_eq_true (by omega)
          clear hj
          go_wp2_with (go_at_call 24; refine (HCY.out _).mono ?_; rintro e w3 ⟨rfl, b3⟩; have HR3 := Lib.hid ((HRZ.out.lower b3).alloc (Obj.cells #[.int .i64 y, .int .i64 m, .int .i64 d, .int .i64 hh, .int .i64 mi, .int .i64 ss, .int .i64 nn, .int .i64 z] 46)); clear b3; have r0 : (w3.alloc (Obj.cells #[.int .i64 y, .int .i64 m, .int .i64 d, .int .i64 hh, .int .i64 mi, .int .i64 ss, .int .i64 nn, .int .i64 z] 46)).cell? ⟨w.heap.size, 0, none⟩ = some (.int .i64 0) := HR3.out.res.cell 0; have rf0 := HR3.out.res.frozen 0; have r1 : (w3.alloc (Obj.cells #[.int .i64 y, .int .i64 m, .int .i64 d, .int .i64 hh, .int .i64 mi, .int .i64 ss, .int .i64 nn, .int .i64 z] 46)).cell? ⟨w.heap.size, 1, none⟩ = some (.int .i64 0) := HR3.out.res.cell 1; have rf1 := HR3.out.res.frozen 1; have r2 : (w3.alloc (Obj.cells #[.int .i64 y, .int .i64 m, .int .i64 d, .int .i64 hh, .int .i64 mi, .int .i64 ss, .int .i64 nn, .int .i64 z] 46)).cell? ⟨w.heap.size, 2, none⟩ = some (.bool false) := HR3.out.res.cell 2; have rf2 := HR3.out.res.frozen 2; have r3 : (w3.alloc (Obj.cells #[.int .i64 y, .int .i64 m, .int .i64 d, .int .i64 hh, .int .i64 mi, .int .i64 ss, .int .i64 nn, .int .i64 z] 46)).cell? ⟨w.heap.size, 3, none⟩ = some (.int .i64 0) := HR3.out.res.cell 3; have rf3 := HR3.out.res.frozen 3; have r4 : (w3.alloc (Obj.cells #[.int .i64 y, .int .i64 m, .int .i64 d, .int .i64 hh, .int .i64 mi, .int .i64 ss, .int .i64 nn, .int .i64 z] 46)).cell? ⟨w.heap.size, 4, none⟩ = some (.string ⟨#[]⟩) := HR3.out.res.cell 4; have rf4 := HR3.out.res.frozen 4; have r5 : (w3.alloc (Obj.cells #[.int .i64 y, .int .i64 m, .int .i64 d, .int .i64 hh, .int .i64 mi, .int .i64 ss, .int .i64 nn, .int .i64 z] 46)).cell? ⟨w.heap.size, 5, none⟩ = some (.string ⟨#[]⟩) := HR3.out.res.cell 5; have rf5 := HR3.out.res.frozen 5; have r6 : (w3.alloc (Obj.cells #[.int .i64 y, .int .i64 m, .int .i64 d, .int .i64 hh, .int .i64 mi, .int .i64 ss, .int .i64 nn, .int .i64 z] 46)).cell? ⟨w.heap.size, 6, none⟩ = some (.string ⟨#[]⟩) := HR3.out.res.cell 6; have rf6 := HR3.out.res.frozen 6; have r7 : (w3.alloc (Obj.cells #[.int .i64 y, .int .i64 m, .int .i64 d, .int .i64 hh, .int .i64 mi, .int .i64 ss, .int .i64 nn, .int .i64 z] 46)).cell? ⟨w.heap.size, 7, none⟩ = some (.string ⟨#[]⟩) := HR3.out.res.cell 7; have rf7 := HR3.out.res.frozen 7; have r8 : (w3.alloc (Obj.cells #[.int .i64 y, .int .i64 m, .int .i64 d, .int .i64 hh, .int .i64 mi, .int .i64 ss, .int .i64 nn, .int .i64 z] 46)).cell? ⟨w.heap.size, 8, none⟩ = some (.slice none 0 0) := HR3.out.res.cell 8; have rf8 := HR3.out.res.frozen 8; have r9 : (w3.alloc (Obj.cells #[.int .i64 y, .int .i64 m, .int .i64 d, .int .i64 hh, .int .i64 mi, .int .i64 ss, .int .i64 nn, .int .i64 z] 46)).cell? ⟨w.heap.size, 9, none⟩ = some (.string ⟨#[]⟩) := HR3.out.res.cell 9; have rf9 := HR3.out.res.frozen 9)
          have hR2 := (((((((((((HR3.out.res).put 0 (.int .i64 0)).put 1 (.int .i64 0)).put 2 (.bool false)).put 3 (.int .i64 0)).put 4 (.string ⟨#[]⟩)).put 5 (.string ⟨#[]⟩)).put 6 (.string ⟨#[]⟩)).put 7 (.string ⟨#[]⟩)).put 8 (.slice none 0 0)).put 9 (.string ⟨#[]⟩))
          have hR3 := (show Row _ w.heap.size 25 EVZ from by simpa [EVZ] using hR2)
          clear hR2
          refine bodyPost_ret (results_cell_row_tmp rfl _ _ w.heap.size _ EVZ (0, 0) _ rfl hR3 Tryz.underlying25 rfl evSize) rfl (POST.no HNO.out rfl ?_)
          exact (((((((((((HR3.out.below).setCell (by simp) _).setCell (by simp) _).setCell (by simp) _).setCell (by simp) _).setCell (by simp) _).setCell (by simp) _).setCell (by simp) _).setCell (by simp) _).setCell (by simp) _).setCell (by simp) _)
        · have hd1 : decide ((rb.size : Int) < 1) = false := decide_eq_false (by omega)
          have hr0 : 0 < rb.size := by omega
          obtain ⟨c, r', hrc⟩ : ∃ c r', r = c :: r' := by
            cases r with
            | nil => exact absurd (show rb.size = 0 from hrs) (by omega)
            | cons c r' => exact ⟨c, r', rfl⟩
          have hget : rb[0]'hr0 = c := by
            have h1 : rb.data.toList = c :: r' := by rw [HRB.out, ← hrc]
            have : rb.data.toList[0]'(by rw [h1]; simp) = c := by simp [h1]
            exact this
          have hpx : Lib.hasPrefix r blank8 = (c == 32) := by
            rw [hrc]
            exact (has1 32 r' c).trans (Bool.beq_comm ..)
          have e32 := byte_eq (rb[0]'hr0) 32 (by decide)
          rw [hget] at e32
          rw [hpx] at HD1
          have HG := Lib.hid hget
          have hl1 : r'.length + 1 = r.length := by rw [hrc]; rfl
          have hdr : r.drop 1 = l.drop (s.size - rb.size + 1) := by
            have hlen : r.length = s.size - (en + 3 + j) := by
              have h := congrArg List.length HJ.out
              rw [List.length_drop, HSZ.out] at h
              exact h
            have hidx : en + 3 + j + 1 = s.size - rb.size + 1 := by omega
            rw [HJ.out, List.drop_drop, hidx]
          have HDR := Lib.hid hdr
          clear hrc hget hpx hdr hj
          cases h32 : (c == 32) with
          | false =>
            have HNO : Hid (parseN calD l = none) := by
              show parseN calD l = none
              rw [HPN.out, HD1.out, h32]; rfl
            have e1 : (((rb[0]'hr0).toNat : Int) == 32) = false := by rw [HG.out]; exact e32.trans h32
            have e2 : (((rb[0]'hr0).toNat : Int) != 32) = true := by rw [bne, e1]; rfl
            clear e32 h32
            go_wp2_with (go_at_call 24; refine (HCY.out _).mono ?_; rintro e w3 ⟨rfl, b3⟩; have HR3 := Lib.hid ((HRZ.out.lower b3).alloc (Obj.cells #[.int .i64 y, .int .i64 m, .int .i64 d, .int .i64 hh, .int .i64 mi, .int .i64 ss, .int .i64 nn, .int .i64 z] 46)); clear b3; have r0 : (w3.alloc (Obj.cells #[.int .i64 y, .int .i64 m, .int .i64 d, .int .i64 hh, .int .i64 mi, .int .i64 ss, .int .i64 nn, .int .i64 z] 46)).cell? ⟨w.heap.size, 0, none⟩ = some (.int .i64 0) := HR3.out.res.cell 0; have rf0 := HR3.out.res.frozen 0; have r1 : (w3.alloc (Obj.cells #[.int .i64 y, .int .i64 m, .int .i64 d, .int .i64 hh, .int .i64 mi, .int .i64 ss, .int .i64 nn, .int .i64 z] 46)).cell? ⟨w.heap.size, 1, none⟩ = some (.int .i64 0) := HR3.out.res.cell 1; have rf1 := HR3.out.res.frozen 1; have r2 : (w3.alloc (Obj.cells #[.int .i64 y, .int .i64 m, .int .i64 d, .int .i64 hh, .int .i64 mi, .int .i64 ss, .int .i64 nn, .int .i64 z] 46)).cell? ⟨w.heap.size, 2, none⟩ = some (.bool false) := HR3.out.res.cell 2; have rf2 := HR3.out.res.frozen 2; have r3 : (w3.alloc (Obj.cells #[.int .i64 y, .int .i64 m, .int .i64 d, .int .i64 hh, .int .i64 mi, .int .i64 ss, .int .i64 nn, .int .i64 z] 46)).cell? ⟨w.heap.size, 3, none⟩ = some (.int .i64 0) := HR3.out.res.cell 3; have rf3 := HR3.out.res.frozen 3; have r4 : (w3.alloc (Obj.cells #[.int .i64 y, .int .i64 m, .int .i64 d, .int .i64 hh, .int .i64 mi, .int .i64 ss, .int .i64 nn, .int .i64 z] 46)).cell? ⟨w.heap.size, 4, none⟩ = some (.string ⟨#[]⟩) := HR3.out.res.cell 4; have rf4 := HR3.out.res.frozen 4; have r5 : (w3.alloc (Obj.cells #[.int .i64 y, .int .i64 m, .int .i64 d, .int .i64 hh, .int .i64 mi, .int .i64 ss, .int .i64 nn, .int .i64 z] 46)).cell? ⟨w.heap.size, 5, none⟩ = some (.string ⟨#[]⟩) := HR3.out.res.cell 5; have rf5 := HR3.out.res.frozen 5; have r6 : (w3.alloc (Obj.cells #[.int .i64 y, .int .i64 m, .int .i64 d, .int .i64 hh, .int .i64 mi, .int .i64 ss, .int .i64 nn, .int .i64 z] 46)).cell? ⟨w.heap.size, 6, none⟩ = some (.string ⟨#[]⟩) := HR3.out.res.cell 6; have rf6 := HR3.out.res.frozen 6; have r7 : (w3.alloc (Obj.cells #[.int .i64 y, .int .i64 m, .int .i64 d, .int .i64 hh, .int .i64 mi, .int .i64 ss, .int .i64 nn, .int .i64 z] 46)).cell? ⟨w.heap.size, 7, none⟩ = some (.string ⟨#[]⟩) := HR3.out.res.cell 7; have rf7 := HR3.out.res.frozen 7; have r8 : (w3.alloc (Obj.cells #[.int .i64 y, .int .i64 m, .int .i64 d, .int .i64 hh, .int .i64 mi, .int .i64 ss, .int .i64 nn, .int .i64 z] 46)).cell? ⟨w.heap.size, 8, none⟩ = some (.slice none 0 0) := HR3.out.res.cell 8; have rf8 := HR3.out.res.frozen 8; have r9 : (w3.alloc (Obj.cells #[.int .i64 y, .int .i64 m, .int .i64 d, .int .i64 hh, .int .i64 mi, .int .i64 ss, .int .i64 nn, .int .i64 z] 46)).cell? ⟨w.heap.size, 9, none⟩ = some (.string ⟨#[]⟩) := HR3.out.res.cell 9; have rf9 := HR3.out.res.frozen 9)
            have hR2 := (((((((((((HR3.out.res).put 0 (.int .i64 0)).put 1 (.int .i64 0)).put 2 (.bool false)).put 3 (.int .i64 0)).put 4 (.string ⟨#[]⟩)).put 5 (.string ⟨#[]⟩)).put 6 (.string ⟨#[]⟩)).put 7 (.string ⟨#[]⟩)).put 8 (.slice none 0 0)).put 9 (.string ⟨#[]⟩))
            have hR3 := (show Row _ w.heap.size 25 EVZ from by simpa [EVZ] using hR2)
            clear hR2
            refine bodyPost_ret (results_cell_row_tmp rfl _ _ w.heap.size _ EVZ (0, 0) _ rfl hR3 Tryz.underlying25 rfl evSize) rfl (POST.no HNO.out rfl ?_)
            exact (((((((((((HR3.out.below).setCell (by simp) _).setCell (by simp) _).setCell (by simp) _).setCell (by simp) _).setCell (by simp) _).setCell (by simp) _).setCell (by simp) _).setCell (by simp) _).setCell (by simp) _).setCell (by simp) _)
          | true =>
            have HD2 : Hid (rheadN calD (l.drop (en + 3)) = some (true, NN, l.drop (s.size - rb.size + 1))) := by
              show _ = _
              rw [HD1.out, h32, if_pos rfl, HDR.out]
            have e1 : (((rb[0]'hr0).toNat : Int) == 32) = true := by rw [HG.out]; exact e32.trans h32
            have e2 : (((rb[0]'hr0).toNat : Int) != 32) = false := by rw [bne, e1]; rfl
            clear e32 h32 HD1 HDR
            go_wp2_with (first
              | (go_at_call 24; refine (HCY.out _).mono ?_; rintro e w3 ⟨rfl, b3⟩; have HR3 := Lib.hid ((HRZ.out.lower b3).alloc (Obj.cells #[.int .i64 y, .int .i64 m, .int .i64 d, .int .i64 hh, .int .i64 mi, .int .i64 ss, .int .i64 nn, .int .i64 z] 46)); have HR3b := Lib.hid (((HRZ.out.lower b3).put 2 (.bool true)).alloc (Obj.cells #[.int .i64 y, .int .i64 m, .int .i64 d, .int .i64 hh, .int .i64 mi, .int .i64 ss, .int .i64 nn, .int .i64 z] 46)); have hEw3 := (HRZ.out.lower b3).ev.lt; clear b3; have c2 : (w3.alloc (Obj.cells #[.int .i64 y, .int .i64 m, .int .i64 d, .int .i64 hh, .int .i64 mi, .int .i64 ss, .int .i64 nn, .int .i64 z] 46)).cell? ⟨E, 2, none⟩ = some (.bool false) := HR3.out.ev.cell 2; have f2 := HR3.out.ev.frozen 2)
              | (go_at_call 25; clear c2 f2; refine (HNA.out _).mono ?_; rintro e w4 ⟨rfl, b4⟩; have HR5 := Lib.hid (HR3b.out.lower b4); clear b4; have c3 : w4.cell? ⟨E, 3, none⟩ = some (.int .i64 0) := HR5.out.ev.cell 3; have f3 := HR5.out.ev.frozen 3))
            go_meet
            refine ⟨true, NN, s.size - rb.size + 1, ?_, by omega, by omega, by omega, HD2, (HR5.out.put 3 (.int .i64 NN)).cells (by simp [EVC])⟩
            have : ((s.size - rb.size + 1 : Nat) : Int) = (s.size : Int) - (rb.size : Int) + 1 := by omega
            rw [this, hrs]
  case rest =>
  obtain ⟨t, a, p, rfl, hp, a0, a1, hd, hr⟩ := hcut
  apply_assumption
  rw [HL.out]
  refine stageC5 s w hs _ _ ?_
  unfold JC5
  refine ⟨E, n, t, a, p, ?_⟩
  repeat apply Exists.intro
  rw [← HL.out]
  exact ⟨⟨hr, a0, a1, hp, by rw [HPN.out, hd.out, rrest_at]⟩, rfl⟩
end Go.Proofs.YtdkfgobbpadmgaaGreatDoor
