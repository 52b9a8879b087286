/- Package tabularyref04: Parse behind the nanoseconds. -/
import Derived.Test.YtdkfgobbpadmgaaGreatDoorRef4Num
import Derived.Test.YtdkfgobbpadmgaaGreatDoorRef04
import Derived.Test.YtdkfgobbpadmgaaGreatDoorCalLabels
set_option linter.unusedVariables false
set_option linter.unusedSimpArgs false
namespace Go.Proofs.YtdkfgobbpadmgaaGreatDoor
open Go.RowKit
/-- what the document's Parse of dates answers -/
def RD (q : Option (D8 × List UInt8)) (w : World) (e : Ending) (w' : World) : Prop :=
  Below w.heap.size w w' ∧ match q with
  | none => e = .returned (.tuple #[.agg DATZ, .string ⟨#[]⟩, .int .i64 3])
  | some (x, r) => e = .returned (.tuple #[x.v, txt r, .int .i64 0])
theorem RD.no {q : Option (D8 × List UInt8)} {w w' : World} {e : Ending} (h : q = none) (he : e = .returned (.tuple #[.agg DATZ, .string ⟨#[]⟩, .int .i64 3])) (hb : Below w.heap.size w w') : RD q w e w' := by subst h; exact ⟨hb, he⟩
theorem RD.yes {q : Option (D8 × List UInt8)} {x : D8} {r : List UInt8} {w w' : World} {e : Ending} (h : q = some (x, r)) (he : e = .returned (.tuple #[x.v, txt r, .int .i64 0])) (hb : Below w.heap.size w w') : RD q w e w' := by subst h; exact ⟨hb, he⟩
theorem numI_drop (l : List UInt8) (q p k : Nat) (hk : 1 ≤ k) : numI (l.drop q) p k = numI l (q + p) k := by
  unfold numI
  rw [List.drop_drop]
  by_cases h : q + p + k ≤ l.length ∧ ((l.drop (q + p)).take k).all isDig = true
  · rw [if_pos h, if_pos ⟨by rw [List.length_drop]; omega, h.2⟩]
  · rw [if_neg h, if_neg]
    rintro ⟨h1, h2⟩
    rw [List.length_drop] at h1
    exact h ⟨by omega, h2⟩
theorem isAt_drop (l : List UInt8) (q p : Nat) (c : UInt8) : isAt (l.drop q) p c = isAt l (q + p) c := by unfold isAt; rw [List.drop_drop]
theorem numI_one {l : List UInt8} {p : Nat} (h : p < l.length) (hd : isDig l[p] = true) : numI l p 1 = (l[p].toNat : Int) - 48 ∧ l.drop p = l[p] :: l.drop (p + 1) := by
  have e := List.drop_eq_getElem_cons h
  refine ⟨?_, e⟩
  have e1 : (l.drop p).take 1 = [l[p]] := by rw [e]; rfl
  rw [numI, e1, if_pos ⟨by omega, by simp [hd]⟩]
  simp [numN]
theorem numI_none {l : List UInt8} {p : Nat} (h : numI l p 1 < 0) (n : Int) (f : Nat) : fracN f n (l.drop p) = (n, l.drop p) := by
  cases f with
  | zero => rfl
  | succ f =>
    rcases Nat.lt_or_ge p l.length with hp | hp
    · have e := List.drop_eq_getElem_cons hp
      have hd : isDig l[p] = false := by
        cases hd : isDig l[p] with
        | false => rfl
        | true =>
          have h1 := (numI_one hp hd).1
          have := of_decide_eq_true hd
          omega
      rw [e, fracN, if_neg (by rw [hd]; simp)]
    · rw [List.drop_eq_nil_of_le hp]; rfl
theorem numI_dig {l : List UInt8} {p : Nat} (h : ¬ numI l p 1 < 0) : ∃ hp : p < l.length, isDig l[p] = true := by
  obtain ⟨h1, h2⟩ := numI_cond (l := l) (p := p) (k := 1) (by omega) (by omega)
  have hp : p < l.length := by omega
  refine ⟨hp, ?_⟩
  have e1 : (l.drop p).take 1 = [l[p]] := by rw [List.drop_eq_getElem_cons hp]; rfl
  rw [e1] at h2
  simpa using h2
theorem pow_step (k : Nat) (hk : k ≤ 5) : (10 : Int) ^ (8 - k) = 10 * 10 ^ (8 - (k + 1)) ∧ (100 : Int) ≤ 10 ^ (8 - (k + 1)) ∧ (10 : Int) ^ (8 - (k + 1)) ≤ 10000000 := by
  match k, hk with
  | 0, _ => decide
  | 1, _ => decide
  | 2, _ => decide
  | 3, _ => decide
  | 4, _ => decide
  | 5, _ => decide
set_option maxRecDepth 1000000 in
@[irreducible] def JB4 (s : ByteArray) (w : World) (a' : Act) (w' : World) : Prop :=
  ∃ (y m d h mi ss : Int), ∃ u1 u3 u4 u6 u7 u8 u9 u10 u11 u12 u13 u14 u15 u16 u17 u18 u19 u20 u21 u22 u23 u24 u25 u26 u27 u28 u29 u30 u31 u32 u33 u34 u35 u36 u37 u38 u39 u40 u41 u42 u43 u44 u45 u46 u47 u48 u49 u50 u51 u52 u53 u54 u55 u56 u57 u58 u59 u60 u61 u62 u63 u64 u65 u66 u67 u68 u69 u70 u71 u72 u73 u74 u75 u76 u77 u78 u79 u80 u81 u82 u83 u84 u85 u86 u87 u88 u89 u90 u91 u92 u93 u94 u95 u96 u97 u98 u99 u100 u101 u102 u103 u104 u105 u106 u107 u108 u109 u110 u111 u112 u113 u114 u115 u116 u117 u118 u119 u120 u121 u122 u123 u124 u125 u126 u127 u128 u129 u130 u131 u132 u133 u134 u135 u136 u137 u138 u139 u140 u141 u142 u143 u144 u145 u146 u147 u148 u149 u150 u151 u152 u153 u154 u155 : Value, (Row w' w.heap.size 46 DATZ ∧ Row w' (w.heap.size + 1) 46 (DC y m d h mi ss 0 0) ∧ Below w.heap.size w w' ∧ (∀ n z, date4 s.data.toList n z = ⟨y, m, d, h, mi, ss, n, z⟩) ∧ marks4 s.data.toList = true) ∧ a' = { tmps := #[.string s, u1, .pointer (some ⟨w.heap.size, 0, none⟩), u3, u4, .pointer (some ⟨w.heap.size + 1, 0, none⟩), u6, u7, u8, u9, u10, u11, u12, u13, u14, u15, u16, u17, u18, u19, u20, u21, u22, u23, u24, u25, u26, u27, u28, u29, u30, u31, u32, u33, u34, u35, u36, u37, u38, u39, u40, u41, u42, u43, u44, u45, u46, u47, u48, u49, u50, u51, u52, u53, u54, u55, u56, u57, u58, u59, u60, u61, u62, u63, u64, u65, u66, u67, u68, u69, u70, u71, u72, u73, u74, u75, u76, u77, u78, u79, u80, u81, u82, u83, u84, u85, u86, u87, u88, u89, u90, u91, u92, u93, u94, u95, u96, u97, u98, u99, u100, u101, u102, u103, u104, u105, u106, u107, u108, u109, u110, u111, u112, u113, u114, u115, u116, u117, u118, u119, u120, u121, u122, u123, u124, u125, u126, u127, u128, u129, u130, u131, u132, u133, u134, u135, u136, u137, u138, u139, u140, u141, u142, u143, u144, u145, u146, u147, u148, u149, u150, u151, u152, u153, u154, u155], defers := [] }
set_option maxRecDepth 1000000 in
@[irreducible] def JC4 (s : ByteArray) (w : World) (a' : Act) (w' : World) : Prop :=
  ∃ (y m d h mi ss : Int) (n : Int) (p : Nat), ∃ u1 u3 u4 u6 u8 u9 u10 u11 u12 u13 u14 u15 u16 u17 u18 u19 u20 u21 u22 u23 u24 u25 u26 u27 u28 u29 u30 u31 u32 u33 u34 u35 u36 u37 u38 u39 u40 u41 u42 u43 u44 u45 u46 u47 u48 u49 u50 u51 u52 u53 u54 u55 u56 u57 u58 u59 u60 u61 u62 u63 u64 u65 u66 u67 u68 u69 u70 u71 u72 u73 u74 u75 u76 u77 u78 u79 u80 u81 u82 u83 u84 u85 u86 u87 u88 u89 u90 u91 u92 u93 u94 u95 u96 u97 u98 u99 u100 u101 u102 u103 u104 u105 u106 u107 u108 u109 u110 u111 u112 u113 u114 u115 u116 u117 u118 u119 u120 u121 u122 u123 u124 u125 u126 u127 u128 u129 u130 u131 u132 u133 u134 u135 u136 u137 u138 u139 u140 u141 u142 u143 u144 u145 u146 u147 u148 u149 u150 u151 u152 u153 u154 u155 : Value, (Row w' w.heap.size 46 DATZ ∧ Row w' (w.heap.size + 1) 46 (DC y m d h mi ss n 0) ∧ Below w.heap.size w w' ∧ (∀ n z, date4 s.data.toList n z = ⟨y, m, d, h, mi, ss, n, z⟩) ∧ p ≤ 4194323 ∧ marks4 s.data.toList = true ∧ frac4 (s.data.toList.drop 19) = some (n, s.data.toList.drop p)) ∧ a' = { tmps := #[.string s, u1, .pointer (some ⟨w.heap.size, 0, none⟩), u3, u4, .pointer (some ⟨w.heap.size + 1, 0, none⟩), u6, .int .i64 p, u8, u9, u10, u11, u12, u13, u14, u15, u16, u17, u18, u19, u20, u21, u22, u23, u24, u25, u26, u27, u28, u29, u30, u31, u32, u33, u34, u35, u36, u37, u38, u39, u40, u41, u42, u43, u44, u45, u46, u47, u48, u49, u50, u51, u52, u53, u54, u55, u56, u57, u58, u59, u60, u61, u62, u63, u64, u65, u66, u67, u68, u69, u70, u71, u72, u73, u74, u75, u76, u77, u78, u79, u80, u81, u82, u83, u84, u85, u86, u87, u88, u89, u90, u91, u92, u93, u94, u95, u96, u97, u98, u99, u100, u101, u102, u103, u104, u105, u106, u107, u108, u109, u110, u111, u112, u113, u114, u115, u116, u117, u118, u119, u120, u121, u122, u123, u124, u125, u126, u127, u128, u129, u130, u131, u132, u133, u134, u135, u136, u137, u138, u139, u140, u141, u142, u143, u144, u145, u146, u147, u148, u149, u150, u151, u152, u153, u154, u155], defers := [] }
set_option maxRecDepth 1000000 in
@[irreducible] def JD4 (s : ByteArray) (w : World) (a' : Act) (w' : World) : Prop :=
  ∃ (y m d h mi ss : Int) (n z : Int) (p : Nat), ∃ u1 u3 u4 u6 u8 u9 u10 u11 u12 u13 u14 u15 u16 u17 u18 u19 u20 u21 u22 u23 u24 u25 u26 u27 u28 u29 u30 u31 u32 u33 u34 u35 u36 u37 u38 u39 u40 u41 u42 u43 u44 u45 u46 u47 u48 u49 u50 u51 u52 u53 u54 u55 u56 u57 u58 u59 u60 u61 u62 u63 u64 u65 u66 u67 u68 u69 u70 u71 u72 u73 u74 u75 u76 u77 u78 u79 u80 u81 u82 u83 u84 u85 u86 u87 u88 u89 u90 u91 u92 u93 u94 u95 u96 u97 u98 u99 u100 u101 u102 u103 u104 u105 u106 u107 u108 u109 u110 u111 u112 u113 u114 u115 u116 u117 u118 u119 u120 u121 u122 u123 u124 u125 u126 u127 u128 u129 u130 u131 u132 u133 u134 u135 u136 u137 u138 u139 u140 u141 u142 u143 u144 u145 u146 u147 u148 u149 u150 u151 u152 u153 u154 u155 : Value, (Row w' w.heap.size 46 DATZ ∧ Row w' (w.heap.size + 1) 46 (DC y m d h mi ss n z) ∧ Below w.heap.size w w' ∧ (∀ n z, date4 s.data.toList n z = ⟨y, m, d, h, mi, ss, n, z⟩) ∧ p ≤ s.size ∧ cal4 s.data.toList = endD ⟨y, m, d, h, mi, ss, n, z⟩ (s.data.toList.drop p) true) ∧ a' = { tmps := #[.string s, u1, .pointer (some ⟨w.heap.size, 0, none⟩), u3, u4, .pointer (some ⟨w.heap.size + 1, 0, none⟩), u6, .int .i64 p, u8, u9, u10, u11, u12, u13, u14, u15, u16, u17, u18, u19, u20, u21, u22, u23, u24, u25, u26, u27, u28, u29, u30, u31, u32, u33, u34, u35, u36, u37, u38, u39, u40, u41, u42, u43, u44, u45, u46, u47, u48, u49, u50, u51, u52, u53, u54, u55, u56, u57, u58, u59, u60, u61, u62, u63, u64, u65, u66, u67, u68, u69, u70, u71, u72, u73, u74, u75, u76, u77, u78, u79, u80, u81, u82, u83, u84, u85, u86, u87, u88, u89, u90, u91, u92, u93, u94, u95, u96, u97, u98, u99, u100, u101, u102, u103, u104, u105, u106, u107, u108, u109, u110, u111, u112, u113, u114, u115, u116, u117, u118, u119, u120, u121, u122, u123, u124, u125, u126, u127, u128, u129, u130, u131, u132, u133, u134, u135, u136, u137, u138, u139, u140, u141, u142, u143, u144, u145, u146, u147, u148, u149, u150, u151, u152, u153, u154, u155], defers := [] }
set_option maxHeartbeats 8000000 in
set_option maxRecDepth 100000 in
theorem stageD4 (s : ByteArray) (w : World) (hs : s.size ≤ 4194304) : ∀ a wx, JD4 s w a wx → (restOf 9 (Tryz.f24.body.getD .ret)).wp Tryz.prog (bodyPost Tryz.prog Tryz.f24 (RD (cal4 s.data.toList) w)) a wx := by
  obtain ⟨l, hl⟩ : ∃ l, l = s.data.toList := ⟨_, rfl⟩
  have hsz : l.length = s.size := by rw [hl]; rfl
  have HNUM : Hid (∀ (p k : Nat) (W : World), p ≤ 8388608 → 1 ≤ k → k ≤ 4 → Calls Tryz.prog 52 #[.string s, .int .i64 p, .int .i64 k] W fun e w' => e = .returned (.int .i64 (numI l p k)) ∧ W = w') := Lib.hid fun p k W hp hk hk4 => by
    rw [hl]
    exact num_c s p k W (by omega) (by omega) hk hk4
  have HIS : Hid (∀ (p : Nat) (c : UInt8) (W : World), p ≤ 8388608 → Calls Tryz.prog 53 #[.string s, .int .i64 p, .int .u8 c.toNat] W fun e w' => e = .returned (.bool (isAt l p c)) ∧ W = w') := Lib.hid fun p c W hp => by
    rw [hl]
    exact is_c s p c W (by omega) (by omega)
  refine at_rest rfl ?_
  intro a' w1 hinv
  unfold JD4 at hinv
  obtain ⟨y, m, d, h, mi, ss, n, z, p2, hinv⟩ := hinv
  obtain ⟨u1, hinv⟩ := hinv
  obtain ⟨u3, hinv⟩ := hinv
  obtain ⟨u4, hinv⟩ := hinv
  obtain ⟨u6, hinv⟩ := hinv
  obtain ⟨u8, hinv⟩ := hinv
  obtain ⟨u9, hinv⟩ := hinv
  obtain ⟨u10, hinv⟩ := hinv
  obtain ⟨u11, hinv⟩ := hinv
  obtain ⟨u12, hinv⟩ := hinv
  obtain ⟨u13, hinv⟩ := hinv
  obtain ⟨u14, hinv⟩ := hinv
  obtain ⟨u15, hinv⟩ := hinv
  obtain ⟨u16, hinv⟩ := hinv
  obtain ⟨u17, hinv⟩ := hinv
  obtain ⟨u18, hinv⟩ := hinv
  obtain ⟨u19, hinv⟩ := hinv
  obtain ⟨u20, hinv⟩ := hinv
  obtain ⟨u21, hinv⟩ := hinv
  obtain ⟨u22, hinv⟩ := hinv
  obtain ⟨u23, hinv⟩ := hinv
  obtain ⟨u24, hinv⟩ := hinv
  obtain ⟨u25, hinv⟩ := hinv
  obtain ⟨u26, hinv⟩ := hinv
  obtain ⟨u27, hinv⟩ := hinv
  obtain ⟨u28, hinv⟩ := hinv
  obtain ⟨u29, hinv⟩ := hinv
  obtain ⟨u30, hinv⟩ := hinv
  obtain ⟨u31, hinv⟩ := hinv
  obtain ⟨u32, hinv⟩ := hinv
  obtain ⟨u33, hinv⟩ := hinv
  obtain ⟨u34, hinv⟩ := hinv
  obtain ⟨u35, hinv⟩ := hinv
  obtain ⟨u36, hinv⟩ := hinv
  obtain ⟨u37, hinv⟩ := hinv
  obtain ⟨u38, hinv⟩ := hinv
  obtain ⟨u39, hinv⟩ := hinv
  obtain ⟨u40, hinv⟩ := hinv
  obtain ⟨u41, hinv⟩ := hinv
  obtain ⟨u42, hinv⟩ := hinv
  obtain ⟨u43, hinv⟩ := hinv
  obtain ⟨u44, hinv⟩ := hinv
  obtain ⟨u45, hinv⟩ := hinv
  obtain ⟨u46, hinv⟩ := hinv
  obtain ⟨u47, hinv⟩ := hinv
  obtain ⟨u48, hinv⟩ := hinv
  obtain ⟨u49, hinv⟩ := hinv
  obtain ⟨u50, hinv⟩ := hinv
  obtain ⟨u51, hinv⟩ := hinv
  obtain ⟨u52, hinv⟩ := hinv
  obtain ⟨u53, hinv⟩ := hinv
  obtain ⟨u54, hinv⟩ := hinv
  obtain ⟨u55, hinv⟩ := hinv
  obtain ⟨u56, hinv⟩ := hinv
  obtain ⟨u57, hinv⟩ := hinv
  obtain ⟨u58, hinv⟩ := hinv
  obtain ⟨u59, hinv⟩ := hinv
  obtain ⟨u60, hinv⟩ := hinv
  obtain ⟨u61, hinv⟩ := hinv
  obtain ⟨u62, hinv⟩ := hinv
  obtain ⟨u63, hinv⟩ := hinv
  obtain ⟨u64, hinv⟩ := hinv
  obtain ⟨u65, hinv⟩ := hinv
  obtain ⟨u66, hinv⟩ := hinv
  obtain ⟨u67, hinv⟩ := hinv
  obtain ⟨u68, hinv⟩ := hinv
  obtain ⟨u69, hinv⟩ := hinv
  obtain ⟨u70, hinv⟩ := hinv
  obtain ⟨u71, hinv⟩ := hinv
  obtain ⟨u72, hinv⟩ := hinv
  obtain ⟨u73, hinv⟩ := hinv
  obtain ⟨u74, hinv⟩ := hinv
  obtain ⟨u75, hinv⟩ := hinv
  obtain ⟨u76, hinv⟩ := hinv
  obtain ⟨u77, hinv⟩ := hinv
  obtain ⟨u78, hinv⟩ := hinv
  obtain ⟨u79, hinv⟩ := hinv
  obtain ⟨u80, hinv⟩ := hinv
  obtain ⟨u81, hinv⟩ := hinv
  obtain ⟨u82, hinv⟩ := hinv
  obtain ⟨u83, hinv⟩ := hinv
  obtain ⟨u84, hinv⟩ := hinv
  obtain ⟨u85, hinv⟩ := hinv
  obtain ⟨u86, hinv⟩ := hinv
  obtain ⟨u87, hinv⟩ := hinv
  obtain ⟨u88, hinv⟩ := hinv
  obtain ⟨u89, hinv⟩ := hinv
  obtain ⟨u90, hinv⟩ := hinv
  obtain ⟨u91, hinv⟩ := hinv
  obtain ⟨u92, hinv⟩ := hinv
  obtain ⟨u93, hinv⟩ := hinv
  obtain ⟨u94, hinv⟩ := hinv
  obtain ⟨u95, hinv⟩ := hinv
  obtain ⟨u96, hinv⟩ := hinv
  obtain ⟨u97, hinv⟩ := hinv
  obtain ⟨u98, hinv⟩ := hinv
  obtain ⟨u99, hinv⟩ := hinv
  obtain ⟨u100, hinv⟩ := hinv
  obtain ⟨u101, hinv⟩ := hinv
  obtain ⟨u102, hinv⟩ := hinv
  obtain ⟨u103, hinv⟩ := hinv
  obtain ⟨u104, hinv⟩ := hinv
  obtain ⟨u105, hinv⟩ := hinv
  obtain ⟨u106, hinv⟩ := hinv
  obtain ⟨u107, hinv⟩ := hinv
  obtain ⟨u108, hinv⟩ := hinv
  obtain ⟨u109, hinv⟩ := hinv
  obtain ⟨u110, hinv⟩ := hinv
  obtain ⟨u111, hinv⟩ := hinv
  obtain ⟨u112, hinv⟩ := hinv
  obtain ⟨u113, hinv⟩ := hinv
  obtain ⟨u114, hinv⟩ := hinv
  obtain ⟨u115, hinv⟩ := hinv
  obtain ⟨u116, hinv⟩ := hinv
  obtain ⟨u117, hinv⟩ := hinv
  obtain ⟨u118, hinv⟩ := hinv
  obtain ⟨u119, hinv⟩ := hinv
  obtain ⟨u120, hinv⟩ := hinv
  obtain ⟨u121, hinv⟩ := hinv
  obtain ⟨u122, hinv⟩ := hinv
  obtain ⟨u123, hinv⟩ := hinv
  obtain ⟨u124, hinv⟩ := hinv
  obtain ⟨u125, hinv⟩ := hinv
  obtain ⟨u126, hinv⟩ := hinv
  obtain ⟨u127, hinv⟩ := hinv
  obtain ⟨u128, hinv⟩ := hinv
  obtain ⟨u129, hinv⟩ := hinv
  obtain ⟨u130, hinv⟩ := hinv
  obtain ⟨u131, hinv⟩ := hinv
  obtain ⟨u132, hinv⟩ := hinv
  obtain ⟨u133, hinv⟩ := hinv
  obtain ⟨u134, hinv⟩ := hinv
  obtain ⟨u135, hinv⟩ := hinv
  obtain ⟨u136, hinv⟩ := hinv
  obtain ⟨u137, hinv⟩ := hinv
  obtain ⟨u138, hinv⟩ := hinv
  obtain ⟨u139, hinv⟩ := hinv
  obtain ⟨u140, hinv⟩ := hinv
  obtain ⟨u141, hinv⟩ := hinv
  obtain ⟨u142, hinv⟩ := hinv
  obtain ⟨u143, hinv⟩ := hinv
  obtain ⟨u144, hinv⟩ := hinv
  obtain ⟨u145, hinv⟩ := hinv
  obtain ⟨u146, hinv⟩ := hinv
  obtain ⟨u147, hinv⟩ := hinv
  obtain ⟨u148, hinv⟩ := hinv
  obtain ⟨u149, hinv⟩ := hinv
  obtain ⟨u150, hinv⟩ := hinv
  obtain ⟨u151, hinv⟩ := hinv
  obtain ⟨u152, hinv⟩ := hinv
  obtain ⟨u153, hinv⟩ := hinv
  obtain ⟨u154, hinv⟩ := hinv
  obtain ⟨u155, hinv⟩ := hinv
  obtain ⟨⟨hr4, hd4, hb4, hdt, hp2, hc3⟩, hfr0⟩ := hinv
  subst hfr0
  rw [← hl] at hc3
  rw [← hl]
  have HL := Lib.hid hl; have HSZ := Lib.hid hsz; have HC3 := Lib.hid hc3
  clear hl hsz hc3 hdt
  have HR4 := Lib.hid hr4; have HD4 := Lib.hid hd4; have HB4 := Lib.hid hb4
  clear hr4 hd4 hb4
  obtain ⟨w4, rfl⟩ : ∃ x : World, x = w1 := ⟨_, rfl⟩
  have d0 : w4.cell? ⟨w.heap.size + 1, 0, none⟩ = some (.int .i64 y) := HD4.out.cell 0
  have df0 := HD4.out.frozen 0
  have d1 : w4.cell? ⟨w.heap.size + 1, 1, none⟩ = some (.int .i64 m) := HD4.out.cell 1
  have df1 := HD4.out.frozen 1
  have d2 : w4.cell? ⟨w.heap.size + 1, 2, none⟩ = some (.int .i64 d) := HD4.out.cell 2
  have df2 := HD4.out.frozen 2
  have d3 : w4.cell? ⟨w.heap.size + 1, 3, none⟩ = some (.int .i64 h) := HD4.out.cell 3
  have df3 := HD4.out.frozen 3
  have d4 : w4.cell? ⟨w.heap.size + 1, 4, none⟩ = some (.int .i64 mi) := HD4.out.cell 4
  have df4 := HD4.out.frozen 4
  have d5 : w4.cell? ⟨w.heap.size + 1, 5, none⟩ = some (.int .i64 ss) := HD4.out.cell 5
  have df5 := HD4.out.frozen 5
  have d6 : w4.cell? ⟨w.heap.size + 1, 6, none⟩ = some (.int .i64 n) := HD4.out.cell 6
  have df6 := HD4.out.frozen 6
  have d7 : w4.cell? ⟨w.heap.size + 1, 7, none⟩ = some (.int .i64 z) := HD4.out.cell 7
  have df7 := HD4.out.frozen 7
  cases hrb : rightB y m d h mi ss n z with
  | false =>
    have HNO : Hid (cal4 l = none) := by
      show cal4 l = none
      rw [HC3.out, endD, if_neg]
      rintro ⟨_, hx⟩
      have : rightB y m d h mi ss n z = true := hx
      rw [hrb] at this
      cases this
    have HRB := Lib.hid hrb
    clear hrb
    go_wp2_with (go_at_call 54; refine (rright_any _ _ _ _ _ _ _ _ _).mono ?_; rintro e w5 ⟨he, b5⟩; rw [HRB.out] at he; subst he; clear d0 df0 d1 df1 d2 df2 d3 df3 d4 df4 d5 df5 d6 df6 d7 df7; have HR5 := Lib.hid (HR4.out.below b5 HR4.out.lt); have HB5 := Lib.hid (HB4.out.trans (b5.mono HB4.out.size)); clear b5; have r0 : w5.cell? ⟨w.heap.size, 0, none⟩ = some (.int .i64 0) := HR5.out.cell 0; have rf0 := HR5.out.frozen 0; have r1 : w5.cell? ⟨w.heap.size, 1, none⟩ = some (.int .i64 0) := HR5.out.cell 1; have rf1 := HR5.out.frozen 1; have r2 : w5.cell? ⟨w.heap.size, 2, none⟩ = some (.int .i64 0) := HR5.out.cell 2; have rf2 := HR5.out.frozen 2; have r3 : w5.cell? ⟨w.heap.size, 3, none⟩ = some (.int .i64 0) := HR5.out.cell 3; have rf3 := HR5.out.frozen 3; have r4 : w5.cell? ⟨w.heap.size, 4, none⟩ = some (.int .i64 0) := HR5.out.cell 4; have rf4 := HR5.out.frozen 4; have r5 : w5.cell? ⟨w.heap.size, 5, none⟩ = some (.int .i64 0) := HR5.out.cell 5; have rf5 := HR5.out.frozen 5; have r6 : w5.cell? ⟨w.heap.size, 6, none⟩ = some (.int .i64 0) := HR5.out.cell 6; have rf6 := HR5.out.frozen 6; have r7 : w5.cell? ⟨w.heap.size, 7, none⟩ = some (.int .i64 0) := HR5.out.cell 7; have rf7 := HR5.out.frozen 7)
    have hR2 := (((((((((HR5.out).put 0 (.int .i64 0)).put 1 (.int .i64 0)).put 2 (.int .i64 0)).put 3 (.int .i64 0)).put 4 (.int .i64 0)).put 5 (.int .i64 0)).put 6 (.int .i64 0)).put 7 (.int .i64 0))
    have hR3 := (show Row _ w.heap.size 46 DATZ from by simpa [DATZ] using hR2)
    clear hR2
    refine bodyPost_ret (results_cell_row_tmp2 rfl _ _ w.heap.size _ DATZ (0, 0) _ rfl hR3 Tryz.underlying46 rfl dateSize) rfl (RD.no HNO.out rfl ?_)
    exact (((((((((HB5.out).setCell (by simp) _).setCell (by simp) _).setCell (by simp) _).setCell (by simp) _).setCell (by simp) _).setCell (by simp) _).setCell (by simp) _).setCell (by simp) _)
  | true =>
    have HYES : Hid (cal4 l = some (⟨y, m, d, h, mi, ss, n, z⟩, l.drop p2)) := by
      show cal4 l = _
      rw [HC3.out, endD, if_pos ⟨rfl, hrb⟩]
    have HRB := Lib.hid hrb
    have HPC : Hid (s.extract p2 s.size = ⟨(l.drop p2).toArray⟩) := by
      show _ = _
      rw [piece_from, HL.out]
    clear hrb
    go_upto_region 35 with (go_at_call 54; refine (rright_any _ _ _ _ _ _ _ _ _).mono ?_; rintro e w5 ⟨he, b5⟩; rw [HRB.out] at he; subst he; clear d0 df0 d1 df1 d2 df2 d3 df3 d4 df4 d5 df5 d6 df6 d7 df7; have HR5 := Lib.hid (HR4.out.below b5 HR4.out.lt); have HD5 := Lib.hid (HD4.out.below b5 HD4.out.lt); have HB5 := Lib.hid (HB4.out.trans (b5.mono HB4.out.size)); clear b5; have r0 : w5.cell? ⟨w.heap.size, 0, none⟩ = some (.int .i64 0) := HR5.out.cell 0; have rf0 := HR5.out.frozen 0; have r1 : w5.cell? ⟨w.heap.size, 1, none⟩ = some (.int .i64 0) := HR5.out.cell 1; have rf1 := HR5.out.frozen 1; have r2 : w5.cell? ⟨w.heap.size, 2, none⟩ = some (.int .i64 0) := HR5.out.cell 2; have rf2 := HR5.out.frozen 2; have r3 : w5.cell? ⟨w.heap.size, 3, none⟩ = some (.int .i64 0) := HR5.out.cell 3; have rf3 := HR5.out.frozen 3; have r4 : w5.cell? ⟨w.heap.size, 4, none⟩ = some (.int .i64 0) := HR5.out.cell 4; have rf4 := HR5.out.frozen 4; have r5 : w5.cell? ⟨w.heap.size, 5, none⟩ = some (.int .i64 0) := HR5.out.cell 5; have rf5 := HR5.out.frozen 5; have r6 : w5.cell? ⟨w.heap.size, 6, none⟩ = some (.int .i64 0) := HR5.out.cell 6; have rf6 := HR5.out.frozen 6; have r7 : w5.cell? ⟨w.heap.size, 7, none⟩ = some (.int .i64 0) := HR5.out.cell 7; have rf7 := HR5.out.frozen 7; have d0 : w5.cell? ⟨w.heap.size + 1, 0, none⟩ = some (.int .i64 y) := HD5.out.cell 0; have df0 := HD5.out.frozen 0; have d1 : w5.cell? ⟨w.heap.size + 1, 1, none⟩ = some (.int .i64 m) := HD5.out.cell 1; have df1 := HD5.out.frozen 1; have d2 : w5.cell? ⟨w.heap.size + 1, 2, none⟩ = some (.int .i64 d) := HD5.out.cell 2; have df2 := HD5.out.frozen 2; have d3 : w5.cell? ⟨w.heap.size + 1, 3, none⟩ = some (.int .i64 h) := HD5.out.cell 3; have df3 := HD5.out.frozen 3; have d4 : w5.cell? ⟨w.heap.size + 1, 4, none⟩ = some (.int .i64 mi) := HD5.out.cell 4; have df4 := HD5.out.frozen 4; have d5 : w5.cell? ⟨w.heap.size + 1, 5, none⟩ = some (.int .i64 ss) := HD5.out.cell 5; have df5 := HD5.out.frozen 5; have d6 : w5.cell? ⟨w.heap.size + 1, 6, none⟩ = some (.int .i64 n) := HD5.out.cell 6; have df6 := HD5.out.frozen 6; have d7 : w5.cell? ⟨w.heap.size + 1, 7, none⟩ = some (.int .i64 z) := HD5.out.cell 7; have df7 := HD5.out.frozen 7)
    go_region
    all_goals
      go_wp2_with fail
      have hR2 := (((((((((HR5.out).put 0 (.int .i64 y)).put 1 (.int .i64 m)).put 2 (.int .i64 d)).put 3 (.int .i64 h)).put 4 (.int .i64 mi)).put 5 (.int .i64 ss)).put 6 (.int .i64 n)).put 7 (.int .i64 z))
      have hR3 := (show Row _ w.heap.size 46 (DC y m d h mi ss n z) from by simpa [DATZ, DC] using hR2)
      clear hR2
      refine bodyPost_ret (results_cell_row_tmp2 rfl _ _ w.heap.size _ (DC y m d h mi ss n z) (0, 0) _ rfl hR3.drew Tryz.underlying46 rfl dateSize) rfl (RD.yes HYES.out ?_ ?_)
      · exact ret_v (congrArg (fun u => Value.tuple #[(⟨y, m, d, h, mi, ss, n, z⟩ : D8).v, Value.string u, Value.int .i64 0]) HPC.out)
      · exact ((((((((((HB5.out).setCell (by simp) _).setCell (by simp) _).setCell (by simp) _).setCell (by simp) _).setCell (by simp) _).setCell (by simp) _).setCell (by simp) _).setCell (by simp) _)).drew
set_option maxHeartbeats 8000000 in
set_option maxRecDepth 100000 in
theorem stageC4 (s : ByteArray) (w : World) (hs : s.size ≤ 4194304) : ∀ a wx, JC4 s w a wx → (restOf 7 (Tryz.f24.body.getD .ret)).wp Tryz.prog (bodyPost Tryz.prog Tryz.f24 (RD (cal4 s.data.toList) w)) a wx := by
  obtain ⟨l, hl⟩ : ∃ l, l = s.data.toList := ⟨_, rfl⟩
  have hsz : l.length = s.size := by rw [hl]; rfl
  have HNUM : Hid (∀ (p k : Nat) (W : World), p ≤ 8388608 → 1 ≤ k → k ≤ 4 → Calls Tryz.prog 52 #[.string s, .int .i64 p, .int .i64 k] W fun e w' => e = .returned (.int .i64 (numI l p k)) ∧ W = w') := Lib.hid fun p k W hp hk hk4 => by
    rw [hl]
    exact num_c s p k W (by omega) (by omega) hk hk4
  have HIS : Hid (∀ (p : Nat) (c : UInt8) (W : World), p ≤ 8388608 → Calls Tryz.prog 53 #[.string s, .int .i64 p, .int .u8 c.toNat] W fun e w' => e = .returned (.bool (isAt l p c)) ∧ W = w') := Lib.hid fun p c W hp => by
    rw [hl]
    exact is_c s p c W (by omega) (by omega)
  refine at_rest rfl ?_
  intro a' w1 hinv
  unfold JC4 at hinv
  obtain ⟨y, m, d, h, mi, ss, n, p, hinv⟩ := hinv
  obtain ⟨u1, hinv⟩ := hinv
  obtain ⟨u3, hinv⟩ := hinv
  obtain ⟨u4, hinv⟩ := hinv
  obtain ⟨u6, hinv⟩ := hinv
  obtain ⟨u8, hinv⟩ := hinv
  obtain ⟨u9, hinv⟩ := hinv
  obtain ⟨u10, hinv⟩ := hinv
  obtain ⟨u11, hinv⟩ := hinv
  obtain ⟨u12, hinv⟩ := hinv
  obtain ⟨u13, hinv⟩ := hinv
  obtain ⟨u14, hinv⟩ := hinv
  obtain ⟨u15, hinv⟩ := hinv
  obtain ⟨u16, hinv⟩ := hinv
  obtain ⟨u17, hinv⟩ := hinv
  obtain ⟨u18, hinv⟩ := hinv
  obtain ⟨u19, hinv⟩ := hinv
  obtain ⟨u20, hinv⟩ := hinv
  obtain ⟨u21, hinv⟩ := hinv
  obtain ⟨u22, hinv⟩ := hinv
  obtain ⟨u23, hinv⟩ := hinv
  obtain ⟨u24, hinv⟩ := hinv
  obtain ⟨u25, hinv⟩ := hinv
  obtain ⟨u26, hinv⟩ := hinv
  obtain ⟨u27, hinv⟩ := hinv
  obtain ⟨u28, hinv⟩ := hinv
  obtain ⟨u29, hinv⟩ := hinv
  obtain ⟨u30, hinv⟩ := hinv
  obtain ⟨u31, hinv⟩ := hinv
  obtain ⟨u32, hinv⟩ := hinv
  obtain ⟨u33, hinv⟩ := hinv
  obtain ⟨u34, hinv⟩ := hinv
  obtain ⟨u35, hinv⟩ := hinv
  obtain ⟨u36, hinv⟩ := hinv
  obtain ⟨u37, hinv⟩ := hinv
  obtain ⟨u38, hinv⟩ := hinv
  obtain ⟨u39, hinv⟩ := hinv
  obtain ⟨u40, hinv⟩ := hinv
  obtain ⟨u41, hinv⟩ := hinv
  obtain ⟨u42, hinv⟩ := hinv
  obtain ⟨u43, hinv⟩ := hinv
  obtain ⟨u44, hinv⟩ := hinv
  obtain ⟨u45, hinv⟩ := hinv
  obtain ⟨u46, hinv⟩ := hinv
  obtain ⟨u47, hinv⟩ := hinv
  obtain ⟨u48, hinv⟩ := hinv
  obtain ⟨u49, hinv⟩ := hinv
  obtain ⟨u50, hinv⟩ := hinv
  obtain ⟨u51, hinv⟩ := hinv
  obtain ⟨u52, hinv⟩ := hinv
  obtain ⟨u53, hinv⟩ := hinv
  obtain ⟨u54, hinv⟩ := hinv
  obtain ⟨u55, hinv⟩ := hinv
  obtain ⟨u56, hinv⟩ := hinv
  obtain ⟨u57, hinv⟩ := hinv
  obtain ⟨u58, hinv⟩ := hinv
  obtain ⟨u59, hinv⟩ := hinv
  obtain ⟨u60, hinv⟩ := hinv
  obtain ⟨u61, hinv⟩ := hinv
  obtain ⟨u62, hinv⟩ := hinv
  obtain ⟨u63, hinv⟩ := hinv
  obtain ⟨u64, hinv⟩ := hinv
  obtain ⟨u65, hinv⟩ := hinv
  obtain ⟨u66, hinv⟩ := hinv
  obtain ⟨u67, hinv⟩ := hinv
  obtain ⟨u68, hinv⟩ := hinv
  obtain ⟨u69, hinv⟩ := hinv
  obtain ⟨u70, hinv⟩ := hinv
  obtain ⟨u71, hinv⟩ := hinv
  obtain ⟨u72, hinv⟩ := hinv
  obtain ⟨u73, hinv⟩ := hinv
  obtain ⟨u74, hinv⟩ := hinv
  obtain ⟨u75, hinv⟩ := hinv
  obtain ⟨u76, hinv⟩ := hinv
  obtain ⟨u77, hinv⟩ := hinv
  obtain ⟨u78, hinv⟩ := hinv
  obtain ⟨u79, hinv⟩ := hinv
  obtain ⟨u80, hinv⟩ := hinv
  obtain ⟨u81, hinv⟩ := hinv
  obtain ⟨u82, hinv⟩ := hinv
  obtain ⟨u83, hinv⟩ := hinv
  obtain ⟨u84, hinv⟩ := hinv
  obtain ⟨u85, hinv⟩ := hinv
  obtain ⟨u86, hinv⟩ := hinv
  obtain ⟨u87, hinv⟩ := hinv
  obtain ⟨u88, hinv⟩ := hinv
  obtain ⟨u89, hinv⟩ := hinv
  obtain ⟨u90, hinv⟩ := hinv
  obtain ⟨u91, hinv⟩ := hinv
  obtain ⟨u92, hinv⟩ := hinv
  obtain ⟨u93, hinv⟩ := hinv
  obtain ⟨u94, hinv⟩ := hinv
  obtain ⟨u95, hinv⟩ := hinv
  obtain ⟨u96, hinv⟩ := hinv
  obtain ⟨u97, hinv⟩ := hinv
  obtain ⟨u98, hinv⟩ := hinv
  obtain ⟨u99, hinv⟩ := hinv
  obtain ⟨u100, hinv⟩ := hinv
  obtain ⟨u101, hinv⟩ := hinv
  obtain ⟨u102, hinv⟩ := hinv
  obtain ⟨u103, hinv⟩ := hinv
  obtain ⟨u104, hinv⟩ := hinv
  obtain ⟨u105, hinv⟩ := hinv
  obtain ⟨u106, hinv⟩ := hinv
  obtain ⟨u107, hinv⟩ := hinv
  obtain ⟨u108, hinv⟩ := hinv
  obtain ⟨u109, hinv⟩ := hinv
  obtain ⟨u110, hinv⟩ := hinv
  obtain ⟨u111, hinv⟩ := hinv
  obtain ⟨u112, hinv⟩ := hinv
  obtain ⟨u113, hinv⟩ := hinv
  obtain ⟨u114, hinv⟩ := hinv
  obtain ⟨u115, hinv⟩ := hinv
  obtain ⟨u116, hinv⟩ := hinv
  obtain ⟨u117, hinv⟩ := hinv
  obtain ⟨u118, hinv⟩ := hinv
  obtain ⟨u119, hinv⟩ := hinv
  obtain ⟨u120, hinv⟩ := hinv
  obtain ⟨u121, hinv⟩ := hinv
  obtain ⟨u122, hinv⟩ := hinv
  obtain ⟨u123, hinv⟩ := hinv
  obtain ⟨u124, hinv⟩ := hinv
  obtain ⟨u125, hinv⟩ := hinv
  obtain ⟨u126, hinv⟩ := hinv
  obtain ⟨u127, hinv⟩ := hinv
  obtain ⟨u128, hinv⟩ := hinv
  obtain ⟨u129, hinv⟩ := hinv
  obtain ⟨u130, hinv⟩ := hinv
  obtain ⟨u131, hinv⟩ := hinv
  obtain ⟨u132, hinv⟩ := hinv
  obtain ⟨u133, hinv⟩ := hinv
  obtain ⟨u134, hinv⟩ := hinv
  obtain ⟨u135, hinv⟩ := hinv
  obtain ⟨u136, hinv⟩ := hinv
  obtain ⟨u137, hinv⟩ := hinv
  obtain ⟨u138, hinv⟩ := hinv
  obtain ⟨u139, hinv⟩ := hinv
  obtain ⟨u140, hinv⟩ := hinv
  obtain ⟨u141, hinv⟩ := hinv
  obtain ⟨u142, hinv⟩ := hinv
  obtain ⟨u143, hinv⟩ := hinv
  obtain ⟨u144, hinv⟩ := hinv
  obtain ⟨u145, hinv⟩ := hinv
  obtain ⟨u146, hinv⟩ := hinv
  obtain ⟨u147, hinv⟩ := hinv
  obtain ⟨u148, hinv⟩ := hinv
  obtain ⟨u149, hinv⟩ := hinv
  obtain ⟨u150, hinv⟩ := hinv
  obtain ⟨u151, hinv⟩ := hinv
  obtain ⟨u152, hinv⟩ := hinv
  obtain ⟨u153, hinv⟩ := hinv
  obtain ⟨u154, hinv⟩ := hinv
  obtain ⟨u155, hinv⟩ := hinv
  obtain ⟨⟨hr2, hd2, hb2, hdt, hp, hmk, hfr⟩, hfr0⟩ := hinv
  subst hfr0
  rw [← hl] at hfr hmk
  simp only [← hl] at hdt
  have HDT := Lib.hid hdt
  have HC2 : Hid (cal4 l = match zone4 (l.drop p) with | none => none | some (z, r2) => endD (date4 l n z) r2 true) := by
    show cal4 l = _
    rw [cal4, hmk, hfr]
    rfl
  have HLL := Lib.hid hl
  rw [← hl]
  have HL := Lib.hid hl; have HSZ := Lib.hid hsz
  clear hl hsz hfr hmk hdt
  have HR1 := Lib.hid hr2; have HD1 := Lib.hid hd2; have HB1 := Lib.hid hb2
  clear hr2 hd2 hb2
  obtain ⟨w2, rfl⟩ : ∃ x : World, x = w1 := ⟨_, rfl⟩
  obtain ⟨zb, hzb⟩ : ∃ x, x = isAt l p 90 := ⟨_, rfl⟩
  have IZ : Hid (∀ W : World, Calls Tryz.prog 53 #[.string s, .int .i64 p, .int .u8 90] W fun e w' => e = .returned (.bool zb) ∧ W = w') := Lib.hid fun W => by rw [hzb]; exact HIS.out p 90 W (by omega)
  have ZB := Lib.hid hzb
  clear hzb
  go_upto_if 87 with (go_at_call 53; refine (IZ.out _).mono ?_; rintro e w' ⟨rfl, rfl⟩)
  go_cut [7] (fun s7 wx => ∃ (z : Int) (p2 : Nat), s7 = .int .i64 p2 ∧ p2 ≤ s.size ∧ Hid (zone4 (l.drop p) = some (z, l.drop p2)) ∧ Row wx w.heap.size 46 DATZ ∧ Row wx (w.heap.size + 1) 46 (DC y m d h mi ss n z) ∧ Below w.heap.size w wx)
  case first =>
    cases zb with
    | true =>
      have hpl : p < l.length := by
        rcases Nat.lt_or_ge p l.length with h | h
        · exact h
        · have := ZB.out
          rw [isAt_out l p 90 h] at this
          cases this
      have hpl2 : p + 1 ≤ s.size := by have := HSZ.out; omega
      have HZ : Hid (zone4 (l.drop p) = some (0, l.drop (p + 1))) := by
        show zone4 _ = _
        have h : Lib.hasPrefix (l.drop p) [90] = true := ZB.out.symm
        rw [zone4, if_pos h, List.drop_drop]
      go_wp2_with fail
      go_meet
      exact ⟨0, p + 1, by go_num, hpl2, HZ, HR1.out, HD1.out, HB1.out⟩
    | false =>
      obtain ⟨pl, hpl⟩ : ∃ x, x = isAt l p 43 := ⟨_, rfl⟩
      obtain ⟨mn, hmn⟩ : ∃ x, x = isAt l p 45 := ⟨_, rfl⟩
      obtain ⟨co, hco⟩ : ∃ x, x = isAt l (p + 3) 58 := ⟨_, rfl⟩
      obtain ⟨hv, hhv⟩ : ∃ x, x = numI l (p + 1) 2 := ⟨_, rfl⟩
      obtain ⟨mv, hmv⟩ : ∃ x, x = numI l (p + 4) 2 := ⟨_, rfl⟩
      have IP : Hid (∀ W : World, Calls Tryz.prog 53 #[.string s, .int .i64 p, .int .u8 43] W fun e w' => e = .returned (.bool pl) ∧ W = w') := Lib.hid fun W => by rw [hpl]; exact HIS.out p 43 W (by omega)
      have IM : Hid (∀ W : World, Calls Tryz.prog 53 #[.string s, .int .i64 p, .int .u8 45] W fun e w' => e = .returned (.bool mn) ∧ W = w') := Lib.hid fun W => by rw [hmn]; exact HIS.out p 45 W (by omega)
      have IC : Hid (∀ W : World, Calls Tryz.prog 53 #[.string s, .int .i64 ((p : Int) + 3), .int .u8 58] W fun e w' => e = .returned (.bool co) ∧ W = w') := Lib.hid fun W => by rw [hco]; exact HIS.out (p + 3) 58 W (by omega)
      have NH : Hid (∀ W : World, Calls Tryz.prog 52 #[.string s, .int .i64 ((p : Int) + 1), .int .i64 2] W fun e w' => e = .returned (.int .i64 hv) ∧ W = w') := Lib.hid fun W => by rw [hhv]; exact HNUM.out (p + 1) 2 W (by omega) (by omega) (by omega)
      have NM : Hid (∀ W : World, Calls Tryz.prog 52 #[.string s, .int .i64 ((p : Int) + 4), .int .i64 2] W fun e w' => e = .returned (.int .i64 mv) ∧ W = w') := Lib.hid fun W => by rw [hmv]; exact HNUM.out (p + 4) 2 W (by omega) (by omega) (by omega)
      have hb1 := numI_bd l (p + 1) 2 (by omega)
      have hb2 := numI_bd l (p + 4) 2 (by omega)
      rw [← hhv] at hb1
      rw [← hmv] at hb2
      obtain ⟨hb10, hb11⟩ := hb1
      obtain ⟨hb20, hb21⟩ := hb2
      obtain ⟨zok, hzok⟩ : ∃ x, x = ((pl || mn) && co && inB hv 0 23 && inB mv 0 59) := ⟨_, rfl⟩
      have HZ4 : Hid (zone4 (l.drop p) = if zok = true then some ((if mn = true then -(60 * hv + mv) else 60 * hv + mv), l.drop (p + 6)) else none) := by
        show zone4 _ = _
        have h : Lib.hasPrefix (l.drop p) [90] = false := ZB.out.symm
        have h1 : Lib.hasPrefix (l.drop p) [43] = pl := hpl.symm
        have h2 : Lib.hasPrefix (l.drop p) [45] = mn := hmn.symm
        rw [zone4, h, if_neg (by simp), h1, h2, isAt_drop, numI_drop _ _ _ _ (by omega), numI_drop _ _ _ _ (by omega), ← hco, ← hhv, ← hmv, ← hzok, List.drop_drop]
      have HP6 : Hid (zok = true → p + 6 ≤ s.size ∧ 0 ≤ hv ∧ hv ≤ 23 ∧ 0 ≤ mv ∧ mv ≤ 59) := Lib.hid fun h => by
        rw [hzok] at h
        simp only [inB, Bool.and_eq_true, decide_eq_true_eq] at h
        obtain ⟨⟨_, h3, h4⟩, h5, h6⟩ := h
        have := (numI_cond (l := l) (p := p + 4) (k := 2) (by omega) (by rw [← hmv]; exact h5)).1
        have := HSZ.out
        omega
      have HZOK := Lib.hid hzok; have HMN := Lib.hid hmn
      clear hpl hmn hco hhv hmv hzok
      have t1 : True := trivial; have t2 : True := trivial; have t3 : True := trivial
      go_upto_region 26 with (first | (go_at_call 53; clear t1; refine (IP.out _).mono ?_; rintro e w' ⟨rfl, rfl⟩) | (go_at_call 53; clear t2; refine (IM.out _).mono ?_; rintro e w' ⟨rfl, rfl⟩) | (go_at_call 53; refine (IC.out _).mono ?_; rintro e w' ⟨rfl, rfl⟩) | (go_at_call 52; clear t3; refine (NH.out _).mono ?_; rintro e w' ⟨rfl, rfl⟩) | (go_at_call 52; refine (NM.out _).mono ?_; rintro e w' ⟨rfl, rfl⟩))
      go_cut [133] (fun s133 wx => s133 = .bool (!zok) ∧ Row wx w.heap.size 46 DATZ ∧ Row wx (w.heap.size + 1) 46 (DC y m d h mi ss n 0) ∧ Below w.heap.size w wx)
      case first =>
        cases pl with
        | false =>
          cases mn with
          | false =>
            have HZ : Hid (zok = false) := by
              show zok = false
              rw [HZOK.out]; simp
            go_wp2_with fail
            go_meet
            exact ⟨by rw [HZ.out]; rfl, HR1.out, HD1.out, HB1.out⟩
          | true =>
            cases co with
            | false =>
              have HZ : Hid (zok = false) := by
                show zok = false
                rw [HZOK.out]; simp
              go_wp2_with fail
              go_meet
              exact ⟨by rw [HZ.out]; rfl, HR1.out, HD1.out, HB1.out⟩
            | true =>
              by_cases t0 : hv < 0
              · have HZ : Hid (zok = false) := by
                  show zok = false
                  rw [HZOK.out]; simp only [inB, Bool.and_eq_true, Bool.or_eq_true, decide_eq_true_eq, Bool.and_eq_false_iff, Bool.or_eq_false_iff, decide_eq_false_iff_not, Bool.true_and, Bool.and_true, Bool.or_true, Bool.true_or, Bool.or_false, Bool.false_or]; omega
                go_wp2_with fail
                go_meet
                exact ⟨by rw [HZ.out]; rfl, HR1.out, HD1.out, HB1.out⟩
              · have t0' : decide (hv < 0) = false := decide_eq_false t0
                by_cases t1 : 23 < hv
                · have HZ : Hid (zok = false) := by
                    show zok = false
                    rw [HZOK.out]; simp only [inB, Bool.and_eq_true, Bool.or_eq_true, decide_eq_true_eq, Bool.and_eq_false_iff, Bool.or_eq_false_iff, decide_eq_false_iff_not, Bool.true_and, Bool.and_true, Bool.or_true, Bool.true_or, Bool.or_false, Bool.false_or]; omega
                  go_wp2_with fail
                  go_meet
                  exact ⟨by rw [HZ.out]; rfl, HR1.out, HD1.out, HB1.out⟩
                · have t1' : decide (23 < hv) = false := decide_eq_false t1
                  by_cases t2 : mv < 0
                  · have HZ : Hid (zok = false) := by
                      show zok = false
                      rw [HZOK.out]; simp only [inB, Bool.and_eq_true, Bool.or_eq_true, decide_eq_true_eq, Bool.and_eq_false_iff, Bool.or_eq_false_iff, decide_eq_false_iff_not, Bool.true_and, Bool.and_true, Bool.or_true, Bool.true_or, Bool.or_false, Bool.false_or]; omega
                    go_wp2_with fail
                    go_meet
                    exact ⟨by rw [HZ.out]; rfl, HR1.out, HD1.out, HB1.out⟩
                  · have t2' : decide (mv < 0) = false := decide_eq_false t2
                    by_cases t3 : 59 < mv
                    · have HZ : Hid (zok = false) := by
                        show zok = false
                        rw [HZOK.out]; simp only [inB, Bool.and_eq_true, Bool.or_eq_true, decide_eq_true_eq, Bool.and_eq_false_iff, Bool.or_eq_false_iff, decide_eq_false_iff_not, Bool.true_and, Bool.and_true, Bool.or_true, Bool.true_or, Bool.or_false, Bool.false_or]; omega
                      go_wp2_with fail
                      go_meet
                      exact ⟨by rw [HZ.out]; rfl, HR1.out, HD1.out, HB1.out⟩
                    · have t3' : decide (59 < mv) = false := decide_eq_false t3
                      have HZ : Hid (zok = true) := by
                        show zok = true
                        rw [HZOK.out]; simp only [inB, Bool.and_eq_true, Bool.or_eq_true, decide_eq_true_eq, Bool.and_eq_false_iff, Bool.or_eq_false_iff, decide_eq_false_iff_not, Bool.true_and, Bool.and_true, Bool.or_true, Bool.true_or, Bool.or_false, Bool.false_or]; omega
                      go_wp2_with fail
                      go_meet
                      exact ⟨by rw [HZ.out]; rfl, HR1.out, HD1.out, HB1.out⟩
        | true =>
          cases mn with
          | false =>
            cases co with
            | false =>
              have HZ : Hid (zok = false) := by
                show zok = false
                rw [HZOK.out]; simp
              go_wp2_with fail
              go_meet
              exact ⟨by rw [HZ.out]; rfl, HR1.out, HD1.out, HB1.out⟩
            | true =>
              by_cases t0 : hv < 0
              · have HZ : Hid (zok = false) := by
                  show zok = false
                  rw [HZOK.out]; simp only [inB, Bool.and_eq_true, Bool.or_eq_true, decide_eq_true_eq, Bool.and_eq_false_iff, Bool.or_eq_false_iff, decide_eq_false_iff_not, Bool.true_and, Bool.and_true, Bool.or_true, Bool.true_or, Bool.or_false, Bool.false_or]; omega
                go_wp2_with fail
                go_meet
                exact ⟨by rw [HZ.out]; rfl, HR1.out, HD1.out, HB1.out⟩
              · have t0' : decide (hv < 0) = false := decide_eq_false t0
                by_cases t1 : 23 < hv
                · have HZ : Hid (zok = false) := by
                    show zok = false
                    rw [HZOK.out]; simp only [inB, Bool.and_eq_true, Bool.or_eq_true, decide_eq_true_eq, Bool.and_eq_false_iff, Bool.or_eq_false_iff, decide_eq_false_iff_not, Bool.true_and, Bool.and_true, Bool.or_true, Bool.true_or, Bool.or_false, Bool.false_or]; omega
                  go_wp2_with fail
                  go_meet
                  exact ⟨by rw [HZ.out]; rfl, HR1.out, HD1.out, HB1.out⟩
                · have t1' : decide (23 < hv) = false := decide_eq_false t1
                  by_cases t2 : mv < 0
                  · have HZ : Hid (zok = false) := by
                      show zok = false
                      rw [HZOK.out]; simp only [inB, Bool.and_eq_true, Bool.or_eq_true, decide_eq_true_eq, Bool.and_eq_false_iff, Bool.or_eq_false_iff, decide_eq_false_iff_not, Bool.true_and, Bool.and_true, Bool.or_true, Bool.true_or, Bool.or_false, Bool.false_or]; omega
                    go_wp2_with fail
                    go_meet
                    exact ⟨by rw [HZ.out]; rfl, HR1.out, HD1.out, HB1.out⟩
                  · have t2' : decide (mv < 0) = false := decide_eq_false t2
                    by_cases t3 : 59 < mv
                    · have HZ : Hid (zok = false) := by
                        show zok = false
                        rw [HZOK.out]; simp only [inB, Bool.and_eq_true, Bool.or_eq_true, decide_eq_true_eq, Bool.and_eq_false_iff, Bool.or_eq_false_iff, decide_eq_false_iff_not, Bool.true_and, Bool.and_true, Bool.or_true, Bool.true_or, Bool.or_false, Bool.false_or]; omega
                      go_wp2_with fail
                      go_meet
                      exact ⟨by rw [HZ.out]; rfl, HR1.out, HD1.out, HB1.out⟩
                    · have t3' : decide (59 < mv) = false := decide_eq_false t3
                      have HZ : Hid (zok = true) := by
                        show zok = true
                        rw [HZOK.out]; simp only [inB, Bool.and_eq_true, Bool.or_eq_true, decide_eq_true_eq, Bool.and_eq_false_iff, Bool.or_eq_false_iff, decide_eq_false_iff_not, Bool.true_and, Bool.and_true, Bool.or_true, Bool.true_or, Bool.or_false, Bool.false_or]; omega
                      go_wp2_with fail
                      go_meet
                      exact ⟨by rw [HZ.out]; rfl, HR1.out, HD1.out, HB1.out⟩
          | true =>
            cases co with
            | false =>
              have HZ : Hid (zok = false) := by
                show zok = false
                rw [HZOK.out]; simp
              go_wp2_with fail
              go_meet
              exact ⟨by rw [HZ.out]; rfl, HR1.out, HD1.out, HB1.out⟩
            | true =>
              by_cases t0 : hv < 0
              · have HZ : Hid (zok = false) := by
                  show zok = false
                  rw [HZOK.out]; simp only [inB, Bool.and_eq_true, Bool.or_eq_true, decide_eq_true_eq, Bool.and_eq_false_iff, Bool.or_eq_false_iff, decide_eq_false_iff_not, Bool.true_and, Bool.and_true, Bool.or_true, Bool.true_or, Bool.or_false, Bool.false_or]; omega
                go_wp2_with fail
                go_meet
                exact ⟨by rw [HZ.out]; rfl, HR1.out, HD1.out, HB1.out⟩
              · have t0' : decide (hv < 0) = false := decide_eq_false t0
                by_cases t1 : 23 < hv
                · have HZ : Hid (zok = false) := by
                    show zok = false
                    rw [HZOK.out]; simp only [inB, Bool.and_eq_true, Bool.or_eq_true, decide_eq_true_eq, Bool.and_eq_false_iff, Bool.or_eq_false_iff, decide_eq_false_iff_not, Bool.true_and, Bool.and_true, Bool.or_true, Bool.true_or, Bool.or_false, Bool.false_or]; omega
                  go_wp2_with fail
                  go_meet
                  exact ⟨by rw [HZ.out]; rfl, HR1.out, HD1.out, HB1.out⟩
                · have t1' : decide (23 < hv) = false := decide_eq_false t1
                  by_cases t2 : mv < 0
                  · have HZ : Hid (zok = false) := by
                      show zok = false
                      rw [HZOK.out]; simp only [inB, Bool.and_eq_true, Bool.or_eq_true, decide_eq_true_eq, Bool.and_eq_false_iff, Bool.or_eq_false_iff, decide_eq_false_iff_not, Bool.true_and, Bool.and_true, Bool.or_true, Bool.true_or, Bool.or_false, Bool.false_or]; omega
                    go_wp2_with fail
                    go_meet
                    exact ⟨by rw [HZ.out]; rfl, HR1.out, HD1.out, HB1.out⟩
                  · have t2' : decide (mv < 0) = false := decide_eq_false t2
                    by_cases t3 : 59 < mv
                    · have HZ : Hid (zok = false) := by
                        show zok = false
                        rw [HZOK.out]; simp only [inB, Bool.and_eq_true, Bool.or_eq_true, decide_eq_true_eq, Bool.and_eq_false_iff, Bool.or_eq_false_iff, decide_eq_false_iff_not, Bool.true_and, Bool.and_true, Bool.or_true, Bool.true_or, Bool.or_false, Bool.false_or]; omega
                      go_wp2_with fail
                      go_meet
                      exact ⟨by rw [HZ.out]; rfl, HR1.out, HD1.out, HB1.out⟩
                    · have t3' : decide (59 < mv) = false := decide_eq_false t3
                      have HZ : Hid (zok = true) := by
                        show zok = true
                        rw [HZOK.out]; simp only [inB, Bool.and_eq_true, Bool.or_eq_true, decide_eq_true_eq, Bool.and_eq_false_iff, Bool.or_eq_false_iff, decide_eq_false_iff_not, Bool.true_and, Bool.and_true, Bool.or_true, Bool.true_or, Bool.or_false, Bool.false_or]; omega
                      go_wp2_with fail
                      go_meet
                      exact ⟨by rw [HZ.out]; rfl, HR1.out, HD1.out, HB1.out⟩
      case rest =>
      obtain ⟨rfl, hr3, hd3, hb3⟩ := hcut
      have HR3 := Lib.hid hr3; have HD3 := Lib.hid hd3; have HB3 := Lib.hid hb3
      clear hr3 hd3 hb3
      obtain ⟨w3, rfl⟩ : ∃ x : World, x = wc := ⟨_, rfl⟩
      cases zok with
      | false =>
        have HNO : Hid (cal4 l = none) := by
          show cal4 l = none
          rw [HC2.out, HZ4.out]; rfl
        have r0 : w3.cell? ⟨w.heap.size, 0, none⟩ = some (.int .i64 0) := HR3.out.cell 0
        have rf0 := HR3.out.frozen 0
        have r1 : w3.cell? ⟨w.heap.size, 1, none⟩ = some (.int .i64 0) := HR3.out.cell 1
        have rf1 := HR3.out.frozen 1
        have r2 : w3.cell? ⟨w.heap.size, 2, none⟩ = some (.int .i64 0) := HR3.out.cell 2
        have rf2 := HR3.out.frozen 2
        have r3 : w3.cell? ⟨w.heap.size, 3, none⟩ = some (.int .i64 0) := HR3.out.cell 3
        have rf3 := HR3.out.frozen 3
        have r4 : w3.cell? ⟨w.heap.size, 4, none⟩ = some (.int .i64 0) := HR3.out.cell 4
        have rf4 := HR3.out.frozen 4
        have r5 : w3.cell? ⟨w.heap.size, 5, none⟩ = some (.int .i64 0) := HR3.out.cell 5
        have rf5 := HR3.out.frozen 5
        have r6 : w3.cell? ⟨w.heap.size, 6, none⟩ = some (.int .i64 0) := HR3.out.cell 6
        have rf6 := HR3.out.frozen 6
        have r7 : w3.cell? ⟨w.heap.size, 7, none⟩ = some (.int .i64 0) := HR3.out.cell 7
        have rf7 := HR3.out.frozen 7
        go_wp2_with fail
        have hR2 := (((((((((HR3.out).put 0 (.int .i64 0)).put 1 (.int .i64 0)).put 2 (.int .i64 0)).put 3 (.int .i64 0)).put 4 (.int .i64 0)).put 5 (.int .i64 0)).put 6 (.int .i64 0)).put 7 (.int .i64 0))
        have hR3 := (show Row _ w.heap.size 46 DATZ from by simpa [DATZ] using hR2)
        clear hR2
        refine bodyPost_ret (results_cell_row_tmp2 rfl _ _ w.heap.size _ DATZ (0, 0) _ rfl hR3 Tryz.underlying46 rfl dateSize) rfl (RD.no HNO.out rfl ?_)
        exact (((((((((HB3.out).setCell (by simp) _).setCell (by simp) _).setCell (by simp) _).setCell (by simp) _).setCell (by simp) _).setCell (by simp) _).setCell (by simp) _).setCell (by simp) _)
      | true =>
        obtain ⟨hp6, hv0, hv1, mv0, mv1⟩ := HP6.out rfl
        have d7 : w3.cell? ⟨w.heap.size + 1, 7, none⟩ = some (.int .i64 0) := HD3.out.cell 7
        have df7 := HD3.out.frozen 7
        cases mn with
        | true =>
          go_wp2_with fail
          go_meet
          refine ⟨-(60 * hv + mv), p + 6, by go_num, hp6, HZ4, ?_, ?_, ?_⟩
          · first | exact HR3.out.other (by simp) _ | exact (HR3.out.other (by simp) _).other (by simp) _
          · first | (have := HD3.out.put 7 (.int .i64 (-(60 * hv + mv))); simpa [DC] using this) | (have := (HD3.out.put 7 (.int .i64 (60 * hv + mv))).put 7 (.int .i64 (-(60 * hv + mv))); simpa [DC] using this)
          · first | exact HB3.out.setCell (by simp) _ | exact (HB3.out.setCell (by simp) _).setCell (by simp) _
        | false =>
          go_wp2_with fail
          go_meet
          refine ⟨60 * hv + mv, p + 6, by go_num, hp6, HZ4, HR3.out.other (by simp) _, ?_, HB3.out.setCell (by simp) _⟩
          have := HD3.out.put 7 (.int .i64 (60 * hv + mv))
          simpa [DC] using this
  case rest =>
  obtain ⟨z, p2, rfl, hp2, hz4, hr4, hd4, hb4⟩ := hcut
  apply_assumption
  rw [HLL.out]
  refine stageD4 s w hs _ _ ?_
  unfold JD4
  refine ⟨y, m, d, h, mi, ss, n, z, p2, ?_⟩
  repeat apply Exists.intro
  exact ⟨⟨hr4, hd4, hb4, by rw [← HLL.out]; exact HDT.out, hp2, by rw [← HLL.out, HC2.out, hz4.out]; exact congrArg (fun x => endD x (l.drop p2) true) (HDT.out n z)⟩, rfl⟩
end Go.Proofs.YtdkfgobbpadmgaaGreatDoor
