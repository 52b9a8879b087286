/- Package sysl's taker, method by method: what it takes off its text, and whether all was so. -/
import Derived.Test.YtdkfgobbpadmgaaGreatDoorWords
import Derived.Test.YtdkfgobbpadmgaaGreatDoorShelf
import Derived.KernelRfl
import Derived.RowKit3
import Derived.Deep.QuietTactic
import Derived.BigQuiet
import Derived.Deep.LoopGhost
import Derived.Deep.DeepCutAuto
import Derived.Deep.CutBlock
set_option linter.unusedVariables false
set_option linter.unusedSimpArgs false
namespace Go.Proofs.YtdkfgobbpadmgaaGreatDoor
open Go.RowKit
/-- A taker of the text l: its block. -/
def Tk (w : World) (B : Nat) (l : List UInt8) (ok : Bool) : Prop := Row w B 42 #[txt l, .bool ok]
theorem Tk.c0 {w : World} {B : Nat} {l : List UInt8} {ok : Bool} (h : Tk w B l ok) : w.cell? ⟨B, 0, none⟩ = some (.string ⟨l.toArray⟩) := Row.cell h 0
theorem Tk.c1 {w : World} {B : Nat} {l : List UInt8} {ok : Bool} (h : Tk w B l ok) : w.cell? ⟨B, 1, none⟩ = some (.bool ok) := Row.cell h 1
theorem Tk.f {w : World} {B : Nat} {l : List UInt8} {ok : Bool} (h : Tk w B l ok) (i : Nat) : w.frozen? ⟨B, i, none⟩ = false := Row.frozen h i
theorem Tk.put0 {w : World} {B : Nat} {l : List UInt8} {ok : Bool} (h : Tk w B l ok) (l' : List UInt8) : Tk (w.setCell ⟨B, 0, none⟩ (.string ⟨l'.toArray⟩)) B l' ok := by
  have := Row.put h 0 (txt l')
  simpa [Tk, txt] using this
theorem Tk.put1 {w : World} {B : Nat} {l : List UInt8} {ok : Bool} (h : Tk w B l ok) (ok' : Bool) : Tk (w.setCell ⟨B, 1, none⟩ (.bool ok')) B l ok' := by
  have := Row.put h 1 (.bool ok')
  simpa [Tk, txt] using this
set_option maxHeartbeats 400000 in
theorem mark_c (B : Nat) (l : List UInt8) (ok : Bool) (m : ByteArray) (w : World) (h : Tk w B l ok) :
    Calls Tryz.prog 13 #[.pointer (some ⟨B, 0, none⟩), .string m] w fun e w' => e = .returned (.bool (Lib.hasPrefix l m.data.toList)) ∧ w' = w.setCell ⟨B, 0, none⟩ (.string ⟨(Lib.trimPrefix l m.data.toList).toArray⟩) := by
  have c0 := h.c0
  have f0 := h.f 0
  have hd : ((⟨l.toArray⟩ : ByteArray).data.toList) = l := rfl
  have HD := Lib.hid hd; clear hd h
  go_enter Tryz.func13, Tryz.ntmps13
  go_wp2_with (go_at_call 35; refine (Tryz.strings_CutPrefix _ _ _).mono ?_; rintro e w' ⟨rfl, rfl⟩; try rw [HD.out])
  go_ret
  exact ⟨rfl, rfl⟩
theorem mark_t (B : Nat) (l : List UInt8) (ok : Bool) (m : ByteArray) (w : World) (h : Tk w B l ok) :
    Calls Tryz.prog 13 #[.pointer (some ⟨B, 0, none⟩), .string m] w fun e w' => e = .returned (.bool (Lib.hasPrefix l m.data.toList)) ∧ Tk w' B (Lib.trimPrefix l m.data.toList) ok ∧ Turn (· = B) w w' :=
  (mark_c B l ok m w h).mono fun e w' ⟨he, hw⟩ => by
    subst hw
    exact ⟨he, h.put0 _, (Turn.refl (· = B) w).put (q := ⟨B, 0, none⟩) rfl _⟩
set_option maxHeartbeats 400000 in
theorem need_t (B : Nat) (l : List UInt8) (ok : Bool) (m : ByteArray) (w : World) (h : Tk w B l ok) :
    Calls Tryz.prog 16 #[.pointer (some ⟨B, 0, none⟩), .string m] w fun e w' => e = .returned (.tuple #[]) ∧ Tk w' B (Lib.trimPrefix l m.data.toList) (ok && Lib.hasPrefix l m.data.toList) ∧ Turn (· = B) w w' := by
  have H := Lib.hid h; clear h
  cases hp : Lib.hasPrefix l m.data.toList
  · go_enter Tryz.func16, Tryz.ntmps16
    go_wp2_with (go_at_call 13; refine (mark_t _ _ _ _ _ H.out).mono ?_; rintro e w1 ⟨rfl, h1, t1⟩; have c1 := h1.c1; have f1 := h1.f 1)
    refine bodyPost_end (v := .tuple #[]) (by simp [results, Tryz.results16, go_sem]) rfl ⟨rfl, ?_, ?_⟩
    · simpa using h1.put1 false
    · exact t1.put (q := ⟨B, 1, none⟩) rfl _
  · go_enter Tryz.func16, Tryz.ntmps16
    go_wp2_with (go_at_call 13; refine (mark_t _ _ _ _ _ H.out).mono ?_; rintro e w1 ⟨rfl, h1, t1⟩; have c1 := h1.c1; have f1 := h1.f 1)
    refine bodyPost_end (v := .tuple #[]) (by simp [results, Tryz.results16, go_sem]) rfl ⟨rfl, ?_, ?_⟩
    · simpa using h1
    · exact t1
def pAny (p : UInt8 → Bool) (l : List UInt8) : Bool := l.any p
def pTo (p : UInt8 → Bool) (l : List UInt8) : List UInt8 := if l.any p then l.takeWhile (fun c => !p c) else []
def pFrom (p : UInt8 → Bool) (l : List UInt8) : List UInt8 := if l.any p then l.dropWhile (fun c => !p c) else l
theorem cut_at (p : UInt8 → Bool) : ∀ (l : List UInt8) (k : Nat), (l.take k).any p = false → (h : k < l.length) → p l[k] = true → l.any p = true ∧ l.takeWhile (fun c => !p c) = l.take k ∧ l.dropWhile (fun c => !p c) = l.drop k
  | [], k, _, h, _ => absurd h (by simp)
  | c :: l, 0, _, _, hp => by simp at hp; simp [hp]
  | c :: l, k + 1, ht, h, hp => by
    simp only [List.take_succ_cons, List.any_cons, Bool.or_eq_false_iff] at ht
    obtain ⟨h1, h2, h3⟩ := cut_at p l k ht.2 (by simpa using h) (by simpa using hp)
    simp [ht.1, h1, h2, h3]
theorem any_take_succ (p : UInt8 → Bool) (l : List UInt8) (k : Nat) (h : k < l.length) (ht : (l.take k).any p = false) (hp : p l[k] = false) : (l.take (k + 1)).any p = false := by
  rw [List.take_succ_eq_append_getElem h, List.any_append, ht]
  simpa using hp
def gtB (c : UInt8) : Bool := c == 62
set_option maxHeartbeats 400000 in
theorem gt_c (c : UInt8) (w : World) : Calls Tryz.prog 32 #[.int .u8 c.toNat] w fun e w' => e = .returned (.bool (gtB c)) ∧ w = w' := by
  have e : ((c.toNat : Int) == 62) = gtB c := byte_eq c 62 (by decide)
  have E := Lib.hid e; clear e
  go_enter Tryz.func32, Tryz.ntmps32
  go_wp2
  go_ret
  exact ⟨by rw [← E.out]; rfl, rfl⟩
set_option maxHeartbeats 1000000 in
theorem upto_gt (B : Nat) (l : List UInt8) (ok : Bool) (w : World) (h : Tk w B l ok) (hl : l.length ≤ 140737488355328) :
    Calls Tryz.prog 31 #[.pointer (some ⟨B, 0, none⟩), .func (.func 32) #[] #[]] w fun e w' => e = .returned (txt (pTo gtB l)) ∧ Tk w' B (pFrom gtB l) (ok && pAny gtB l) ∧ Turn (· = B) w w' := by
  have c0 := h.c0
  have c1 := h.c1
  have f0 := h.f 0
  have f1 := h.f 1
  obtain ⟨s, hs⟩ : ∃ s : ByteArray, s = ⟨l.toArray⟩ := ⟨_, rfl⟩
  have hsl : s.data.toList = l := by rw [hs]
  have hsz : s.size = l.length := by rw [hs]; rfl
  rw [← hs] at c0
  have H := Lib.hid h; have HS := Lib.hid hs; have HL := Lib.hid hsl; have HZ := Lib.hid hsz
  clear h hs hsl hsz
  have hb : s.size ≤ 140737488355328 := by rw [HZ.out]; exact hl
  go_enter Tryz.func31, Tryz.ntmps31
  go_wp2_with fail
  go_loopg [5, 12] s.size (fun g i c wr => ∃ k : Nat, k ≤ s.size ∧ g = s.size - k ∧ c = .int .i64 k ∧ Hid ((s.data.toList.take k).any gtB = false) ∧ w = wr)
  case atStart => exact ⟨0, by omega, rfl, rfl, by show (s.data.toList.take 0).any _ = false; simp, rfl⟩
  case round =>
    obtain ⟨k, hk, hg, rfl, hno, rfl⟩ := hrel
    have HG := Lib.hid hg; clear hg
    by_cases hlt : k < s.size
    · have hkl : k < s.data.toList.length := by simpa using hlt
      have hget : s.data.toList[k] = s[k] := rfl
      cases hp : gtB s[k]
      · have hno2 : Hid ((s.data.toList.take (k + 1)).any gtB = false) := any_take_succ _ _ _ hkl hno.out (by rw [hget]; exact hp)
        have HN := Lib.hid hno2; clear hno2 hget hno
        go_wp2_with (go_at_call 32; refine (gt_c _ _).mono ?_; rintro e w' ⟨rfl, rfl⟩)
        go_roundg (s.size - (k + 1))
        case measure => rw [HG.out]; omega
        case rel => exact ⟨k + 1, by omega, rfl, by go_num, HN.out, rfl⟩
      · have hkl : k < s.data.toList.length := by simpa using hlt
        have hget : s.data.toList[k] = s[k] := rfl
        obtain ⟨q1, q2, q3⟩ := cut_at gtB s.data.toList k hno.out hkl (by rw [hget]; exact hp)
        rw [HL.out] at q1 q2 q3
        have Q := Lib.hid (show pTo gtB l = l.take k ∧ pFrom gtB l = l.drop k ∧ pAny gtB l = true from ⟨by rw [pTo, if_pos q1]; exact q2, by rw [pFrom, if_pos q1]; exact q3, q1⟩)
        clear q1 q2 q3 hget hno
        go_wp2_with (go_at_call 32; refine (gt_c _ _).mono ?_; rintro e w' ⟨rfl, rfl⟩)
        go_ret
        obtain ⟨r1, r2, r3⟩ := Q.out
        refine ⟨?_, ?_, (Turn.refl (· = B) w).put (q := ⟨B, 0, none⟩) rfl _⟩
        · refine ret_v ?_
          rw [r1]
          show Value.string (s.extract 0 k) = _
          rw [piece_to, HL.out]
          rfl
        · rw [r2, r3, Bool.and_true, piece_from, HL.out]
          exact H.out.put0 _
    · have hlt' : decide ((k : Int) < (s.size : Int)) = false := decide_eq_false (by omega)
      have hq : l.any gtB = false := by
        have := hno.out
        rwa [HL.out, List.take_of_length_le (by have := HZ.out; omega)] at this
      have Q := Lib.hid (show pTo gtB l = [] ∧ pFrom gtB l = l ∧ pAny gtB l = false from ⟨by rw [pTo, if_neg (by rw [hq]; simp)], by rw [pFrom, if_neg (by rw [hq]; simp)], hq⟩)
      clear hno hq
      go_wp2_with fail
      go_ret
      obtain ⟨r1, r2, r3⟩ := Q.out
      refine ⟨ret_v (by rw [r1]; rfl), ?_, (Turn.refl (· = B) w).put (q := ⟨B, 1, none⟩) rfl _⟩
      rw [r2, r3, Bool.and_false]
      exact H.out.put1 false
def spB (c : UInt8) : Bool := c == 32
set_option maxHeartbeats 400000 in
theorem sp_c (c : UInt8) (w : World) : Calls Tryz.prog 41 #[.int .u8 c.toNat] w fun e w' => e = .returned (.bool (spB c)) ∧ w = w' := by
  have e : ((c.toNat : Int) == 32) = spB c := byte_eq c 32 (by decide)
  have E := Lib.hid e; clear e
  go_enter Tryz.func41, Tryz.ntmps41
  go_wp2
  go_ret
  exact ⟨by rw [← E.out]; rfl, rfl⟩
set_option maxHeartbeats 1000000 in
theorem upto_sp (B : Nat) (l : List UInt8) (ok : Bool) (w : World) (h : Tk w B l ok) (hl : l.length ≤ 140737488355328) :
    Calls Tryz.prog 31 #[.pointer (some ⟨B, 0, none⟩), .func (.func 41) #[] #[]] w fun e w' => e = .returned (txt (pTo spB l)) ∧ Tk w' B (pFrom spB l) (ok && pAny spB l) ∧ Turn (· = B) w w' := by
  have c0 := h.c0
  have c1 := h.c1
  have f0 := h.f 0
  have f1 := h.f 1
  obtain ⟨s, hs⟩ : ∃ s : ByteArray, s = ⟨l.toArray⟩ := ⟨_, rfl⟩
  have hsl : s.data.toList = l := by rw [hs]
  have hsz : s.size = l.length := by rw [hs]; rfl
  rw [← hs] at c0
  have H := Lib.hid h; have HS := Lib.hid hs; have HL := Lib.hid hsl; have HZ := Lib.hid hsz
  clear h hs hsl hsz
  have hb : s.size ≤ 140737488355328 := by rw [HZ.out]; exact hl
  go_enter Tryz.func31, Tryz.ntmps31
  go_wp2_with fail
  go_loopg [5, 12] s.size (fun g i c wr => ∃ k : Nat, k ≤ s.size ∧ g = s.size - k ∧ c = .int .i64 k ∧ Hid ((s.data.toList.take k).any spB = false) ∧ w = wr)
  case atStart => exact ⟨0, by omega, rfl, rfl, by show (s.data.toList.take 0).any _ = false; simp, rfl⟩
  case round =>
    obtain ⟨k, hk, hg, rfl, hno, rfl⟩ := hrel
    have HG := Lib.hid hg; clear hg
    by_cases hlt : k < s.size
    · have hkl : k < s.data.toList.length := by simpa using hlt
      have hget : s.data.toList[k] = s[k] := rfl
      cases hp : spB s[k]
      · have hno2 : Hid ((s.data.toList.take (k + 1)).any spB = false) := any_take_succ _ _ _ hkl hno.out (by rw [hget]; exact hp)
        have HN := Lib.hid hno2; clear hno2 hget hno
        go_wp2_with (go_at_call 41; refine (sp_c _ _).mono ?_; rintro e w' ⟨rfl, rfl⟩)
        go_roundg (s.size - (k + 1))
        case measure => rw [HG.out]; omega
        case rel => exact ⟨k + 1, by omega, rfl, by go_num, HN.out, rfl⟩
      · have hkl : k < s.data.toList.length := by simpa using hlt
        have hget : s.data.toList[k] = s[k] := rfl
        obtain ⟨q1, q2, q3⟩ := cut_at spB s.data.toList k hno.out hkl (by rw [hget]; exact hp)
        rw [HL.out] at q1 q2 q3
        have Q := Lib.hid (show pTo spB l = l.take k ∧ pFrom spB l = l.drop k ∧ pAny spB l = true from ⟨by rw [pTo, if_pos q1]; exact q2, by rw [pFrom, if_pos q1]; exact q3, q1⟩)
        clear q1 q2 q3 hget hno
        go_wp2_with (go_at_call 41; refine (sp_c _ _).mono ?_; rintro e w' ⟨rfl, rfl⟩)
        go_ret
        obtain ⟨r1, r2, r3⟩ := Q.out
        refine ⟨?_, ?_, (Turn.refl (· = B) w).put (q := ⟨B, 0, none⟩) rfl _⟩
        · refine ret_v ?_
          rw [r1]
          show Value.string (s.extract 0 k) = _
          rw [piece_to, HL.out]
          rfl
        · rw [r2, r3, Bool.and_true, piece_from, HL.out]
          exact H.out.put0 _
    · have hlt' : decide ((k : Int) < (s.size : Int)) = false := decide_eq_false (by omega)
      have hq : l.any spB = false := by
        have := hno.out
        rwa [HL.out, List.take_of_length_le (by have := HZ.out; omega)] at this
      have Q := Lib.hid (show pTo spB l = [] ∧ pFrom spB l = l ∧ pAny spB l = false from ⟨by rw [pTo, if_neg (by rw [hq]; simp)], by rw [pFrom, if_neg (by rw [hq]; simp)], hq⟩)
      clear hno hq
      go_wp2_with fail
      go_ret
      obtain ⟨r1, r2, r3⟩ := Q.out
      refine ⟨ret_v (by rw [r1]; rfl), ?_, (Turn.refl (· = B) w).put (q := ⟨B, 1, none⟩) rfl _⟩
      rw [r2, r3, Bool.and_false]
      exact H.out.put1 false
def spbB (c : UInt8) : Bool := c == 32 || c == 93
set_option maxHeartbeats 400000 in
theorem spb_c (c : UInt8) (w : World) : Calls Tryz.prog 43 #[.int .u8 c.toNat] w fun e w' => e = .returned (.bool (spbB c)) ∧ w = w' := by
  have e1 : ((c.toNat : Int) == 32) = (c == 32) := byte_eq c 32 (by decide)
  have e2 : ((c.toNat : Int) == 93) = (c == 93) := byte_eq c 93 (by decide)
  cases h1 : (c == 32)
  · rw [h1] at e1
    have E := Lib.hid (show ((c.toNat : Int) == 93) = spbB c by unfold spbB; rw [e2, h1, Bool.false_or]); clear e2
    go_enter Tryz.func43, Tryz.ntmps43
    go_wp2
    go_ret
    exact ⟨by rw [← E.out]; rfl, rfl⟩
  · rw [h1] at e1
    have E := Lib.hid (show spbB c = true by unfold spbB; rw [h1, Bool.true_or]); clear e2
    go_enter Tryz.func43, Tryz.ntmps43
    go_wp2
    go_ret
    exact ⟨by rw [E.out]; rfl, rfl⟩
set_option maxHeartbeats 1000000 in
theorem upto_spb (B : Nat) (l : List UInt8) (ok : Bool) (w : World) (h : Tk w B l ok) (hl : l.length ≤ 140737488355328) :
    Calls Tryz.prog 31 #[.pointer (some ⟨B, 0, none⟩), .func (.func 43) #[] #[]] w fun e w' => e = .returned (txt (pTo spbB l)) ∧ Tk w' B (pFrom spbB l) (ok && pAny spbB l) ∧ Turn (· = B) w w' := by
  have c0 := h.c0
  have c1 := h.c1
  have f0 := h.f 0
  have f1 := h.f 1
  obtain ⟨s, hs⟩ : ∃ s : ByteArray, s = ⟨l.toArray⟩ := ⟨_, rfl⟩
  have hsl : s.data.toList = l := by rw [hs]
  have hsz : s.size = l.length := by rw [hs]; rfl
  rw [← hs] at c0
  have H := Lib.hid h; have HS := Lib.hid hs; have HL := Lib.hid hsl; have HZ := Lib.hid hsz
  clear h hs hsl hsz
  have hb : s.size ≤ 140737488355328 := by rw [HZ.out]; exact hl
  go_enter Tryz.func31, Tryz.ntmps31
  go_wp2_with fail
  go_loopg [5, 12] s.size (fun g i c wr => ∃ k : Nat, k ≤ s.size ∧ g = s.size - k ∧ c = .int .i64 k ∧ Hid ((s.data.toList.take k).any spbB = false) ∧ w = wr)
  case atStart => exact ⟨0, by omega, rfl, rfl, by show (s.data.toList.take 0).any _ = false; simp, rfl⟩
  case round =>
    obtain ⟨k, hk, hg, rfl, hno, rfl⟩ := hrel
    have HG := Lib.hid hg; clear hg
    by_cases hlt : k < s.size
    · have hkl : k < s.data.toList.length := by simpa using hlt
      have hget : s.data.toList[k] = s[k] := rfl
      cases hp : spbB s[k]
      · have hno2 : Hid ((s.data.toList.take (k + 1)).any spbB = false) := any_take_succ _ _ _ hkl hno.out (by rw [hget]; exact hp)
        have HN := Lib.hid hno2; clear hno2 hget hno
        go_wp2_with (go_at_call 43; refine (spb_c _ _).mono ?_; rintro e w' ⟨rfl, rfl⟩)
        go_roundg (s.size - (k + 1))
        case measure => rw [HG.out]; omega
        case rel => exact ⟨k + 1, by omega, rfl, by go_num, HN.out, rfl⟩
      · have hkl : k < s.data.toList.length := by simpa using hlt
        have hget : s.data.toList[k] = s[k] := rfl
        obtain ⟨q1, q2, q3⟩ := cut_at spbB s.data.toList k hno.out hkl (by rw [hget]; exact hp)
        rw [HL.out] at q1 q2 q3
        have Q := Lib.hid (show pTo spbB l = l.take k ∧ pFrom spbB l = l.drop k ∧ pAny spbB l = true from ⟨by rw [pTo, if_pos q1]; exact q2, by rw [pFrom, if_pos q1]; exact q3, q1⟩)
        clear q1 q2 q3 hget hno
        go_wp2_with (go_at_call 43; refine (spb_c _ _).mono ?_; rintro e w' ⟨rfl, rfl⟩)
        go_ret
        obtain ⟨r1, r2, r3⟩ := Q.out
        refine ⟨?_, ?_, (Turn.refl (· = B) w).put (q := ⟨B, 0, none⟩) rfl _⟩
        · refine ret_v ?_
          rw [r1]
          show Value.string (s.extract 0 k) = _
          rw [piece_to, HL.out]
          rfl
        · rw [r2, r3, Bool.and_true, piece_from, HL.out]
          exact H.out.put0 _
    · have hlt' : decide ((k : Int) < (s.size : Int)) = false := decide_eq_false (by omega)
      have hq : l.any spbB = false := by
        have := hno.out
        rwa [HL.out, List.take_of_length_le (by have := HZ.out; omega)] at this
      have Q := Lib.hid (show pTo spbB l = [] ∧ pFrom spbB l = l ∧ pAny spbB l = false from ⟨by rw [pTo, if_neg (by rw [hq]; simp)], by rw [pFrom, if_neg (by rw [hq]; simp)], hq⟩)
      clear hno hq
      go_wp2_with fail
      go_ret
      obtain ⟨r1, r2, r3⟩ := Q.out
      refine ⟨ret_v (by rw [r1]; rfl), ?_, (Turn.refl (· = B) w).put (q := ⟨B, 1, none⟩) rfl _⟩
      rw [r2, r3, Bool.and_false]
      exact H.out.put1 false
def eqB (c : UInt8) : Bool := c == 61
set_option maxHeartbeats 400000 in
theorem eq_c (c : UInt8) (w : World) : Calls Tryz.prog 44 #[.int .u8 c.toNat] w fun e w' => e = .returned (.bool (eqB c)) ∧ w = w' := by
  have e : ((c.toNat : Int) == 61) = eqB c := byte_eq c 61 (by decide)
  have E := Lib.hid e; clear e
  go_enter Tryz.func44, Tryz.ntmps44
  go_wp2
  go_ret
  exact ⟨by rw [← E.out]; rfl, rfl⟩
set_option maxHeartbeats 1000000 in
theorem upto_eq (B : Nat) (l : List UInt8) (ok : Bool) (w : World) (h : Tk w B l ok) (hl : l.length ≤ 140737488355328) :
    Calls Tryz.prog 31 #[.pointer (some ⟨B, 0, none⟩), .func (.func 44) #[] #[]] w fun e w' => e = .returned (txt (pTo eqB l)) ∧ Tk w' B (pFrom eqB l) (ok && pAny eqB l) ∧ Turn (· = B) w w' := by
  have c0 := h.c0
  have c1 := h.c1
  have f0 := h.f 0
  have f1 := h.f 1
  obtain ⟨s, hs⟩ : ∃ s : ByteArray, s = ⟨l.toArray⟩ := ⟨_, rfl⟩
  have hsl : s.data.toList = l := by rw [hs]
  have hsz : s.size = l.length := by rw [hs]; rfl
  rw [← hs] at c0
  have H := Lib.hid h; have HS := Lib.hid hs; have HL := Lib.hid hsl; have HZ := Lib.hid hsz
  clear h hs hsl hsz
  have hb : s.size ≤ 140737488355328 := by rw [HZ.out]; exact hl
  go_enter Tryz.func31, Tryz.ntmps31
  go_wp2_with fail
  go_loopg [5, 12] s.size (fun g i c wr => ∃ k : Nat, k ≤ s.size ∧ g = s.size - k ∧ c = .int .i64 k ∧ Hid ((s.data.toList.take k).any eqB = false) ∧ w = wr)
  case atStart => exact ⟨0, by omega, rfl, rfl, by show (s.data.toList.take 0).any _ = false; simp, rfl⟩
  case round =>
    obtain ⟨k, hk, hg, rfl, hno, rfl⟩ := hrel
    have HG := Lib.hid hg; clear hg
    by_cases hlt : k < s.size
    · have hkl : k < s.data.toList.length := by simpa using hlt
      have hget : s.data.toList[k] = s[k] := rfl
      cases hp : eqB s[k]
      · have hno2 : Hid ((s.data.toList.take (k + 1)).any eqB = false) := any_take_succ _ _ _ hkl hno.out (by rw [hget]; exact hp)
        have HN := Lib.hid hno2; clear hno2 hget hno
        go_wp2_with (go_at_call 44; refine (eq_c _ _).mono ?_; rintro e w' ⟨rfl, rfl⟩)
        go_roundg (s.size - (k + 1))
        case measure => rw [HG.out]; omega
        case rel => exact ⟨k + 1, by omega, rfl, by go_num, HN.out, rfl⟩
      · have hkl : k < s.data.toList.length := by simpa using hlt
        have hget : s.data.toList[k] = s[k] := rfl
        obtain ⟨q1, q2, q3⟩ := cut_at eqB s.data.toList k hno.out hkl (by rw [hget]; exact hp)
        rw [HL.out] at q1 q2 q3
        have Q := Lib.hid (show pTo eqB l = l.take k ∧ pFrom eqB l = l.drop k ∧ pAny eqB l = true from ⟨by rw [pTo, if_pos q1]; exact q2, by rw [pFrom, if_pos q1]; exact q3, q1⟩)
        clear q1 q2 q3 hget hno
        go_wp2_with (go_at_call 44; refine (eq_c _ _).mono ?_; rintro e w' ⟨rfl, rfl⟩)
        go_ret
        obtain ⟨r1, r2, r3⟩ := Q.out
        refine ⟨?_, ?_, (Turn.refl (· = B) w).put (q := ⟨B, 0, none⟩) rfl _⟩
        · refine ret_v ?_
          rw [r1]
          show Value.string (s.extract 0 k) = _
          rw [piece_to, HL.out]
          rfl
        · rw [r2, r3, Bool.and_true, piece_from, HL.out]
          exact H.out.put0 _
    · have hlt' : decide ((k : Int) < (s.size : Int)) = false := decide_eq_false (by omega)
      have hq : l.any eqB = false := by
        have := hno.out
        rwa [HL.out, List.take_of_length_le (by have := HZ.out; omega)] at this
      have Q := Lib.hid (show pTo eqB l = [] ∧ pFrom eqB l = l ∧ pAny eqB l = false from ⟨by rw [pTo, if_neg (by rw [hq]; simp)], by rw [pFrom, if_neg (by rw [hq]; simp)], hq⟩)
      clear hno hq
      go_wp2_with fail
      go_ret
      obtain ⟨r1, r2, r3⟩ := Q.out
      refine ⟨ret_v (by rw [r1]; rfl), ?_, (Turn.refl (· = B) w).put (q := ⟨B, 1, none⟩) rfl _⟩
      rw [r2, r3, Bool.and_false]
      exact H.out.put1 false
end Go.Proofs.YtdkfgobbpadmgaaGreatDoor
