/- Package sysl's taker: a word, and the blank behind it. -/
import Derived.Test.YtdkfgobbpadmgaaGreatDoorTakerPri
set_option linter.unusedVariables false
set_option linter.unusedSimpArgs false
namespace Go.Proofs.YtdkfgobbpadmgaaGreatDoor
open Go.RowKit
def blank8 : List UInt8 := [32]
def wordS (l : List UInt8) : List UInt8 := if pTo spB l = [45] then [] else pTo spB l
def wordL (l : List UInt8) : List UInt8 := Lib.trimPrefix (pFrom spB l) blank8
def wordK (l : List UInt8) : Bool := pAny spB l && Lib.hasPrefix (pFrom spB l) blank8 && !(pTo spB l).isEmpty
set_option maxHeartbeats 2000000 in
set_option maxRecDepth 100000 in
theorem word_t (B : Nat) (l : List UInt8) (ok : Bool) (w : World) (h : Tk w B l ok) (hl : l.length ≤ 4194304) :
    Calls Tryz.prog 17 #[.pointer (some ⟨B, 0, none⟩)] w fun e w' => e = .returned (txt (wordS l)) ∧ Tk w' B (wordL l) (ok && wordK l) ∧ Turn (· = B) w w' := by
  have l1 : l.length ≤ 140737488355328 := by omega
  obtain ⟨sb, hsb⟩ : ∃ sb : ByteArray, sb = ⟨(pTo spB l).toArray⟩ := ⟨_, rfl⟩
  have SB : Hid (Ending.returned (txt (pTo spB l)) = Ending.returned (.string sb)) := Lib.hid (by rw [hsb]; rfl)
  have SV : Hid (txt (pTo spB l) = .string sb) := Lib.hid (by rw [hsb]; rfl)
  have hsl : sb.data.toList = pTo spB l := by rw [hsb]
  have hq : sb.toList = pTo spB l := by rw [ByteArray.toList_eq, hsl]
  have H := Lib.hid h; have HT := Lib.hid (Turn.refl (· = B) w); clear h hsb
  have h45 : Hid ((sb.toList == [45]) = (pTo spB l == [45])) := Lib.hid (by rw [hq])
  go_enter Tryz.func17, Tryz.ntmps17
  go_wp2_with (first
    | (go_at_call 16; refine (need_t _ _ _ _ _ H.out).mono ?_; rintro e w1 ⟨rfl, h1, t1⟩; replace H := Lib.hid h1; replace HT := Lib.hid (HT.out.trans t1); have c1 := h1.c1; have f1 := h1.f 1; clear h1 t1)
    | (go_at_call 31; refine (upto_sp _ _ _ _ H.out l1).mono ?_; rintro e w1 ⟨he, h1, t1⟩; replace he := he.trans SB.out; subst he; replace H := Lib.hid h1; replace HT := Lib.hid (HT.out.trans t1); clear h1 t1))
  · rename_i h0
    go_ret
    have e0 : pTo spB l = [] := List.isEmpty_iff.1 h0
    refine ⟨ret_v (SV.out.symm.trans (by rw [wordS, if_neg (by rw [e0]; simp)])), ?_, HT.out.put (q := ⟨B, 1, none⟩) rfl _⟩
    have := H.out.put1 false
    simpa [wordL, wordK, e0, blank8] using this
  · rename_i h0 h1
    go_ret
    have e1 : pTo spB l = [45] := by simpa using h1
    refine ⟨ret_v (by rw [wordS, if_pos e1]; rfl), ?_, HT.out⟩
    simpa [wordL, wordK, e1, blank8, Bool.and_assoc] using H.out
  · rename_i h0 h1
    go_ret
    have e1 : pTo spB l ≠ [45] := by simpa using h1
    have e0 : (pTo spB l).isEmpty = false := by simpa using h0
    refine ⟨ret_v (SV.out.symm.trans (by rw [wordS, if_neg e1])), ?_, HT.out⟩
    have := H.out
    simpa [wordL, wordK, e0, blank8, Bool.and_assoc] using this
end Go.Proofs.YtdkfgobbpadmgaaGreatDoor
