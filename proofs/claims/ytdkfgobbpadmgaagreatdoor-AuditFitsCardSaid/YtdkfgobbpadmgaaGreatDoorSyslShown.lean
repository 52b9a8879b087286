/- The document's example of chapter 5, that each law of it calls first: true. -/
import Derived.Test.YtdkfgobbpadmgaaGreatDoorSyslParse
set_option linter.unusedVariables false
set_option linter.unusedSimpArgs false
namespace Go.Proofs.YtdkfgobbpadmgaaGreatDoor
open Go.RowKit
def shownT : List UInt8 := [60, 51, 52, 62, 49, 32, 45, 32, 104, 32, 97, 32, 45, 32, 45, 32, 45, 32, 104, 105]
theorem rightP_plain (x : PEv) (ht : x.t = false) (ha : x.a = 0) (hg : argB x.g x.f = false) (hw : wordsB ⟨x.host.toArray⟩ ⟨x.app.toArray⟩ ⟨x.proc.toArray⟩ ⟨x.id.toArray⟩ = true) (he : elsOk [] (x.data.map fun y => belOf y (.slice none 0 0)) = true) (hv : Lib.validD x.text = true)
    (hl : x.data.length ≤ 64) (hb : (x.data.map fun y => belOf y (.slice none 0 0)).any elBig = false) : rightP x = 0 := by
  have hm : momB x.t x.a = true := by rw [ht, ha]; rfl
  rw [rightP, rightE, hm, hg, hw, he, hb]
  have h1 : Lib.validD (⟨x.text.toArray⟩ : ByteArray).data.toList = true := hv
  have h2 : decide (64 < (x.data.map fun y => belOf y (.slice none 0 0)).length) = false := decide_eq_false (by rw [List.length_map]; omega)
  rw [h1, h2]
  rfl
theorem shown_parse : parseN (fun _ => none) shownT = some ⟨2, 4, false, 0, [104], [97], [], [], [], [104, 105]⟩ := by
  have h1 : priK shownT = true := by kernel_rfl
  have h2 : priNum (priS shownT) = some 34 := by kernel_rfl
  have h3 : headN (fun _ => none) (priL shownT) = some (false, 0, [104, 32, 97, 32, 45, 32, 45, 32, 45, 32, 104, 105], true) := by kernel_rfl
  have h4 : wordsN 4 [104, 32, 97, 32, 45, 32, 45, 32, 45, 32, 104, 105] true [] = some ([[104], [97], [], []], [45, 32, 104, 105]) := by kernel_rfl
  have h5 : dataN [45, 32, 104, 105] = ([], [32, 104, 105], true) := by kernel_rfl
  have h6 : textN [32, 104, 105] true = some ([104, 105], true) := by kernel_rfl
  have h7 : rightP ⟨34 % 8, 34 / 8, false, 0, [104], [97], [], [], [], [104, 105]⟩ = 0 := by
    refine rightP_plain _ rfl rfl ?_ ?_ ?_ ?_ ?_ ?_
    · decide
    · kernel_rfl
    · rfl
    · kernel_rfl
    · simp
    · rfl
  rw [parse_at h1 h2, h3, restN]
  simp only [h4, h5, h6]
  rw [if_pos ⟨trivial, by simpa using h7⟩]
  rfl
set_option maxHeartbeats 1000000 in
set_option maxRecDepth 100000 in
theorem shown_c (w : World) (hG : Glb w) : Calls Tryz.prog 5 #[] w fun e w' => e = .returned (.bool true) ∧ Below w.heap.size w w' := by
  have hp := parse_c (fun _ => none) shownT w (by simp [shownT]) hG (.inl (by kernel_rfl))
  have HP : Hid (Calls Tryz.prog 6 #[.string ⟨#[60, 51, 52, 62, 49, 32, 45, 32, 104, 32, 97, 32, 45, 32, 45, 32, 45, 32, 104, 105]⟩] w fun e w' => ∃ a n c, e = .returned (.tuple #[.agg #[.int .i64 2, .int .i64 4, .bool false, .int .i64 0, .string ⟨#[104]⟩, .string ⟨#[97]⟩, .string ⟨#[]⟩, .string ⟨#[]⟩, .slice a n c, .string ⟨#[104, 105]⟩], .int .i64 0]) ∧ Below w.heap.size w w') := Lib.hid (hp.mono fun e w' h => by
    unfold POST at h
    rw [shown_parse] at h
    obtain ⟨hb, dv, es, he, ho, _⟩ := h
    obtain ⟨a, n, c, rfl⟩ := owns_slice ho.row
    exact ⟨a, n, c, he, hb⟩)
  clear hp hG
  go_enter Tryz.func5, Tryz.ntmps5
  go_wp2_with (go_at_call 6; refine HP.out.mono ?_; rintro e w1 ⟨a, n, c, rfl, b1⟩; have HB := Lib.hid b1; clear b1)
  go_ret
  exact ⟨rfl, HB.out.alloc HB.out.size _⟩
end Go.Proofs.YtdkfgobbpadmgaaGreatDoor
