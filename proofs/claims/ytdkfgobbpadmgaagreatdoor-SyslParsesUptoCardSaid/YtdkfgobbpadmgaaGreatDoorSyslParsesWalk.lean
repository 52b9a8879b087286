/- The law SyslParses, walked: it returns true for all texts of a bulk of at most 1048576. -/
import Derived.Test.YtdkfgobbpadmgaaGreatDoorCalOk
import Derived.Test.YtdkfgobbpadmgaaGreatDoorRef5Same
import Derived.Test.YtdkfgobbpadmgaaGreatDoorRef5Parse
set_option linter.unusedVariables false
set_option linter.unusedSimpArgs false
namespace Go.Proofs.YtdkfgobbpadmgaaGreatDoor
open Go.RowKit
theorem POST.none_out {l : List UInt8} {w w' : World} {e : Ending} (hp : parseN calD l = none) (h : POST calD l w e w') : e = .returned (.tuple #[.agg #[.int .i64 0, .int .i64 0, .bool false, .int .i64 0, .string ⟨#[]⟩, .string ⟨#[]⟩, .string ⟨#[]⟩, .string ⟨#[]⟩, .slice none 0 0, .string ⟨#[]⟩], .int .i64 3]) ∧ Below w.heap.size w w' := by
  unfold POST at h
  rw [hp] at h
  exact ⟨h.2, h.1⟩
theorem POST.some_out {l : List UInt8} {x : PEv} {w w' : World} {e : Ending} (hp : parseN calD l = some x) (h : POST calD l w e w') : ∃ a n c es, e = .returned (.tuple #[.agg #[.int .i64 (x.g : Int), .int .i64 (x.f : Int), .bool x.t, .int .i64 x.a, .string ⟨x.host.toArray⟩, .string ⟨x.app.toArray⟩, .string ⟨x.proc.toArray⟩, .string ⟨x.id.toArray⟩, .slice a n c, .string ⟨x.text.toArray⟩], .int .i64 0]) ∧ OwnEls w' w.heap.size (.slice a n c) es ∧ es.map (fun y => (y.1, y.2.2)) = x.data ∧ Below w.heap.size w w' := by
  unfold POST at h
  rw [hp] at h
  obtain ⟨hb, dv, es, he, ho, hm⟩ := h
  obtain ⟨a, n, c, rfl⟩ := owns_slice ho.row
  exact ⟨a, n, c, es, he, ho, hm, hb⟩
theorem Elems.none (w : World) : Elems w (.slice none 0 0) [] := ⟨Option.none, 0, rfl, by simp, fun i h => absurd h (by simp)⟩
theorem EB.none : EB [] := ⟨by simp, by simp, by simp, by simp⟩
set_option maxHeartbeats 2000000 in
set_option maxRecDepth 100000 in
theorem parses_law (s : ByteArray) (w : World) (hG : Glb w) (hs : s.size ≤ 1048576) :
    Calls Tryz.prog 3 #[.string s] w fun e w' => e = .returned (.bool true) ∧ Below w.heap.size w w' := by
  have HS := Lib.hid (shown_c w hG)
  have hsl : s.data.toList.length ≤ 4194304 := by have : s.data.toList.length = s.size := rfl; omega
  have hst : (⟨s.data.toList.toArray⟩ : ByteArray) = s := by cases s; simp
  have HP1 : Hid (∀ W : World, Glb W → Calls Tryz.prog 6 #[.string s] W (POST calD s.data.toList W)) := Lib.hid fun W hW => by
    have h := parse_c calD s.data.toList W hsl hW (.inr calOk)
    rw [hst] at h
    exact h
  have HP2 : Hid (∀ W : World, Calls Tryz.prog 7 #[.string s] W (POST calD s.data.toList W)) := Lib.hid fun W => ref5_c s W (by omega)
  have HGL := Lib.hid hG
  clear hG hst
  cases hp : parseN calD s.data.toList with
  | none =>
    have HA1 : Hid (∀ W : World, Glb W → Calls Tryz.prog 6 #[.string s] W fun e w' => e = .returned (.tuple #[.agg #[.int .i64 0, .int .i64 0, .bool false, .int .i64 0, .string ⟨#[]⟩, .string ⟨#[]⟩, .string ⟨#[]⟩, .string ⟨#[]⟩, .slice none 0 0, .string ⟨#[]⟩], .int .i64 3]) ∧ Below W.heap.size W w') := Lib.hid fun W hW => (HP1.out W hW).mono fun e w' h => h.none_out hp
    have HA2 : Hid (∀ W : World, Calls Tryz.prog 7 #[.string s] W fun e w' => e = .returned (.tuple #[.agg #[.int .i64 0, .int .i64 0, .bool false, .int .i64 0, .string ⟨#[]⟩, .string ⟨#[]⟩, .string ⟨#[]⟩, .string ⟨#[]⟩, .slice none 0 0, .string ⟨#[]⟩], .int .i64 3]) ∧ Below W.heap.size W w') := Lib.hid fun W => (HP2.out W).mono fun e w' h => h.none_out hp
    have HSM : Hid (∀ W : World, Calls Tryz.prog 8 #[.agg #[.int .i64 0, .int .i64 0, .bool false, .int .i64 0, .string ⟨#[]⟩, .string ⟨#[]⟩, .string ⟨#[]⟩, .string ⟨#[]⟩, .slice none 0 0, .string ⟨#[]⟩], .agg #[.int .i64 0, .int .i64 0, .bool false, .int .i64 0, .string ⟨#[]⟩, .string ⟨#[]⟩, .string ⟨#[]⟩, .string ⟨#[]⟩, .slice none 0 0, .string ⟨#[]⟩]] W fun e w' => e = .returned (.bool true) ∧ Below W.heap.size W w') := Lib.hid fun W => rsame_c 0 0 false 0 ⟨#[]⟩ ⟨#[]⟩ ⟨#[]⟩ ⟨#[]⟩ ⟨#[]⟩ (.slice none 0 0) (.slice none 0 0) [] [] W (Elems.none W) (Elems.none W) EB.none rfl
    clear hp HP1 HP2
    go_enter Tryz.func3, Tryz.ntmps3
    go_wp2_with (first
      | (go_at_call 5; refine HS.out.mono ?_; rintro e w1 ⟨rfl, b1⟩; have HB1 := Lib.hid b1; clear b1)
      | (go_at_call 6; refine (HA1.out _ (HGL.out.below HB1.out)).mono ?_; rintro e w2 ⟨rfl, b2⟩; have HB2 := Lib.hid ((HB1.out.trans (b2.mono HB1.out.size)).alloc (Nat.le_trans HB1.out.size b2.size) (Obj.cells #[.int .i64 0, .int .i64 0, .bool false, .int .i64 0, .string ⟨#[]⟩, .string ⟨#[]⟩, .string ⟨#[]⟩, .string ⟨#[]⟩, .slice none 0 0, .string ⟨#[]⟩] 25)); have HX2 := Lib.hid (Row.laid w2 25 #[.int .i64 0, .int .i64 0, .bool false, .int .i64 0, .string ⟨#[]⟩, .string ⟨#[]⟩, .string ⟨#[]⟩, .string ⟨#[]⟩, .slice none 0 0, .string ⟨#[]⟩]); clear b2)
      | (go_at_call 7; refine (HA2.out _).mono ?_; rintro e w3 ⟨rfl, b3⟩; have HB3 := Lib.hid ((HB2.out.trans (b3.mono HB2.out.size)).alloc (Nat.le_trans HB2.out.size b3.size) (Obj.cells #[.int .i64 0, .int .i64 0, .bool false, .int .i64 0, .string ⟨#[]⟩, .string ⟨#[]⟩, .string ⟨#[]⟩, .string ⟨#[]⟩, .slice none 0 0, .string ⟨#[]⟩] 25)); have HX3 := Lib.hid ((HX2.out.below b3 HX2.out.lt).alloc (Obj.cells #[.int .i64 0, .int .i64 0, .bool false, .int .i64 0, .string ⟨#[]⟩, .string ⟨#[]⟩, .string ⟨#[]⟩, .string ⟨#[]⟩, .slice none 0 0, .string ⟨#[]⟩] 25)); have HY3 := Lib.hid (Row.laid w3 25 #[.int .i64 0, .int .i64 0, .bool false, .int .i64 0, .string ⟨#[]⟩, .string ⟨#[]⟩, .string ⟨#[]⟩, .string ⟨#[]⟩, .slice none 0 0, .string ⟨#[]⟩]); clear b3)
      | (refine wpList_load_row rfl 25 (.tmp 4) rfl w2.heap.size rfl 25 #[.int .i64 0, .int .i64 0, .bool false, .int .i64 0, .string ⟨#[]⟩, .string ⟨#[]⟩, .string ⟨#[]⟩, .string ⟨#[]⟩, .slice none 0 0, .string ⟨#[]⟩] (0, 0) _ HX3.out Tryz.underlying25 rfl evSize ?_)
      | (refine wpList_load_row rfl 25 (.tmp 6) rfl w3.heap.size rfl 25 #[.int .i64 0, .int .i64 0, .bool false, .int .i64 0, .string ⟨#[]⟩, .string ⟨#[]⟩, .string ⟨#[]⟩, .string ⟨#[]⟩, .slice none 0 0, .string ⟨#[]⟩] (0, 0) _ HY3.out Tryz.underlying25 rfl evSize ?_)
      | (go_at_call 8; refine (HSM.out _).mono ?_; rintro e w4 ⟨rfl, b4⟩; have HB4 := Lib.hid (HB3.out.trans (b4.mono HB3.out.size)); clear b4))
    go_ret
    exact ⟨rfl, HB4.out⟩
  | some x =>
    obtain ⟨⟨hsm1, hsm2⟩, -, -⟩ := parse_small 4194304 hsl hp
    have HSML := Lib.hid (show x.data.length ≤ 4194304 ∧ ∀ y ∈ x.data, y.1.length ≤ 4194304 ∧ y.2.length ≤ 4194304 ∧ ∀ q ∈ y.2, q.1.length ≤ 4194304 ∧ q.2.length ≤ 4194304 from ⟨hsm1, hsm2⟩)
    obtain ⟨g0, hg0⟩ : ∃ g : Int, g = (x.g : Int) := ⟨_, rfl⟩
    obtain ⟨f0, hf0⟩ : ∃ f : Int, f = (x.f : Int) := ⟨_, rfl⟩
    obtain ⟨h0, hh0⟩ : ∃ h : ByteArray, h = ⟨x.host.toArray⟩ := ⟨_, rfl⟩
    obtain ⟨h1, hh1⟩ : ∃ h : ByteArray, h = ⟨x.app.toArray⟩ := ⟨_, rfl⟩
    obtain ⟨h2, hh2⟩ : ∃ h : ByteArray, h = ⟨x.proc.toArray⟩ := ⟨_, rfl⟩
    obtain ⟨h3, hh3⟩ : ∃ h : ByteArray, h = ⟨x.id.toArray⟩ := ⟨_, rfl⟩
    obtain ⟨h4, hh4⟩ : ∃ h : ByteArray, h = ⟨x.text.toArray⟩ := ⟨_, rfl⟩
    obtain ⟨tt, htt⟩ : ∃ t : Bool, t = x.t := ⟨_, rfl⟩
    obtain ⟨aa, haa⟩ : ∃ a : Int, a = x.a := ⟨_, rfl⟩
    have HA1 : Hid (∀ W : World, Glb W → Calls Tryz.prog 6 #[.string s] W fun e w' => ∃ a n c es, e = .returned (.tuple #[.agg #[.int .i64 g0, .int .i64 f0, .bool tt, .int .i64 aa, .string h0, .string h1, .string h2, .string h3, .slice a n c, .string h4], .int .i64 0]) ∧ OwnEls w' W.heap.size (.slice a n c) es ∧ es.map (fun y => (y.1, y.2.2)) = x.data ∧ Below W.heap.size W w') := Lib.hid fun W hW => (HP1.out W hW).mono fun e w' h => by
      rw [hg0, hf0, hh0, hh1, hh2, hh3, hh4, htt, haa]
      exact h.some_out hp
    have HA2 : Hid (∀ W : World, Calls Tryz.prog 7 #[.string s] W fun e w' => ∃ a n c es, e = .returned (.tuple #[.agg #[.int .i64 g0, .int .i64 f0, .bool tt, .int .i64 aa, .string h0, .string h1, .string h2, .string h3, .slice a n c, .string h4], .int .i64 0]) ∧ OwnEls w' W.heap.size (.slice a n c) es ∧ es.map (fun y => (y.1, y.2.2)) = x.data ∧ Below W.heap.size W w') := Lib.hid fun W => (HP2.out W).mono fun e w' h => by
      rw [hg0, hf0, hh0, hh1, hh2, hh3, hh4, htt, haa]
      exact h.some_out hp
    clear hp HP1 HP2 hg0 hf0 hh0 hh1 hh2 hh3 hh4 htt haa hsm1 hsm2
    have HSM : Hid (∀ (W : World) (a : Option Addr) (n c : Nat) (es : List VEl) (a' : Option Addr) (n' c' : Nat) (es' : List VEl) (b b' : Nat), OwnEls W b (.slice a n c) es → OwnEls W b' (.slice a' n' c') es' → es.map (fun y => (y.1, y.2.2)) = x.data → es'.map (fun y => (y.1, y.2.2)) = x.data → Calls Tryz.prog 8 #[.agg #[.int .i64 g0, .int .i64 f0, .bool tt, .int .i64 aa, .string h0, .string h1, .string h2, .string h3, .slice a n c, .string h4], .agg #[.int .i64 g0, .int .i64 f0, .bool tt, .int .i64 aa, .string h0, .string h1, .string h2, .string h3, .slice a' n' c', .string h4]] W fun e w' => e = .returned (.bool true) ∧ Below W.heap.size W w') := Lib.hid fun W a n c es a' n' c' es' b b' ho ho' hm hm' =>
      rsame_c g0 f0 tt aa h0 h1 h2 h3 h4 (.slice a n c) (.slice a' n' c') (es.map VEl.bel) (es'.map VEl.bel) W ho.elems ho'.elems (EB_of hm HSML.out) (bel_map es es' (hm.trans hm'.symm))
    go_enter Tryz.func3, Tryz.ntmps3
    go_wp2_with (first
      | (go_at_call 5; refine HS.out.mono ?_; rintro e w1 ⟨rfl, b1⟩; have HB1 := Lib.hid b1; clear b1)
      | (go_at_call 6; refine (HA1.out _ (HGL.out.below HB1.out)).mono ?_; rintro e w2 ⟨a, n, c, es, rfl, ho, hm, b2⟩; have HM := Lib.hid hm; have HO2 := Lib.hid (ho.turn (p := fun _ => False) ((Turn.refl _ w2).alloc (Obj.cells #[.int .i64 g0, .int .i64 f0, .bool tt, .int .i64 aa, .string h0, .string h1, .string h2, .string h3, .slice a n c, .string h4] 25)) (by simp)); have HB2 := Lib.hid ((HB1.out.trans (b2.mono HB1.out.size)).alloc (Nat.le_trans HB1.out.size b2.size) (Obj.cells #[.int .i64 g0, .int .i64 f0, .bool tt, .int .i64 aa, .string h0, .string h1, .string h2, .string h3, .slice a n c, .string h4] 25)); have HX2 := Lib.hid (Row.laid w2 25 #[.int .i64 g0, .int .i64 f0, .bool tt, .int .i64 aa, .string h0, .string h1, .string h2, .string h3, .slice a n c, .string h4]); clear b2 hm ho)
      | (go_at_call 7; refine (HA2.out _).mono ?_; rintro e w3 ⟨a', n', c', es', rfl, ho, hm, b3⟩; have HM' := Lib.hid hm; have HO3' := Lib.hid (ho.turn (p := fun _ => False) ((Turn.refl _ w3).alloc (Obj.cells #[.int .i64 g0, .int .i64 f0, .bool tt, .int .i64 aa, .string h0, .string h1, .string h2, .string h3, .slice a' n' c', .string h4] 25)) (by simp)); have HO3 := Lib.hid ((HO2.out.lower b3).turn (p := fun _ => False) ((Turn.refl _ w3).alloc (Obj.cells #[.int .i64 g0, .int .i64 f0, .bool tt, .int .i64 aa, .string h0, .string h1, .string h2, .string h3, .slice a' n' c', .string h4] 25)) (by simp)); have HB3 := Lib.hid ((HB2.out.trans (b3.mono HB2.out.size)).alloc (Nat.le_trans HB2.out.size b3.size) (Obj.cells #[.int .i64 g0, .int .i64 f0, .bool tt, .int .i64 aa, .string h0, .string h1, .string h2, .string h3, .slice a' n' c', .string h4] 25)); have HX3 := Lib.hid ((HX2.out.below b3 HX2.out.lt).alloc (Obj.cells #[.int .i64 g0, .int .i64 f0, .bool tt, .int .i64 aa, .string h0, .string h1, .string h2, .string h3, .slice a' n' c', .string h4] 25)); have HY3 := Lib.hid (Row.laid w3 25 #[.int .i64 g0, .int .i64 f0, .bool tt, .int .i64 aa, .string h0, .string h1, .string h2, .string h3, .slice a' n' c', .string h4]); clear b3 hm ho)
      | (refine wpList_load_row rfl 25 (.tmp 4) rfl w2.heap.size rfl 25 #[.int .i64 g0, .int .i64 f0, .bool tt, .int .i64 aa, .string h0, .string h1, .string h2, .string h3, .slice a n c, .string h4] (0, 0) _ HX3.out Tryz.underlying25 rfl evSize ?_)
      | (refine wpList_load_row rfl 25 (.tmp 6) rfl w3.heap.size rfl 25 #[.int .i64 g0, .int .i64 f0, .bool tt, .int .i64 aa, .string h0, .string h1, .string h2, .string h3, .slice a' n' c', .string h4] (0, 0) _ HY3.out Tryz.underlying25 rfl evSize ?_)
      | (go_at_call 8; refine (HSM.out _ _ _ _ _ _ _ _ _ _ _ HO3.out HO3'.out HM.out HM'.out).mono ?_; rintro e w4 ⟨rfl, b4⟩; have HB4 := Lib.hid (HB3.out.trans (b4.mono HB3.out.size)); clear b4))
    go_ret
    exact ⟨rfl, HB4.out⟩
end Go.Proofs.YtdkfgobbpadmgaaGreatDoor
