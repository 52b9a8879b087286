/- Package audit: Fits. -/
import Derived.Test.YtdkfgobbpadmgaaGreatDoorBrief
import Derived.Test.YtdkfgobbpadmgaaGreatDoorCalOk
import Derived.Test.YtdkfgobbpadmgaaGreatDoorSyslShown
import Derived.Laws.StructEq
import Derived.BigQuiet
set_option linter.unusedVariables false
set_option linter.unusedSimpArgs false
namespace Go.Proofs.YtdkfgobbpadmgaaGreatDoor
open Go.RowKit
def briefB (a b c d e : Int) (k : Bool) (a' b' c' d' e' : Int) (k' : Bool) : Bool := a == a' && b == b' && c == c' && d == d' && e == e' && k == k'
theorem eqBrief (a b c d e : Int) (k : Bool) (a' b' c' d' e' : Int) (k' : Bool) (w : World) :
    (binOp .eql 36 (.agg #[.int .i64 a, .int .i64 b, .int .u32 c, .int .u32 d, .int .u64 e, .bool k]) (.agg #[.int .i64 a', .int .i64 b', .int .u32 c', .int .u32 d', .int .u64 e', .bool k'])).run Tryz.prog w = .ok (.bool (briefB a b c d e k a' b' c' d' e' k')) w := by
  have hS : Tryz.prog.underlying 36 = some (.struct (Tryz.prog.fieldsOf 36)) := by kernel_rfl
  have hp : Tryz.prog.stoodInHeld 36 = false := by kernel_rfl
  rw [run_eql_struct, show (10000 : Nat) = 9999 + 1 from rfl, run_equalIn_agg w 9999 36 _ _ hS hp]
  simp only [Program.fieldsOf, Tryz.underlying36]
  go_simp
  unfold briefB
  by_cases h1 : a = a' <;> by_cases h2 : b = b' <;> by_cases h3 : c = c' <;> by_cases h4 : d = d' <;> by_cases h5 : e = e' <;> cases k <;> cases k' <;> simp [h1, h2, h3, h4, h5]
-- FITS
def fitsB (o : Option PEv) (b0 b1 b2 b3 b4 : Int) (b5 : Bool) : Bool :=
  match o with
  | none => false
  | some x => briefB x.a x.a (2 ^ x.g) (2 ^ x.f) 1 b5 b0 b1 b2 b3 b4 b5
theorem POST.nil {l : List UInt8} {w w' : World} {e : Ending} (hp : parseN calD l = none) (h : POST calD l w e w') : e = .returned (.tuple #[.agg #[.int .i64 0, .int .i64 0, .bool false, .int .i64 0, .string ⟨#[]⟩, .string ⟨#[]⟩, .string ⟨#[]⟩, .string ⟨#[]⟩, .slice none 0 0, .string ⟨#[]⟩], .int .i64 3]) ∧ Below w.heap.size w w' := by
  unfold POST at h
  rw [hp] at h
  exact ⟨h.2, h.1⟩
theorem POST.one {l : List UInt8} {x : PEv} {w w' : World} {e : Ending} (hp : parseN calD l = some x) (h : POST calD l w e w') : ∃ a n c, e = .returned (.tuple #[.agg #[.int .i64 (x.g : Int), .int .i64 (x.f : Int), .bool x.t, .int .i64 x.a, .string ⟨x.host.toArray⟩, .string ⟨x.app.toArray⟩, .string ⟨x.proc.toArray⟩, .string ⟨x.id.toArray⟩, .slice a n c, .string ⟨x.text.toArray⟩], .int .i64 0]) ∧ Below w.heap.size w w' := by
  unfold POST at h
  rw [hp] at h
  obtain ⟨hb, dv, es, he, ho, hm⟩ := h
  obtain ⟨a, n, c, rfl⟩ := owns_slice ho.row
  exact ⟨a, n, c, he, hb⟩
set_option maxHeartbeats 2000000 in
set_option maxRecDepth 100000 in
theorem fits_c (s : ByteArray) (b0 b1 b2 b3 b4 : Int) (b5 : Bool) (w : World) (hG : Glb w) (hs : s.data.toList.length ≤ 4194304) :
    Calls Tryz.prog 10 #[.string s, .agg #[.int .i64 b0, .int .i64 b1, .int .u32 b2, .int .u32 b3, .int .u64 b4, .bool b5]] w fun e w' => e = .returned (.bool (fitsB (parseN calD s.data.toList) b0 b1 b2 b3 b4 b5)) ∧ Below w.heap.size w w' := by
  have hst : (⟨s.data.toList.toArray⟩ : ByteArray) = s := by cases s; simp
  have HP1 : Hid (∀ W : World, Glb W → Calls Tryz.prog 6 #[.string s] W (POST calD s.data.toList W)) := Lib.hid fun W hW => by
    have h := parse_c calD s.data.toList W hs hW (.inr calOk)
    rw [hst] at h
    exact h
  have HB1 : Hid (Below w.heap.size w (w.alloc (Obj.cells #[.int .i64 b0, .int .i64 b1, .int .u32 b2, .int .u32 b3, .int .u64 b4, .bool b5] 36))) := Lib.hid ((Below.refl _ _).alloc (Nat.le_refl _) _)
  have HG1 := Lib.hid (hG.below HB1.out)
  have HR1 : Hid (Row (w.alloc (Obj.cells #[.int .i64 b0, .int .i64 b1, .int .u32 b2, .int .u32 b3, .int .u64 b4, .bool b5] 36)) w.heap.size 36 #[.int .i64 b0, .int .i64 b1, .int .u32 b2, .int .u32 b3, .int .u64 b4, .bool b5]) := Lib.hid (Row.laid _ _ _)
  clear hG hst
  cases hp : parseN calD s.data.toList with
  | none =>
    have HA1 : Hid (∀ W : World, Glb W → Calls Tryz.prog 6 #[.string s] W fun e w' => e = .returned (.tuple #[.agg #[.int .i64 0, .int .i64 0, .bool false, .int .i64 0, .string ⟨#[]⟩, .string ⟨#[]⟩, .string ⟨#[]⟩, .string ⟨#[]⟩, .slice none 0 0, .string ⟨#[]⟩], .int .i64 3]) ∧ Below W.heap.size W w') := Lib.hid fun W hW => (HP1.out W hW).mono fun e w' h => h.nil hp
    have hz : fitsB none b0 b1 b2 b3 b4 b5 = false := rfl
    rw [hz]
    clear hp HP1 HR1 hs hz
    go_enter Tryz.func10, Tryz.ntmps10
    go_wp2_with (go_at_call 6; refine (HA1.out _ HG1.out).mono ?_; rintro e w2 ⟨rfl, b2⟩; have HB2 := Lib.hid ((HB1.out.trans (b2.mono HB1.out.size)).alloc (Nat.le_trans HB1.out.size b2.size) (Obj.cells #[.int .i64 0, .int .i64 0, .bool false, .int .i64 0, .string ⟨#[]⟩, .string ⟨#[]⟩, .string ⟨#[]⟩, .string ⟨#[]⟩, .slice none 0 0, .string ⟨#[]⟩] 25)); clear b2)
    go_quiet (fail)
    go_wp2_with fail
    go_ret
    exact ⟨rfl, below_drewN HB2.out _⟩
  | some x =>
    obtain ⟨-, hg, hf⟩ := parse_small 4194304 hs hp
    obtain ⟨g0, hg0⟩ : ∃ g : Int, g = (x.g : Int) := ⟨_, rfl⟩
    obtain ⟨f0, hf0⟩ : ∃ f : Int, f = (x.f : Int) := ⟨_, rfl⟩
    obtain ⟨h0, hh0⟩ : ∃ h : ByteArray, h = ⟨x.host.toArray⟩ := ⟨_, rfl⟩
    obtain ⟨h1, hh1⟩ : ∃ h : ByteArray, h = ⟨x.app.toArray⟩ := ⟨_, rfl⟩
    obtain ⟨h2, hh2⟩ : ∃ h : ByteArray, h = ⟨x.proc.toArray⟩ := ⟨_, rfl⟩
    obtain ⟨h3, hh3⟩ : ∃ h : ByteArray, h = ⟨x.id.toArray⟩ := ⟨_, rfl⟩
    obtain ⟨h4, hh4⟩ : ∃ h : ByteArray, h = ⟨x.text.toArray⟩ := ⟨_, rfl⟩
    obtain ⟨tt, htt⟩ : ∃ t : Bool, t = x.t := ⟨_, rfl⟩
    obtain ⟨aa, haa⟩ : ∃ a : Int, a = x.a := ⟨_, rfl⟩
    have HA1 : Hid (∀ W : World, Glb W → Calls Tryz.prog 6 #[.string s] W fun e w' => ∃ a n c, e = .returned (.tuple #[.agg #[.int .i64 g0, .int .i64 f0, .bool tt, .int .i64 aa, .string h0, .string h1, .string h2, .string h3, .slice a n c, .string h4], .int .i64 0]) ∧ Below W.heap.size W w') := Lib.hid fun W hW => (HP1.out W hW).mono fun e w' h => by
      rw [hg0, hf0, hh0, hh1, hh2, hh3, hh4, htt, haa]
      exact h.one hp
    have HOF : Hid (∀ (a : Option Addr) (n c : Nat) (W : World), Calls Tryz.prog 29 #[.agg #[.int .i64 g0, .int .i64 f0, .bool tt, .int .i64 aa, .string h0, .string h1, .string h2, .string h3, .slice a n c, .string h4], .bool b5] W fun e w' => e = .returned (.agg #[.int .i64 aa, .int .i64 aa, .int .u32 (2 ^ x.g), .int .u32 (2 ^ x.f), .int .u64 1, .bool b5]) ∧ Below W.heap.size W w') := Lib.hid fun a n c W => by
      rw [hg0, hf0]
      exact of_c x.g x.f tt aa h0 h1 h2 h3 h4 a n c b5 W hg hf
    have hq : ∀ W : World, (binOp .eql 36 (.agg #[.int .i64 aa, .int .i64 aa, .int .u32 (2 ^ x.g), .int .u32 (2 ^ x.f), .int .u64 1, .bool b5]) (.agg #[.int .i64 b0, .int .i64 b1, .int .u32 b2, .int .u32 b3, .int .u64 b4, .bool b5])).run Tryz.prog W = .ok (.bool (briefB aa aa (2 ^ x.g) (2 ^ x.f) 1 b5 b0 b1 b2 b3 b4 b5)) W := fun W => eqBrief _ _ _ _ _ _ _ _ _ _ _ _ W
    have hm : Tryz.prog.eqGuardType Tryz.prog.depth 36 = false := by kernel_rfl
    have hz : fitsB (some x) b0 b1 b2 b3 b4 b5 = briefB aa aa (2 ^ x.g) (2 ^ x.f) 1 b5 b0 b1 b2 b3 b4 b5 := by rw [haa]; rfl
    rw [hz]
    clear hp HP1 hg0 hf0 hh0 hh1 hh2 hh3 hh4 htt haa hs hz hg hf
    generalize briefB aa aa (2 ^ x.g) (2 ^ x.f) 1 b5 b0 b1 b2 b3 b4 b5 = Z at hq ⊢
    generalize (2 : Int) ^ x.g = G at hq HOF
    generalize (2 : Int) ^ x.f = F at hq HOF
    go_enter Tryz.func10, Tryz.ntmps10
    go_wp2_with (go_at_call 6; refine (HA1.out _ HG1.out).mono ?_; rintro e w2 ⟨a, n, c, rfl, b2⟩; have HB2 := Lib.hid ((HB1.out.trans (b2.mono HB1.out.size)).alloc (Nat.le_trans HB1.out.size b2.size) (Obj.cells #[.int .i64 g0, .int .i64 f0, .bool tt, .int .i64 aa, .string h0, .string h1, .string h2, .string h3, .slice a n c, .string h4] 25)); have HX2 := Lib.hid (Row.laid w2 25 #[.int .i64 g0, .int .i64 f0, .bool tt, .int .i64 aa, .string h0, .string h1, .string h2, .string h3, .slice a n c, .string h4]); have HR2 := Lib.hid ((HR1.out.below b2 HR1.out.lt).alloc (Obj.cells #[.int .i64 g0, .int .i64 f0, .bool tt, .int .i64 aa, .string h0, .string h1, .string h2, .string h3, .slice a n c, .string h4] 25)); clear b2)
    revert HB2 HX2 HR2
    generalize w2.alloc (Obj.cells #[.int .i64 g0, .int .i64 f0, .bool tt, .int .i64 aa, .string h0, .string h1, .string h2, .string h3, .slice a n c, .string h4] 25) = W
    intro HB2 HX2 HR2
    have c0 : W.cell? ⟨w2.heap.size, 0, none⟩ = some (.int .i64 g0) := HX2.out.cell 0
    have c1 : W.cell? ⟨w2.heap.size, 1, none⟩ = some (.int .i64 f0) := HX2.out.cell 1
    have c2 : W.cell? ⟨w2.heap.size, 2, none⟩ = some (.bool tt) := HX2.out.cell 2
    have c3 : W.cell? ⟨w2.heap.size, 3, none⟩ = some (.int .i64 aa) := HX2.out.cell 3
    have c4 : W.cell? ⟨w2.heap.size, 4, none⟩ = some (.string h0) := HX2.out.cell 4
    have c5 : W.cell? ⟨w2.heap.size, 5, none⟩ = some (.string h1) := HX2.out.cell 5
    have c6 : W.cell? ⟨w2.heap.size, 6, none⟩ = some (.string h2) := HX2.out.cell 6
    have c7 : W.cell? ⟨w2.heap.size, 7, none⟩ = some (.string h3) := HX2.out.cell 7
    have c8 : W.cell? ⟨w2.heap.size, 8, none⟩ = some (.slice a n c) := HX2.out.cell 8
    have c9 : W.cell? ⟨w2.heap.size, 9, none⟩ = some (.string h4) := HX2.out.cell 9
    have d0 : W.cell? ⟨w.heap.size, 0, none⟩ = some (.int .i64 b0) := HR2.out.cell 0
    have d1 : W.cell? ⟨w.heap.size, 1, none⟩ = some (.int .i64 b1) := HR2.out.cell 1
    have d2 : W.cell? ⟨w.heap.size, 2, none⟩ = some (.int .u32 b2) := HR2.out.cell 2
    have d3 : W.cell? ⟨w.heap.size, 3, none⟩ = some (.int .u32 b3) := HR2.out.cell 3
    have d4 : W.cell? ⟨w.heap.size, 4, none⟩ = some (.int .u64 b4) := HR2.out.cell 4
    have d5 : W.cell? ⟨w.heap.size, 5, none⟩ = some (.bool b5) := HR2.out.cell 5
    have HOFW := Lib.hid (HOF.out a n c W.drew)
    go_region_with (go_at_call 29; refine HOFW.out.mono ?_; rintro e w3 ⟨rfl, b3⟩; have HB3 := Lib.hid (HB2.out.drew.trans (b3.mono HB2.out.drew.size)); have HR3 := Lib.hid (HR2.out.drew.below b3 HR2.out.drew.lt); clear b3; have e0 : w3.cell? ⟨w.heap.size, 0, none⟩ = some (.int .i64 b0) := HR3.out.cell 0; have e1 : w3.cell? ⟨w.heap.size, 1, none⟩ = some (.int .i64 b1) := HR3.out.cell 1; have e2 : w3.cell? ⟨w.heap.size, 2, none⟩ = some (.int .u32 b2) := HR3.out.cell 2; have e3 : w3.cell? ⟨w.heap.size, 3, none⟩ = some (.int .u32 b3) := HR3.out.cell 3; have e4 : w3.cell? ⟨w.heap.size, 4, none⟩ = some (.int .u64 b4) := HR3.out.cell 4; have e5 : w3.cell? ⟨w.heap.size, 5, none⟩ = some (.bool b5) := HR3.out.cell 5)
    all_goals
      go_wp2_with fail
      go_ret
      exact ⟨rfl, HB3.out⟩
end Go.Proofs.YtdkfgobbpadmgaaGreatDoor
