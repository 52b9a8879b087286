/- The reference's Of, audit's example, a brief that a caller hands in, and the law AuditFits, walked: it returns true for every text, brief and bool. -/
import Derived.Test.YtdkfgobbpadmgaaGreatDoorFits
import Derived.Test.YtdkfgobbpadmgaaGreatDoorRef5Parse
import Derived.Test.YtdkfgobbpadmgaaGreatDoorLawKit
import Derived.StillTailTactics
import Derived.Laws.CopyOwn
import Derived.Deep.Slices
set_option linter.unusedVariables false
set_option linter.unusedSimpArgs false
namespace Go.Proofs.YtdkfgobbpadmgaaGreatDoor
section
open Go.RowKit
set_option maxHeartbeats 1000000 in
set_option maxRecDepth 100000 in
theorem refof_c (g f : Nat) (t : Bool) (a : Int) (h p q i x : ByteArray) (dp : Option Addr) (dl dc : Nat) (k : Bool) (w : World) (hg : g ≤ 7) (hf : f ≤ 23) :
    Calls Tryz.prog 11 #[.agg #[.int .i64 g, .int .i64 f, .bool t, .int .i64 a, .string h, .string p, .string q, .string i, .slice dp dl dc, .string x], .bool k] w fun e w' => e = .returned (.agg #[.int .i64 a, .int .i64 a, .int .u32 (2 ^ g), .int .u32 (2 ^ f), .int .u64 1, .bool k]) ∧ Below w.heap.size w w' := by
  have HBT : Hid (∀ (n : Nat) (W : World), n ≤ 31 → Calls Tryz.prog 30 #[.int .i64 n] W fun e w' => e = .returned (.int .u32 (2 ^ n)) ∧ w' = W) := Lib.hid fun n W hn => (bit_c n W hn).mono fun e w' hh => ⟨hh.1, hh.2.symm⟩
  have HX0 : Row ((w.alloc (Obj.cells #[.int .i64 g, .int .i64 f, .bool t, .int .i64 a, .string h, .string p, .string q, .string i, .slice dp dl dc, .string x] 25)).alloc (Obj.cells BZ 36)) w.heap.size 25 #[.int .i64 g, .int .i64 f, .bool t, .int .i64 a, .string h, .string p, .string q, .string i, .slice dp dl dc, .string x] := (Row.laid _ _ _).alloc _
  have HY0 : Row ((w.alloc (Obj.cells #[.int .i64 g, .int .i64 f, .bool t, .int .i64 a, .string h, .string p, .string q, .string i, .slice dp dl dc, .string x] 25)).alloc (Obj.cells BZ 36)) (w.heap.size + 1) 36 BZ := by have := Row.laid (w.alloc (Obj.cells #[.int .i64 g, .int .i64 f, .bool t, .int .i64 a, .string h, .string p, .string q, .string i, .slice dp dl dc, .string x] 25)) 36 BZ; simpa using this
  have HB0 : Below w.heap.size w ((w.alloc (Obj.cells #[.int .i64 g, .int .i64 f, .bool t, .int .i64 a, .string h, .string p, .string q, .string i, .slice dp dl dc, .string x] 25)).alloc (Obj.cells BZ 36)) := ((Below.refl _ _).alloc (Nat.le_refl _) _).alloc (by simp) _
  go_enter Tryz.func11, Tryz.ntmps11
  go_wp2_with fail
  refine wp_region_still_tail 12 (by kernel_rfl) (by kernel_rfl) ?_
  change wpStill _ _ (World.drew ((w.alloc (Obj.cells #[.int .i64 g, .int .i64 f, .bool t, .int .i64 a, .string h, .string p, .string q, .string i, .slice dp dl dc, .string x] 25)).alloc (Obj.cells BZ 36))) (fun a' => wpList _ _ _ _ a' (World.drew ((w.alloc (Obj.cells #[.int .i64 g, .int .i64 f, .bool t, .int .i64 a, .string h, .string p, .string q, .string i, .slice dp dl dc, .string x] 25)).alloc (Obj.cells BZ 36)))) _ _
  have HX := Lib.hid HX0.drew
  have HY := Lib.hid HY0.drew
  have HB := Lib.hid HB0.drew
  revert HX HY HB
  generalize World.drew ((w.alloc (Obj.cells #[.int .i64 g, .int .i64 f, .bool t, .int .i64 a, .string h, .string p, .string q, .string i, .slice dp dl dc, .string x] 25)).alloc (Obj.cells BZ 36)) = w2
  intro HX HY HB
  have c0 : w2.cell? ⟨w.heap.size, 0, none⟩ = some (.int .i64 g) := HX.out.cell 0
  have c1 : w2.cell? ⟨w.heap.size, 1, none⟩ = some (.int .i64 f) := HX.out.cell 1
  have c3 : w2.cell? ⟨w.heap.size, 3, none⟩ = some (.int .i64 a) := HX.out.cell 3
  clear HX0 HY0 HB0
  simp only [List.take_succ_cons, List.take_zero, List.drop_succ_cons, List.drop_zero]
  iterate 6 still_step
  still_call (HBT.out g _ (by omega))
  iterate 2 still_step
  still_call (HBT.out f _ (by omega))
  iterate 2 still_step
  refine wpStill_nil ?_
  refine wpList_store_row rfl 36 (.tmp 4) (.tmp 35) rfl (w.heap.size + 1) #[.int .i64 a, .int .i64 a, .int .u32 (2 ^ g), .int .u32 (2 ^ f), .int .u64 1, .bool k] rfl rfl 36 BZ HY.out (by kernel_rfl) rfl (by simp [Value.oneCell']) ?_
  go_wp2_with fail
  refine bodyPost_ret (results_cell_row rfl _ _ (w.heap.size + 1) _ #[.int .i64 a, .int .i64 a, .int .u32 (2 ^ g), .int .u32 (2 ^ f), .int .u64 1, .bool k] (0, 0) _ rfl (setRow_heap _ _ _ _ _ _ HY.out) Tryz.underlying36 rfl brSize) rfl ⟨rfl, ?_⟩
  exact below_setRow HB.out (by omega) _
end
section
open Go.RowKit
def shownU : List UInt8 := [60, 49, 62, 49, 32, 45, 32, 45, 32, 45, 32, 45, 32, 45, 32, 45]
theorem shownU_parse : parseN calD shownU = some ⟨1, 0, false, 0, [], [], [], [], [], []⟩ := by
  have h1 : priK shownU = true := by kernel_rfl
  have h2 : priNum (priS shownU) = some 1 := by kernel_rfl
  have h3 : headN calD (priL shownU) = some (false, 0, [45, 32, 45, 32, 45, 32, 45, 32, 45], true) := by kernel_rfl
  have h4 : wordsN 4 [45, 32, 45, 32, 45, 32, 45, 32, 45] true [] = some ([[], [], [], []], [45]) := by kernel_rfl
  have h5 : dataN [45] = ([], [], true) := by kernel_rfl
  have h6 : textN [] true = some ([], true) := by kernel_rfl
  have h7 : rightP ⟨1 % 8, 1 / 8, false, 0, [], [], [], [], [], []⟩ = 0 := by
    refine rightP_plain _ rfl rfl ?_ ?_ ?_ ?_ ?_ ?_
    · decide
    · kernel_rfl
    · rfl
    · kernel_rfl
    · simp
    · rfl
  rw [parse_at h1 h2, h3, restN]
  simp only [h4, h5, h6]
  rw [if_pos ⟨trivial, by simpa using h7⟩]
  rfl
theorem shownU_fits : fitsB (some ⟨1, 0, false, 0, [], [], [], [], [], []⟩) 0 0 2 1 1 false = true := by kernel_rfl
set_option maxHeartbeats 1000000 in
set_option maxRecDepth 100000 in
theorem new_c (w : World) : Calls Tryz.prog 28 #[.agg #[.int .u8 0, .int .u8 0, .int .u8 0, .int .u8 0, .int .u8 0, .int .u8 0, .int .u8 0, .int .u8 0, .int .u8 0, .int .u8 0, .int .u8 0, .int .u8 0, .int .u8 0, .int .u8 0, .int .u8 0, .int .u8 0, .int .u8 0, .int .u8 0, .int .u8 0, .int .u8 0, .int .u8 0, .int .u8 0, .int .u8 0, .int .u8 0, .int .u8 0, .int .u8 0, .int .u8 0, .int .u8 0, .int .u8 0, .int .u8 0, .int .u8 0, .int .u8 0], .int .i64 7, .int .i64 1] w fun e w' => e = .returned (.tuple #[.agg Tryz.zeroCells81, .int .i64 1]) ∧ Below w.heap.size w w' := by
  have HR : Hid (Row ((w.alloc (Obj.cells #[.int .u8 0, .int .u8 0, .int .u8 0, .int .u8 0, .int .u8 0, .int .u8 0, .int .u8 0, .int .u8 0, .int .u8 0, .int .u8 0, .int .u8 0, .int .u8 0, .int .u8 0, .int .u8 0, .int .u8 0, .int .u8 0, .int .u8 0, .int .u8 0, .int .u8 0, .int .u8 0, .int .u8 0, .int .u8 0, .int .u8 0, .int .u8 0, .int .u8 0, .int .u8 0, .int .u8 0, .int .u8 0, .int .u8 0, .int .u8 0, .int .u8 0, .int .u8 0] 75)).alloc (Obj.cells Tryz.zeroCells81 81)) (w.heap.size + 1) 81 Tryz.zeroCells81) := Lib.hid (by have := Row.laid (w.alloc (Obj.cells #[.int .u8 0, .int .u8 0, .int .u8 0, .int .u8 0, .int .u8 0, .int .u8 0, .int .u8 0, .int .u8 0, .int .u8 0, .int .u8 0, .int .u8 0, .int .u8 0, .int .u8 0, .int .u8 0, .int .u8 0, .int .u8 0, .int .u8 0, .int .u8 0, .int .u8 0, .int .u8 0, .int .u8 0, .int .u8 0, .int .u8 0, .int .u8 0, .int .u8 0, .int .u8 0, .int .u8 0, .int .u8 0, .int .u8 0, .int .u8 0, .int .u8 0, .int .u8 0] 75)) 81 Tryz.zeroCells81; simpa using this)
  have HB : Hid (Below w.heap.size w ((w.alloc (Obj.cells #[.int .u8 0, .int .u8 0, .int .u8 0, .int .u8 0, .int .u8 0, .int .u8 0, .int .u8 0, .int .u8 0, .int .u8 0, .int .u8 0, .int .u8 0, .int .u8 0, .int .u8 0, .int .u8 0, .int .u8 0, .int .u8 0, .int .u8 0, .int .u8 0, .int .u8 0, .int .u8 0, .int .u8 0, .int .u8 0, .int .u8 0, .int .u8 0, .int .u8 0, .int .u8 0, .int .u8 0, .int .u8 0, .int .u8 0, .int .u8 0, .int .u8 0, .int .u8 0] 75)).alloc (Obj.cells Tryz.zeroCells81 81))) := Lib.hid (((Below.refl _ _).alloc (Nat.le_refl _) _).alloc (by simp) _)
  go_enter Tryz.func28, Tryz.ntmps28
  go_wp2_with (refine wpList_store_row rfl 81 (.tmp 6) (.tmp 22) rfl (w.heap.size + 1) Tryz.zeroCells81 rfl rfl 81 Tryz.zeroCells81 HR.out (by kernel_rfl) rfl (by kernel_rfl) ?_)
  refine bodyPost_ret (results_cell_row_tmp rfl _ _ (w.heap.size + 1) _ Tryz.zeroCells81 (0, 0) _ rfl (setRow_heap _ _ _ _ _ _ HR.out) Tryz.underlying81 rfl (by kernel_rfl)) rfl ⟨rfl, ?_⟩
  exact below_setRow HB.out (by omega) _
set_option maxHeartbeats 1000000 in
set_option maxRecDepth 100000 in
theorem shownU_c (w : World) (hG : Glb w) : Calls Tryz.prog 9 #[] w fun e w' => e = .returned (.bool true) ∧ Below w.heap.size w w' := by
  have HF : Hid (∀ W : World, Glb W → Calls Tryz.prog 10 #[.string ⟨#[60, 49, 62, 49, 32, 45, 32, 45, 32, 45, 32, 45, 32, 45, 32, 45]⟩, .agg #[.int .i64 0, .int .i64 0, .int .u32 2, .int .u32 1, .int .u64 1, .bool false]] W fun e w' => e = .returned (.bool true) ∧ Below W.heap.size W w') := Lib.hid fun W hW => (fits_c ⟨#[60, 49, 62, 49, 32, 45, 32, 45, 32, 45, 32, 45, 32, 45, 32, 45]⟩ 0 0 2 1 1 false W hW (by simp)).mono fun e w' h => by
    have hp : parseN calD (⟨#[60, 49, 62, 49, 32, 45, 32, 45, 32, 45, 32, 45, 32, 45, 32, 45]⟩ : ByteArray).data.toList = _ := shownU_parse
    rw [hp, shownU_fits] at h
    exact h
  have HGL := Lib.hid hG
  clear hG
  go_enter Tryz.func9, Tryz.ntmps9
  go_wp2_with (first
    | (go_at_call 28; refine (new_c _).mono ?_; rintro e w1 ⟨rfl, b1⟩; have HB1 := Lib.hid (below_setRow (b1.alloc b1.size (Obj.cells Tryz.zeroCells81 81)) b1.size Tryz.zeroCells81); have HX1 := Lib.hid (Row.laid w1 81 Tryz.zeroCells81); clear b1)
    | (refine wpList_store_row rfl 81 (.tmp 1) (.tmp 6) rfl w1.heap.size Tryz.zeroCells81 rfl rfl 81 Tryz.zeroCells81 HX1.out (by kernel_rfl) rfl (by kernel_rfl) ?_)
    | (go_at_call 10; refine (HF.out _ (HGL.out.below HB1.out)).mono ?_; rintro e w2 ⟨rfl, b2⟩; have HB2 := Lib.hid (HB1.out.trans (b2.mono HB1.out.size)); clear b2))
  go_ret
  exact ⟨rfl, HB2.out⟩
end
section
open Go.RowKit
theorem fitsB_one (x : PEv) (b0 b1 b2 b3 b4 : Int) (b5 : Bool) (h : fitsB (some x) b0 b1 b2 b3 b4 b5 = true) : b0 = x.a ∧ b2 = 2 ^ x.g ∧ b3 = 2 ^ x.f := by
  unfold fitsB briefB at h
  simp only [Bool.and_eq_true, beq_iff_eq] at h
  exact ⟨h.1.1.1.1.1.symm, h.1.1.1.2.symm, h.1.1.2.symm⟩
theorem fitsB_self (x : PEv) (k : Bool) : fitsB (some x) x.a x.a (2 ^ x.g) (2 ^ x.f) 1 k = true := by
  unfold fitsB briefB
  simp
set_option maxHeartbeats 1000000 in
set_option maxRecDepth 100000 in
theorem auditFits_law (s : ByteArray) (b0 b1 b2 b3 b4 : Int) (b5 k : Bool) (w : World) (hG : Glb w) :
    Calls Tryz.prog 4 #[.string s, .agg #[.int .i64 b0, .int .i64 b1, .int .u32 b2, .int .u32 b3, .int .u64 b4, .bool b5], .bool k] w fun e w' => e = .returned (.bool true) ∧ Below w.heap.size w w' := by
  have HS : Hid (∀ W : World, Glb W → Calls Tryz.prog 9 #[] W fun e w' => e = .returned (.bool true) ∧ Below W.heap.size W w') := Lib.hid fun W hW => shownU_c W hW
  have HB0 : Hid (Below w.heap.size w (w.alloc (Obj.cells #[.int .i64 b0, .int .i64 b1, .int .u32 b2, .int .u32 b3, .int .u64 b4, .bool b5] 36))) := Lib.hid ((Below.refl _ _).alloc (Nat.le_refl _) _)
  have HR0 : Hid (Row (w.alloc (Obj.cells #[.int .i64 b0, .int .i64 b1, .int .u32 b2, .int .u32 b3, .int .u64 b4, .bool b5] 36)) w.heap.size 36 #[.int .i64 b0, .int .i64 b1, .int .u32 b2, .int .u32 b3, .int .u64 b4, .bool b5]) := Lib.hid (Row.laid _ _ _)
  have HGL := Lib.hid hG
  by_cases hlong : 2000 < s.size
  · have hd : decide ((2000 : Int) < (s.size : Int)) = true := decide_eq_true (by omega)
    clear hG HR0
    go_enter Tryz.func4, Tryz.ntmps4
    go_wp2_with (go_at_call 9; refine (HS.out _ (HGL.out.below HB0.out)).mono ?_; rintro e w1 ⟨rfl, z1⟩; have HB1 := Lib.hid (HB0.out.trans (z1.mono HB0.out.size)); clear z1)
    go_ret
    exact ⟨rfl, HB1.out⟩
  have hd : decide ((2000 : Int) < (s.size : Int)) = false := decide_eq_false (by omega)
  have hsl : s.data.toList.length ≤ 4194304 := by have : s.data.toList.length = s.size := rfl; omega
  have HP2 : Hid (∀ W : World, Calls Tryz.prog 7 #[.string s] W (POST calD s.data.toList W)) := Lib.hid fun W => ref5_c s W (by omega)
  have HFT : Hid (∀ (c0 c1 c2 c3 c4 : Int) (c5 : Bool) (W : World), Glb W → Calls Tryz.prog 10 #[.string s, .agg #[.int .i64 c0, .int .i64 c1, .int .u32 c2, .int .u32 c3, .int .u64 c4, .bool c5]] W fun e w' => e = .returned (.bool (fitsB (parseN calD s.data.toList) c0 c1 c2 c3 c4 c5)) ∧ Below W.heap.size W w') := Lib.hid fun c0 c1 c2 c3 c4 c5 W hW => fits_c s c0 c1 c2 c3 c4 c5 W hW hsl
  clear hG hlong
  cases hp : parseN calD s.data.toList with
  | none =>
    have HA2 : Hid (∀ W : World, Calls Tryz.prog 7 #[.string s] W fun e w' => e = .returned (.tuple #[.agg #[.int .i64 0, .int .i64 0, .bool false, .int .i64 0, .string ⟨#[]⟩, .string ⟨#[]⟩, .string ⟨#[]⟩, .string ⟨#[]⟩, .slice none 0 0, .string ⟨#[]⟩], .int .i64 3]) ∧ Below W.heap.size W w') := Lib.hid fun W => (HP2.out W).mono fun e w' h => h.nil hp
    have HF : Hid (∀ W : World, Glb W → Calls Tryz.prog 10 #[.string s, .agg #[.int .i64 b0, .int .i64 b1, .int .u32 b2, .int .u32 b3, .int .u64 b4, .bool b5]] W fun e w' => e = .returned (.bool false) ∧ Below W.heap.size W w') := Lib.hid fun W hW => by
      have h := HFT.out b0 b1 b2 b3 b4 b5 W hW
      rw [hp] at h
      exact h
    clear hp HP2 HFT hsl
    go_enter Tryz.func4, Tryz.ntmps4
    go_wp2_with (first
      | (go_at_call 9; refine (HS.out _ (HGL.out.below HB0.out)).mono ?_; rintro e w1 ⟨rfl, z1⟩; have HB1 := Lib.hid (HB0.out.trans (z1.mono HB0.out.size)); have HR1 := Lib.hid (HR0.out.below z1 HR0.out.lt); clear z1)
      | (go_at_call 7; refine (HA2.out _).mono ?_; rintro e w2 ⟨rfl, z2⟩; have HB2 := Lib.hid ((HB1.out.trans (z2.mono HB1.out.size)).alloc (Nat.le_trans HB1.out.size z2.size) (Obj.cells #[.int .i64 0, .int .i64 0, .bool false, .int .i64 0, .string ⟨#[]⟩, .string ⟨#[]⟩, .string ⟨#[]⟩, .string ⟨#[]⟩, .slice none 0 0, .string ⟨#[]⟩] 25)); have HR2 := Lib.hid ((HR1.out.below z2 HR1.out.lt).alloc (Obj.cells #[.int .i64 0, .int .i64 0, .bool false, .int .i64 0, .string ⟨#[]⟩, .string ⟨#[]⟩, .string ⟨#[]⟩, .string ⟨#[]⟩, .slice none 0 0, .string ⟨#[]⟩] 25)); have q0 : (w2.alloc (Obj.cells #[.int .i64 0, .int .i64 0, .bool false, .int .i64 0, .string ⟨#[]⟩, .string ⟨#[]⟩, .string ⟨#[]⟩, .string ⟨#[]⟩, .slice none 0 0, .string ⟨#[]⟩] 25)).cell? ⟨w.heap.size, 0, none⟩ = some (.int .i64 b0) := HR2.out.cell 0; have q1 : (w2.alloc (Obj.cells #[.int .i64 0, .int .i64 0, .bool false, .int .i64 0, .string ⟨#[]⟩, .string ⟨#[]⟩, .string ⟨#[]⟩, .string ⟨#[]⟩, .slice none 0 0, .string ⟨#[]⟩] 25)).cell? ⟨w.heap.size, 1, none⟩ = some (.int .i64 b1) := HR2.out.cell 1; have q2 : (w2.alloc (Obj.cells #[.int .i64 0, .int .i64 0, .bool false, .int .i64 0, .string ⟨#[]⟩, .string ⟨#[]⟩, .string ⟨#[]⟩, .string ⟨#[]⟩, .slice none 0 0, .string ⟨#[]⟩] 25)).cell? ⟨w.heap.size, 2, none⟩ = some (.int .u32 b2) := HR2.out.cell 2; have q3 : (w2.alloc (Obj.cells #[.int .i64 0, .int .i64 0, .bool false, .int .i64 0, .string ⟨#[]⟩, .string ⟨#[]⟩, .string ⟨#[]⟩, .string ⟨#[]⟩, .slice none 0 0, .string ⟨#[]⟩] 25)).cell? ⟨w.heap.size, 3, none⟩ = some (.int .u32 b3) := HR2.out.cell 3; have q4 : (w2.alloc (Obj.cells #[.int .i64 0, .int .i64 0, .bool false, .int .i64 0, .string ⟨#[]⟩, .string ⟨#[]⟩, .string ⟨#[]⟩, .string ⟨#[]⟩, .slice none 0 0, .string ⟨#[]⟩] 25)).cell? ⟨w.heap.size, 4, none⟩ = some (.int .u64 b4) := HR2.out.cell 4; have q5 : (w2.alloc (Obj.cells #[.int .i64 0, .int .i64 0, .bool false, .int .i64 0, .string ⟨#[]⟩, .string ⟨#[]⟩, .string ⟨#[]⟩, .string ⟨#[]⟩, .slice none 0 0, .string ⟨#[]⟩] 25)).cell? ⟨w.heap.size, 5, none⟩ = some (.bool b5) := HR2.out.cell 5; clear z2)
      | (go_at_call 10; refine (HF.out _ (HGL.out.below HB2.out)).mono ?_; rintro e w3 ⟨rfl, z3⟩; have HB3 := Lib.hid (HB2.out.trans (z3.mono HB2.out.size)); clear z3))
    go_ret
    exact ⟨rfl, HB3.out⟩
  | some x =>
    obtain ⟨-, hg, hf⟩ := parse_small 4194304 hsl hp
    obtain ⟨g0, hg0⟩ : ∃ g : Int, g = (x.g : Int) := ⟨_, rfl⟩
    obtain ⟨f0, hf0⟩ : ∃ f : Int, f = (x.f : Int) := ⟨_, rfl⟩
    obtain ⟨h0, hh0⟩ : ∃ h : ByteArray, h = ⟨x.host.toArray⟩ := ⟨_, rfl⟩
    obtain ⟨h1, hh1⟩ : ∃ h : ByteArray, h = ⟨x.app.toArray⟩ := ⟨_, rfl⟩
    obtain ⟨h2, hh2⟩ : ∃ h : ByteArray, h = ⟨x.proc.toArray⟩ := ⟨_, rfl⟩
    obtain ⟨h3, hh3⟩ : ∃ h : ByteArray, h = ⟨x.id.toArray⟩ := ⟨_, rfl⟩
    obtain ⟨h4, hh4⟩ : ∃ h : ByteArray, h = ⟨x.text.toArray⟩ := ⟨_, rfl⟩
    obtain ⟨tt, htt⟩ : ∃ t : Bool, t = x.t := ⟨_, rfl⟩
    obtain ⟨aa, haa⟩ : ∃ a : Int, a = x.a := ⟨_, rfl⟩
    obtain ⟨G, hGG⟩ : ∃ a : Int, a = 2 ^ x.g := ⟨_, rfl⟩
    obtain ⟨F, hFF⟩ : ∃ a : Int, a = 2 ^ x.f := ⟨_, rfl⟩
    have HA2 : Hid (∀ W : World, Calls Tryz.prog 7 #[.string s] W fun e w' => ∃ a n c, e = .returned (.tuple #[.agg #[.int .i64 g0, .int .i64 f0, .bool tt, .int .i64 aa, .string h0, .string h1, .string h2, .string h3, .slice a n c, .string h4], .int .i64 0]) ∧ Below W.heap.size W w') := Lib.hid fun W => (HP2.out W).mono fun e w' h => by
      rw [hg0, hf0, hh0, hh1, hh2, hh3, hh4, htt, haa]
      exact h.one hp
    have HOF : Hid (∀ (a : Option Addr) (n c : Nat) (W : World), Calls Tryz.prog 11 #[.agg #[.int .i64 g0, .int .i64 f0, .bool tt, .int .i64 aa, .string h0, .string h1, .string h2, .string h3, .slice a n c, .string h4], .bool k] W fun e w' => e = .returned (.agg #[.int .i64 aa, .int .i64 aa, .int .u32 G, .int .u32 F, .int .u64 1, .bool k]) ∧ Below W.heap.size W w') := Lib.hid fun a n c W => by
      rw [hg0, hf0, hGG, hFF]
      exact refof_c x.g x.f tt aa h0 h1 h2 h3 h4 a n c k W hg hf
    obtain ⟨Z, hZ⟩ : ∃ Z, Z = fitsB (some x) b0 b1 b2 b3 b4 b5 := ⟨_, rfl⟩
    have HF : Hid (∀ W : World, Glb W → Calls Tryz.prog 10 #[.string s, .agg #[.int .i64 b0, .int .i64 b1, .int .u32 b2, .int .u32 b3, .int .u64 b4, .bool b5]] W fun e w' => e = .returned (.bool Z) ∧ Below W.heap.size W w') := Lib.hid fun W hW => by
      have h := HFT.out b0 b1 b2 b3 b4 b5 W hW
      rw [hp, ← hZ] at h
      exact h
    have HFW : Hid (∀ W : World, Glb W → Calls Tryz.prog 10 #[.string s, .agg #[.int .i64 aa, .int .i64 aa, .int .u32 G, .int .u32 F, .int .u64 1, .bool k]] W fun e w' => e = .returned (.bool true) ∧ Below W.heap.size W w') := Lib.hid fun W hW => by
      have h := HFT.out aa aa G F 1 k W hW
      rw [hp, haa, hGG, hFF, fitsB_self] at h
      rw [haa, hGG, hFF]
      exact h
    have HZW : Hid (Z = true → b0 = aa ∧ b2 = G ∧ b3 = F) := Lib.hid fun hz => by
      rw [haa, hGG, hFF]
      exact fitsB_one x b0 b1 b2 b3 b4 b5 (hZ ▸ hz)
    clear hp HP2 HFT hsl hg hf hg0 hf0 hh0 hh1 hh2 hh3 hh4 htt haa hGG hFF hZ
    cases Z with
    | false =>
      clear HZW
      go_enter Tryz.func4, Tryz.ntmps4
      go_wp2_with (first
        | (go_at_call 9; refine (HS.out _ (HGL.out.below HB0.out)).mono ?_; rintro e w1 ⟨rfl, z1⟩; have HB1 := Lib.hid (HB0.out.trans (z1.mono HB0.out.size)); have HR1 := Lib.hid (HR0.out.below z1 HR0.out.lt); clear z1)
        | (go_at_call 7; refine (HA2.out _).mono ?_; rintro e w2 ⟨a, n, c, rfl, z2⟩; have HB2 := Lib.hid ((HB1.out.trans (z2.mono HB1.out.size)).alloc (Nat.le_trans HB1.out.size z2.size) (Obj.cells #[.int .i64 g0, .int .i64 f0, .bool tt, .int .i64 aa, .string h0, .string h1, .string h2, .string h3, .slice a n c, .string h4] 25)); have HR2 := Lib.hid ((HR1.out.below z2 HR1.out.lt).alloc (Obj.cells #[.int .i64 g0, .int .i64 f0, .bool tt, .int .i64 aa, .string h0, .string h1, .string h2, .string h3, .slice a n c, .string h4] 25)); have HX2 := Lib.hid (Row.laid w2 25 #[.int .i64 g0, .int .i64 f0, .bool tt, .int .i64 aa, .string h0, .string h1, .string h2, .string h3, .slice a n c, .string h4]); have l0 : (w2.alloc (Obj.cells #[.int .i64 g0, .int .i64 f0, .bool tt, .int .i64 aa, .string h0, .string h1, .string h2, .string h3, .slice a n c, .string h4] 25)).cell? ⟨w2.heap.size, 0, none⟩ = some (.int .i64 g0) := HX2.out.cell 0; have l1 : (w2.alloc (Obj.cells #[.int .i64 g0, .int .i64 f0, .bool tt, .int .i64 aa, .string h0, .string h1, .string h2, .string h3, .slice a n c, .string h4] 25)).cell? ⟨w2.heap.size, 1, none⟩ = some (.int .i64 f0) := HX2.out.cell 1; have l2 : (w2.alloc (Obj.cells #[.int .i64 g0, .int .i64 f0, .bool tt, .int .i64 aa, .string h0, .string h1, .string h2, .string h3, .slice a n c, .string h4] 25)).cell? ⟨w2.heap.size, 2, none⟩ = some (.bool tt) := HX2.out.cell 2; have l3 : (w2.alloc (Obj.cells #[.int .i64 g0, .int .i64 f0, .bool tt, .int .i64 aa, .string h0, .string h1, .string h2, .string h3, .slice a n c, .string h4] 25)).cell? ⟨w2.heap.size, 3, none⟩ = some (.int .i64 aa) := HX2.out.cell 3; have l4 : (w2.alloc (Obj.cells #[.int .i64 g0, .int .i64 f0, .bool tt, .int .i64 aa, .string h0, .string h1, .string h2, .string h3, .slice a n c, .string h4] 25)).cell? ⟨w2.heap.size, 4, none⟩ = some (.string h0) := HX2.out.cell 4; have l5 : (w2.alloc (Obj.cells #[.int .i64 g0, .int .i64 f0, .bool tt, .int .i64 aa, .string h0, .string h1, .string h2, .string h3, .slice a n c, .string h4] 25)).cell? ⟨w2.heap.size, 5, none⟩ = some (.string h1) := HX2.out.cell 5; have l6 : (w2.alloc (Obj.cells #[.int .i64 g0, .int .i64 f0, .bool tt, .int .i64 aa, .string h0, .string h1, .string h2, .string h3, .slice a n c, .string h4] 25)).cell? ⟨w2.heap.size, 6, none⟩ = some (.string h2) := HX2.out.cell 6; have l7 : (w2.alloc (Obj.cells #[.int .i64 g0, .int .i64 f0, .bool tt, .int .i64 aa, .string h0, .string h1, .string h2, .string h3, .slice a n c, .string h4] 25)).cell? ⟨w2.heap.size, 7, none⟩ = some (.string h3) := HX2.out.cell 7; have l8 : (w2.alloc (Obj.cells #[.int .i64 g0, .int .i64 f0, .bool tt, .int .i64 aa, .string h0, .string h1, .string h2, .string h3, .slice a n c, .string h4] 25)).cell? ⟨w2.heap.size, 8, none⟩ = some (.slice a n c) := HX2.out.cell 8; have l9 : (w2.alloc (Obj.cells #[.int .i64 g0, .int .i64 f0, .bool tt, .int .i64 aa, .string h0, .string h1, .string h2, .string h3, .slice a n c, .string h4] 25)).cell? ⟨w2.heap.size, 9, none⟩ = some (.string h4) := HX2.out.cell 9; clear z2)
        | (go_at_call 11; refine (HOF.out _ _ _ _).mono ?_; rintro e w3 ⟨rfl, z3⟩; have HB3 := Lib.hid ((HB2.out.trans (z3.mono HB2.out.size)).alloc (Nat.le_trans HB2.out.size z3.size) (Obj.cells #[.int .i64 aa, .int .i64 aa, .int .u32 G, .int .u32 F, .int .u64 1, .bool k] 36)); have HR3 := Lib.hid ((HR2.out.below z3 HR2.out.lt).alloc (Obj.cells #[.int .i64 aa, .int .i64 aa, .int .u32 G, .int .u32 F, .int .u64 1, .bool k] 36)); have HQ3 := Lib.hid (Row.laid w3 36 #[.int .i64 aa, .int .i64 aa, .int .u32 G, .int .u32 F, .int .u64 1, .bool k]); clear z3)
        | (go_at_call 10; refine (HF.out _ (HGL.out.below HB4.out)).mono ?_; rintro e w5 ⟨rfl, z5⟩; have HB5 := Lib.hid (HB4.out.trans (z5.mono HB4.out.size)); have HR5 := HR4.out.below z5 HR4.out.lt; have HQ5 := HQ4.out.below z5 HQ4.out.lt; have c0 : w5.cell? ⟨w.heap.size, 0, none⟩ = some (.int .i64 b0) := HR5.cell 0; have c2 : w5.cell? ⟨w.heap.size, 2, none⟩ = some (.int .u32 b2) := HR5.cell 2; have c3 : w5.cell? ⟨w.heap.size, 3, none⟩ = some (.int .u32 b3) := HR5.cell 3; have d0 : w5.cell? ⟨w3.heap.size, 0, none⟩ = some (.int .i64 aa) := HQ5.cell 0; have d2 : w5.cell? ⟨w3.heap.size, 2, none⟩ = some (.int .u32 G) := HQ5.cell 2; have d3 : w5.cell? ⟨w3.heap.size, 3, none⟩ = some (.int .u32 F) := HQ5.cell 3; clear z5)
        | (go_at_call 10; refine (HFW.out _ (HGL.out.below HB3.out)).mono ?_; rintro e w4 ⟨rfl, z4⟩; have HB4 := Lib.hid (HB3.out.trans (z4.mono HB3.out.size)); have HR4 := Lib.hid (HR3.out.below z4 HR3.out.lt); have HQ4 := Lib.hid (HQ3.out.below z4 HQ3.out.lt); have q0 : w4.cell? ⟨w.heap.size, 0, none⟩ = some (.int .i64 b0) := HR4.out.cell 0; have q1 : w4.cell? ⟨w.heap.size, 1, none⟩ = some (.int .i64 b1) := HR4.out.cell 1; have q2 : w4.cell? ⟨w.heap.size, 2, none⟩ = some (.int .u32 b2) := HR4.out.cell 2; have q3 : w4.cell? ⟨w.heap.size, 3, none⟩ = some (.int .u32 b3) := HR4.out.cell 3; have q4 : w4.cell? ⟨w.heap.size, 4, none⟩ = some (.int .u64 b4) := HR4.out.cell 4; have q5 : w4.cell? ⟨w.heap.size, 5, none⟩ = some (.bool b5) := HR4.out.cell 5; clear z4))
      all_goals
        go_ret
        exact ⟨rfl, HB5.out⟩
    | true =>
      obtain ⟨y0, y2, y3⟩ := HZW.out rfl
      have E0 := Lib.hid y0; have E2 := Lib.hid y2; have E3 := Lib.hid y3; clear y0 y2 y3
      clear HZW
      go_enter Tryz.func4, Tryz.ntmps4
      go_wp2_with (first
        | (go_at_call 9; refine (HS.out _ (HGL.out.below HB0.out)).mono ?_; rintro e w1 ⟨rfl, z1⟩; have HB1 := Lib.hid (HB0.out.trans (z1.mono HB0.out.size)); have HR1 := Lib.hid (HR0.out.below z1 HR0.out.lt); clear z1)
        | (go_at_call 7; refine (HA2.out _).mono ?_; rintro e w2 ⟨a, n, c, rfl, z2⟩; have HB2 := Lib.hid ((HB1.out.trans (z2.mono HB1.out.size)).alloc (Nat.le_trans HB1.out.size z2.size) (Obj.cells #[.int .i64 g0, .int .i64 f0, .bool tt, .int .i64 aa, .string h0, .string h1, .string h2, .string h3, .slice a n c, .string h4] 25)); have HR2 := Lib.hid ((HR1.out.below z2 HR1.out.lt).alloc (Obj.cells #[.int .i64 g0, .int .i64 f0, .bool tt, .int .i64 aa, .string h0, .string h1, .string h2, .string h3, .slice a n c, .string h4] 25)); have HX2 := Lib.hid (Row.laid w2 25 #[.int .i64 g0, .int .i64 f0, .bool tt, .int .i64 aa, .string h0, .string h1, .string h2, .string h3, .slice a n c, .string h4]); have l0 : (w2.alloc (Obj.cells #[.int .i64 g0, .int .i64 f0, .bool tt, .int .i64 aa, .string h0, .string h1, .string h2, .string h3, .slice a n c, .string h4] 25)).cell? ⟨w2.heap.size, 0, none⟩ = some (.int .i64 g0) := HX2.out.cell 0; have l1 : (w2.alloc (Obj.cells #[.int .i64 g0, .int .i64 f0, .bool tt, .int .i64 aa, .string h0, .string h1, .string h2, .string h3, .slice a n c, .string h4] 25)).cell? ⟨w2.heap.size, 1, none⟩ = some (.int .i64 f0) := HX2.out.cell 1; have l2 : (w2.alloc (Obj.cells #[.int .i64 g0, .int .i64 f0, .bool tt, .int .i64 aa, .string h0, .string h1, .string h2, .string h3, .slice a n c, .string h4] 25)).cell? ⟨w2.heap.size, 2, none⟩ = some (.bool tt) := HX2.out.cell 2; have l3 : (w2.alloc (Obj.cells #[.int .i64 g0, .int .i64 f0, .bool tt, .int .i64 aa, .string h0, .string h1, .string h2, .string h3, .slice a n c, .string h4] 25)).cell? ⟨w2.heap.size, 3, none⟩ = some (.int .i64 aa) := HX2.out.cell 3; have l4 : (w2.alloc (Obj.cells #[.int .i64 g0, .int .i64 f0, .bool tt, .int .i64 aa, .string h0, .string h1, .string h2, .string h3, .slice a n c, .string h4] 25)).cell? ⟨w2.heap.size, 4, none⟩ = some (.string h0) := HX2.out.cell 4; have l5 : (w2.alloc (Obj.cells #[.int .i64 g0, .int .i64 f0, .bool tt, .int .i64 aa, .string h0, .string h1, .string h2, .string h3, .slice a n c, .string h4] 25)).cell? ⟨w2.heap.size, 5, none⟩ = some (.string h1) := HX2.out.cell 5; have l6 : (w2.alloc (Obj.cells #[.int .i64 g0, .int .i64 f0, .bool tt, .int .i64 aa, .string h0, .string h1, .string h2, .string h3, .slice a n c, .string h4] 25)).cell? ⟨w2.heap.size, 6, none⟩ = some (.string h2) := HX2.out.cell 6; have l7 : (w2.alloc (Obj.cells #[.int .i64 g0, .int .i64 f0, .bool tt, .int .i64 aa, .string h0, .string h1, .string h2, .string h3, .slice a n c, .string h4] 25)).cell? ⟨w2.heap.size, 7, none⟩ = some (.string h3) := HX2.out.cell 7; have l8 : (w2.alloc (Obj.cells #[.int .i64 g0, .int .i64 f0, .bool tt, .int .i64 aa, .string h0, .string h1, .string h2, .string h3, .slice a n c, .string h4] 25)).cell? ⟨w2.heap.size, 8, none⟩ = some (.slice a n c) := HX2.out.cell 8; have l9 : (w2.alloc (Obj.cells #[.int .i64 g0, .int .i64 f0, .bool tt, .int .i64 aa, .string h0, .string h1, .string h2, .string h3, .slice a n c, .string h4] 25)).cell? ⟨w2.heap.size, 9, none⟩ = some (.string h4) := HX2.out.cell 9; clear z2)
        | (go_at_call 11; refine (HOF.out _ _ _ _).mono ?_; rintro e w3 ⟨rfl, z3⟩; have HB3 := Lib.hid ((HB2.out.trans (z3.mono HB2.out.size)).alloc (Nat.le_trans HB2.out.size z3.size) (Obj.cells #[.int .i64 aa, .int .i64 aa, .int .u32 G, .int .u32 F, .int .u64 1, .bool k] 36)); have HR3 := Lib.hid ((HR2.out.below z3 HR2.out.lt).alloc (Obj.cells #[.int .i64 aa, .int .i64 aa, .int .u32 G, .int .u32 F, .int .u64 1, .bool k] 36)); have HQ3 := Lib.hid (Row.laid w3 36 #[.int .i64 aa, .int .i64 aa, .int .u32 G, .int .u32 F, .int .u64 1, .bool k]); clear z3)
        | (go_at_call 10; refine (HF.out _ (HGL.out.below HB4.out)).mono ?_; rintro e w5 ⟨rfl, z5⟩; have HB5 := Lib.hid (HB4.out.trans (z5.mono HB4.out.size)); have HR5 := HR4.out.below z5 HR4.out.lt; have HQ5 := HQ4.out.below z5 HQ4.out.lt; have c0 : w5.cell? ⟨w.heap.size, 0, none⟩ = some (.int .i64 aa) := (by rw [← E0.out]; exact HR5.cell 0); have c2 : w5.cell? ⟨w.heap.size, 2, none⟩ = some (.int .u32 G) := (by rw [← E2.out]; exact HR5.cell 2); have c3 : w5.cell? ⟨w.heap.size, 3, none⟩ = some (.int .u32 F) := (by rw [← E3.out]; exact HR5.cell 3); have d0 : w5.cell? ⟨w3.heap.size, 0, none⟩ = some (.int .i64 aa) := HQ5.cell 0; have d2 : w5.cell? ⟨w3.heap.size, 2, none⟩ = some (.int .u32 G) := HQ5.cell 2; have d3 : w5.cell? ⟨w3.heap.size, 3, none⟩ = some (.int .u32 F) := HQ5.cell 3; clear z5)
        | (go_at_call 10; refine (HFW.out _ (HGL.out.below HB3.out)).mono ?_; rintro e w4 ⟨rfl, z4⟩; have HB4 := Lib.hid (HB3.out.trans (z4.mono HB3.out.size)); have HR4 := Lib.hid (HR3.out.below z4 HR3.out.lt); have HQ4 := Lib.hid (HQ3.out.below z4 HQ3.out.lt); have q0 : w4.cell? ⟨w.heap.size, 0, none⟩ = some (.int .i64 b0) := HR4.out.cell 0; have q1 : w4.cell? ⟨w.heap.size, 1, none⟩ = some (.int .i64 b1) := HR4.out.cell 1; have q2 : w4.cell? ⟨w.heap.size, 2, none⟩ = some (.int .u32 b2) := HR4.out.cell 2; have q3 : w4.cell? ⟨w.heap.size, 3, none⟩ = some (.int .u32 b3) := HR4.out.cell 3; have q4 : w4.cell? ⟨w.heap.size, 4, none⟩ = some (.int .u64 b4) := HR4.out.cell 4; have q5 : w4.cell? ⟨w.heap.size, 5, none⟩ = some (.bool b5) := HR4.out.cell 5; clear z4))
      all_goals
        go_ret
        exact ⟨rfl, HB5.out⟩
end
section
open Go.ChangeShapes Go.WideShapes Go.ChangeAt Go.RowKit
set_option maxRecDepth 100000 in
theorem cellsBrief : Tryz.prog.cellsOf 36 = 6 := by kernel_rfl
set_option maxRecDepth 100000 in
theorem open_brief {H : Type} {enc : TypeId × Value → H} {w : World} {base b0 : Nat} {spare : Nat → Bool} {held : Bool} {r : Reach} {v : Value} {d : DataW H} {pl : List MemPlace}
    (hv : Value.okWide Tryz.prog w r b0 36 v) (h : DataW.Trod enc Tryz.prog w base spare held 36 v d pl) :
    ∃ (a b c d e : Int) (k : Bool), v = .agg #[.int .i64 a, .int .i64 b, .int .u32 c, .int .u32 d, .int .u64 e, .bool k] := by
  obtain ⟨cs, rfl, hsz⟩ := okWide_struct Tryz.underlying36 hv
  have hint64 : Tryz.prog.cellsOf 2 = 1 := by kernel_rfl
  have huint32 : Tryz.prog.cellsOf 33 = 1 := by kernel_rfl
  have huint64 : Tryz.prog.cellsOf 34 = 1 := by kernel_rfl
  have hbool : Tryz.prog.cellsOf 4 = 1 := by kernel_rfl
  obtain ⟨fuel, hf⟩ := h
  obtain ⟨xs, k, _, hx, hcl, hlen, hg⟩ := DataW.trod_struct Tryz.underlying36 hf
  obtain ⟨l⟩ := cs
  match l, hsz.trans cellsBrief with
  | [c0, c1, c2, c3, c4, c5], _ =>
    match xs, hlen with
    | [x0, x1, x2, x3, x4, x5], _ =>
      have g0 : DataW.trod enc Tryz.prog w base spare held k 2 (([c0, c1, c2, c3, c4, c5].drop 0).take (Tryz.prog.cellsOf 2)) = some x0 := hg 0 _ rfl
      rw [hint64] at g0
      have g1 : DataW.trod enc Tryz.prog w base spare held k 2 (([c0, c1, c2, c3, c4, c5].drop 1).take (Tryz.prog.cellsOf 2)) = some x1 := hg 1 _ rfl
      rw [hint64] at g1
      have g2 : DataW.trod enc Tryz.prog w base spare held k 33 (([c0, c1, c2, c3, c4, c5].drop 2).take (Tryz.prog.cellsOf 33)) = some x2 := hg 2 _ rfl
      rw [huint32] at g2
      have g3 : DataW.trod enc Tryz.prog w base spare held k 33 (([c0, c1, c2, c3, c4, c5].drop 3).take (Tryz.prog.cellsOf 33)) = some x3 := hg 3 _ rfl
      rw [huint32] at g3
      have g4 : DataW.trod enc Tryz.prog w base spare held k 34 (([c0, c1, c2, c3, c4, c5].drop 4).take (Tryz.prog.cellsOf 34)) = some x4 := hg 4 _ rfl
      rw [huint64] at g4
      have g5 : DataW.trod enc Tryz.prog w base spare held k 4 (([c0, c1, c2, c3, c4, c5].drop 5).take (Tryz.prog.cellsOf 4)) = some x5 := hg 5 _ rfl
      rw [hbool] at g5
      obtain ⟨n0, e0, _, _⟩ := DataW.trod_int Tryz.underlying2 g0
      obtain ⟨n1, e1, _, _⟩ := DataW.trod_int Tryz.underlying2 g1
      obtain ⟨n2, e2, _, _⟩ := DataW.trod_int Tryz.underlying33 g2
      obtain ⟨n3, e3, _, _⟩ := DataW.trod_int Tryz.underlying33 g3
      obtain ⟨n4, e4, _, _⟩ := DataW.trod_int Tryz.underlying34 g4
      obtain ⟨n5, e5, _⟩ := DataW.trod_bool Tryz.underlying4 g5
      simp at e0 e1 e2 e3 e4 e5
      subst_vars
      exact ⟨_, _, _, _, _, _, rfl⟩
end
end Go.Proofs.YtdkfgobbpadmgaaGreatDoor
