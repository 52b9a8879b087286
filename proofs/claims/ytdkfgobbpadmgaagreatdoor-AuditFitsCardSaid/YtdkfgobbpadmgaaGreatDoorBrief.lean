/- Packages brief and tabularyref06: what is told of an event. -/
import Derived.Test.YtdkfgobbpadmgaaGreatDoorSyslRight
import Derived.Outline
set_option linter.unusedVariables false
set_option linter.unusedSimpArgs false
namespace Go.Proofs.YtdkfgobbpadmgaaGreatDoor
open Go.RowKit
theorem two_le (i n : Nat) (h : i < n) (hn : n ≤ 31) : (0 : Int) < 2 ^ i ∧ (2 : Int) ^ i ≤ 1073741824 := by
  have h1 : 2 ^ i ≤ 2 ^ 30 := Nat.pow_le_pow_right (by decide) (by omega)
  have h2 : 0 < 2 ^ i := Nat.pow_pos (by decide)
  have e : ((2 : Int) ^ i) = ((2 ^ i : Nat) : Int) := by push_cast; rfl
  rw [e]
  have h3 : (2 : Nat) ^ 30 = 1073741824 := by decide
  omega
set_option maxHeartbeats 1000000 in
theorem bit_c (n : Nat) (w : World) (hn : n ≤ 31) : Calls Tryz.prog 30 #[.int .i64 n] w fun e w' => e = .returned (.int .u32 (2 ^ n)) ∧ w = w' := by
  go_enter Tryz.func30, Tryz.ntmps30
  go_wp2_with fail
  go_loopg [3, 4] n (fun g v c wr => ∃ (i : Nat) (V : Int), i ≤ n ∧ Hid (g = n - i) ∧ c = .int .i64 i ∧ v = .int .u32 V ∧ Hid (V = 2 ^ i) ∧ w = wr)
  case atStart => exact ⟨0, 1, by omega, rfl, rfl, rfl, (by show _ = _; decide), rfl⟩
  case round =>
    obtain ⟨i, V, hi, HG, rfl, rfl, HV, rfl⟩ := hrel
    by_cases hlt : i < n
    · obtain ⟨b0, b1⟩ := two_le i n hlt hn
      rw [← HV.out] at b0 b1
      have HN : Hid (V + V = 2 ^ (i + 1)) := by
        show _ = _
        rw [Int.pow_succ, ← HV.out]; omega
      go_wp2_with fail
      go_roundg (n - (i + 1))
      case measure => rw [HG.out]; omega
      case rel => exact ⟨i + 1, V + V, by omega, rfl, by go_num, rfl, HN, rfl⟩
    · obtain rfl : i = n := by omega
      have hd : decide (i < i) = false := decide_eq_false (by omega)
      go_wp2_with fail
      go_ret
      exact ⟨ret_v (by rw [HV.out]; rfl), rfl⟩
theorem pow_small (n : Nat) (h : n ≤ 31) : (2 : Int) ^ n % 4294967296 = 2 ^ n := by
  have h1 : 2 ^ n ≤ 2 ^ 31 := Nat.pow_le_pow_right (by decide) h
  have h3 : (2 : Nat) ^ 31 = 2147483648 := by decide
  have e : ((2 : Int) ^ n) = ((2 ^ n : Nat) : Int) := by push_cast; rfl
  rw [e]
  obtain ⟨m, hm⟩ : ∃ m : Nat, m = 2 ^ n := ⟨_, rfl⟩
  rw [← hm] at h1 ⊢
  omega
def BZ : Array Value := #[.int .i64 0, .int .i64 0, .int .u32 0, .int .u32 0, .int .u64 0, .bool false]
theorem brSize : (Tryz.prog.info? 36).map (·.size) = some 6 := by kernel_rfl
set_option maxHeartbeats 2000000 in
set_option maxRecDepth 100000 in
theorem of_c (g f : Nat) (t : Bool) (a : Int) (h p q i x : ByteArray) (dp : Option Addr) (dl dc : Nat) (k : Bool) (w : World) (hg : g ≤ 7) (hf : f ≤ 23) :
    Calls Tryz.prog 29 #[.agg #[.int .i64 g, .int .i64 f, .bool t, .int .i64 a, .string h, .string p, .string q, .string i, .slice dp dl dc, .string x], .bool k] w fun e w' => e = .returned (.agg #[.int .i64 a, .int .i64 a, .int .u32 (2 ^ g), .int .u32 (2 ^ f), .int .u64 1, .bool k]) ∧ Below w.heap.size w w' := by
  go_enter Tryz.func29, Tryz.ntmps29
  go_wp2_with fail
  go_region
  all_goals
    go_wp2_with fail
    rw [pow_small g (by omega), pow_small f (by omega)]
    refine bodyPost_ret (results_cell_row rfl _ _ (w.heap.size + 1) _ #[.int .i64 a, .int .i64 a, .int .u32 (2 ^ g), .int .u32 (2 ^ f), .int .u64 1, .bool k] (0, 0) _ rfl (Row.drew (by have := Row.laid (w.alloc (Obj.cells #[.int .i64 g, .int .i64 f, .bool t, .int .i64 a, .string h, .string p, .string q, .string i, .slice dp dl dc, .string x] 25)) 36 #[.int .i64 a, .int .i64 a, .int .u32 (2 ^ g), .int .u32 (2 ^ f), .int .u64 1, .bool k]; simpa using this)) Tryz.underlying36 rfl brSize) rfl ⟨rfl, ?_⟩
    exact (((Below.refl _ _).alloc (Nat.le_refl _) _).alloc (by simp) _).drew
end Go.Proofs.YtdkfgobbpadmgaaGreatDoor
