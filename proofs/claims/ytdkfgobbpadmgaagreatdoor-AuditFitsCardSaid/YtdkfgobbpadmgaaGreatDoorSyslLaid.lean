/- What a row's list of the library's tables and of cal's gives the walks of package sysl, and a world for the witness that holds them. -/
import Derived.Test.YtdkfgobbpadmgaaGreatDoorCards
import Derived.Test.YtdkfgobbpadmgaaGreatDoorTie
import Derived.Test.YtdkfgobbpadmgaaGreatDoorLawKit
import Derived.Test.YtdkfgobbpadmgaaGreatDoorTakerPri
import Derived.Stop.LaidErr
set_option linter.unusedVariables false
set_option linter.unusedSimpArgs false
namespace Go.Proofs.YtdkfgobbpadmgaaGreatDoor
open Go.ChangeShapes Go.WideShapes Go.ChangeAt Go.RowKit
theorem own : ownKnob Tryz.prog.godebug = none := by kernel_rfl
theorem laidOut : laidOutB Tryz.prog = true := by kernel_rfl
def laidL : List (String × DataW Unit) := [("math/bits.deBruijn32tab", Rows.laid_math_bits_deBruijn32tab), ("math/bits.deBruijn64tab", Rows.laid_math_bits_deBruijn64tab), ("internal/strconv.uint64pow10", Rows.laid_internal_strconv_uint64pow10), ("unicode/utf8.acceptRanges", Rows.laid_unicode_utf8_acceptRanges), ("strconv.ErrRange", Rows.laid_strconv_ErrRange), ("strconv.ErrSyntax", Rows.laid_strconv_ErrSyntax), ("tabulary/cal.lengths", Rows.laid_tabulary_cal_lengths), ("unicode/utf8.first", Rows.laid_unicode_utf8_first)]
theorem cellsOfInt : Tryz.prog.cellsOf 3 = 1 := by kernel_rfl
theorem cellsOfU8 : Tryz.prog.cellsOf 5 = 1 := by kernel_rfl
theorem cellsOfU64 : Tryz.prog.cellsOf 34 = 1 := by kernel_rfl
theorem starErr : "*" ++ "errors.errorString" = "*errors.errorString" := by decide
theorem rowErr (u : TypeId) (h : Tryz.prog.typeName? 3 u = some "*errors.errorString") : u = 150 :=
  typeName_ptr_named (nm := "errors.errorString") (by rw [starErr]; kernel_rfl) (by kernel_rfl) (by decide) u (by rw [starErr]; exact h)
def firstZ : List Int := Go.Pinned.utf8FirstZ.map Int.ofNat
def d64Z : List Int := [0, 1, 56, 2, 57, 49, 28, 3, 61, 58, 42, 50, 38, 29, 17, 4, 62, 47, 59, 36, 45, 43, 51, 22, 53, 39, 33, 30, 24, 18, 12, 5, 63, 55, 48, 27, 60, 41, 37, 16, 46, 35, 44, 21, 52, 32, 23, 11, 54, 26, 40, 15, 34, 20, 31, 10, 25, 14, 19, 9, 13, 8, 7, 6]
theorem firstLen : firstZ.length = 256 := by kernel_rfl
def accZ : List (Int × Int) := [(128, 191), (160, 191), (128, 159), (144, 191), (128, 143), (0, 0), (0, 0), (0, 0), (0, 0), (0, 0), (0, 0), (0, 0), (0, 0), (0, 0), (0, 0), (0, 0)]
theorem first_at : ((List.range 256).all fun c => firstZ.getD c 0 == (Lib.firstT c : Int)) = true := by kernel_rfl
theorem acc_at : ((List.range 16).all fun i => (accZ.getD i (0, 0)).1 == (Lib.accLo i : Int) && (accZ.getD i (0, 0)).2 == (Lib.accHi i : Int)) = true := by kernel_rfl
/-- the pairs of acceptRanges, cell for cell -/
theorem cells_of_acc {w : World} {base : Nat} {sp : Nat → Bool} {held : Bool} {fuel : Nat} {cs : List Value} {p : List MemPlace}
    (h : DataW.trod (fun _ => ()) Tryz.prog w base sp held fuel 120 cs = some (Rows.laid_unicode_utf8_acceptRanges, p)) : ∀ i, i < 16 → cs[2 * i]? = some (.int .u8 (accZ.getD i (0, 0)).1) ∧ cs[2 * i + 1]? = some (.int .u8 (accZ.getD i (0, 0)).2) := by
  intro i hi
  have hce : Tryz.prog.cellsOf 119 = 2 := by kernel_rfl
  have hct : Tryz.prog.cellsOf 120 = 32 := by kernel_rfl
  cases fuel with
  | zero => simp [DataW.trod] at h
  | succ fuel =>
    simp only [DataW.trod, Tryz.underlying120, hce, hct] at h
    split at h
    · obtain ⟨xs, hm, hx⟩ := Option.map_eq_some_iff.1 h
      obtain ⟨b, hb, hf⟩ := Lib.mapM_at hm i i (by simp [hi])
      have hxs := congrArg Prod.fst hx
      have hb1 : (xs.map (·.1))[i]? = some (DataW.agg [.lit (.int .u8 (accZ.getD i (0, 0)).1), .lit (.int .u8 (accZ.getD i (0, 0)).2)] : DataW Unit) := by
        have e : xs.map (·.1) = (accZ.map fun z => (DataW.agg [.lit (.int .u8 z.1), .lit (.int .u8 z.2)] : DataW Unit)) := by
          have : (DataW.agg (xs.map (·.1)) : DataW Unit) = DataW.agg (accZ.map fun z => (DataW.agg [.lit (.int .u8 z.1), .lit (.int .u8 z.2)] : DataW Unit)) := hxs
          injection this
        rw [e, List.getElem?_map, List.getElem?_eq_getElem (show i < accZ.length from hi)]
        simp [List.getD, show i < accZ.length from hi]
      have hb2 : b.1 = (DataW.agg [.lit (.int .u8 (accZ.getD i (0, 0)).1), .lit (.int .u8 (accZ.getD i (0, 0)).2)] : DataW Unit) := by
        rw [List.getElem?_map, hb] at hb1
        simpa using hb1
      obtain ⟨ys, k, _, hy, hcl, hyl, hg⟩ := DataW.trod_struct Tryz.underlying119 hf
      match ys, hyl with
      | [y0, y1], _ =>
        rw [hy] at hb2
        simp only [List.map_cons, List.map_nil, DataW.agg.injEq, List.cons.injEq, and_true] at hb2
        rw [hce] at hcl
        have g0 : DataW.trod (fun _ => ()) Tryz.prog w base sp held k 5 ((((cs.drop (i * 2)).take 2).drop 0).take (Tryz.prog.cellsOf 5)) = some y0 := hg 0 _ rfl
        have g1 : DataW.trod (fun _ => ()) Tryz.prog w base sp held k 5 ((((cs.drop (i * 2)).take 2).drop 1).take (Tryz.prog.cellsOf 5)) = some y1 := hg 1 _ rfl
        rw [cellsOfU8] at g0 g1
        obtain ⟨n0, e0, rfl, _⟩ := DataW.trod_int Tryz.underlying5 g0
        obtain ⟨n1, e1, rfl, _⟩ := DataW.trod_int Tryz.underlying5 g1
        simp only [DataW.lit.injEq, Lit.int.injEq, true_and] at hb2
        obtain ⟨rfl, rfl⟩ := hb2
        have q0 := congrArg (·[0]?) e0
        have q1 := congrArg (·[0]?) e1
        simp [List.getElem?_take, List.getElem?_drop] at q0 q1
        exact ⟨by rw [Nat.mul_comm]; exact q0, by rw [Nat.mul_comm]; exact q1⟩
    · cases h
theorem data_eq (k : IntKind) (zs : List Int) (D : DataW Unit) (h : D = Lib.tabData k zs) {P : Program} {n : String} {r : List (String × DataW Unit)} {W : World} (hm : laidMet P ((n, D) :: r) W) : laidMet P ((n, Lib.tabData k zs) :: r) W := h ▸ hm
set_option maxRecDepth 100000 in
theorem glb_of {W : World} (h0 : laidMetH Tryz.prog laidL W) : Glb W := by
  have h1 : laidMet Tryz.prog laidL W := h0
  have h2 := h1.tail
  have h3 := h2.tail
  have h4 := h3.tail
  have h5 := h4.tail
  have h6 := h5.tail
  have h7 := h6.tail
  have h8 := h7.tail
  have t64 : Lib.TabIs Tryz.prog W "math/bits.deBruijn64tab" .u8 d64Z := Lib.tabIs_of_head (g := 8) (t := 159) (by kernel_rfl) (by kernel_rfl) Tryz.underlying159 Tryz.underlying5 cellsOfU8 (by kernel_rfl) (data_eq _ _ _ (by kernel_rfl) h2)
  have t10 : Lib.TabIs Tryz.prog W "internal/strconv.uint64pow10" .u64 Lib.pow10Tab := Lib.tabIs_of_head (g := 5) (t := 154) (by kernel_rfl) (by kernel_rfl) Tryz.underlying154 Tryz.underlying34 cellsOfU64 (by kernel_rfl) (data_eq _ _ _ (by kernel_rfl) h3)
  have tcal : Lib.TabIs Tryz.prog W "tabulary/cal.lengths" .i64 tab := Lib.tabIs_of_head (g := 2) (t := 131) (by kernel_rfl) (by kernel_rfl) Tryz.underlying131 Tryz.underlying3 cellsOfInt (by kernel_rfl) (data_eq _ _ _ (by kernel_rfl) h7)
  have tfst : Lib.TabIs Tryz.prog W "unicode/utf8.first" .u8 firstZ := Lib.tabIs_of_head (g := 0) (t := 117) (by kernel_rfl) (by kernel_rfl) Tryz.underlying117 Tryz.underlying5 cellsOfU8 (by kernel_rfl) (data_eq _ _ _ (by kernel_rfl) h8)
  have c64 := t64.cell (g := 8) (by kernel_rfl) 0 (by decide)
  refine ⟨World.block_lt_of_cell? W _ c64, t10, ?_, ?_, ⟨?_, ?_⟩, ?_⟩
  · obtain ⟨a, _, hv, _⟩ := laid_sentinel h6 (g := 3) (ti := 88) (by kernel_rfl) (by kernel_rfl) Tryz.underlying88 rowErr Tryz.underlying150 Tryz.underlying152 rfl rfl Tryz.underlying9 (by kernel_rfl) (by kernel_rfl)
    exact ⟨_, _, hv⟩
  · intro i hi
    exact tcal.cell (g := 2) (by kernel_rfl) i hi
  · intro c hc
    have h := tfst.cell (g := 0) (by kernel_rfl) c (by rw [firstLen]; exact hc)
    have e := List.all_eq_true.1 first_at c (List.mem_range.2 hc)
    rw [h, eq_of_beq e]
  · intro i hi
    obtain ⟨ps, ⟨g, t, cs, fuel, p, q, hg, ht, hv, hd, _, _⟩, _⟩ := h4
    obtain rfl : g = 1 := Option.some.inj (hg.symm.trans (by kernel_rfl))
    obtain rfl : t = 120 := Option.some.inj (ht.symm.trans (by kernel_rfl))
    obtain ⟨a0, a1⟩ := cells_of_acc hd i hi
    have e := List.all_eq_true.1 acc_at i (List.mem_range.2 hi)
    simp only [Bool.and_eq_true, beq_iff_eq] at e
    have v0 := World.var?_cell hg hv (2 * i)
    have v1 := World.var?_cell hg hv (2 * i + 1)
    rw [← Array.getElem?_toList] at v0 v1
    rw [a0, e.1] at v0
    rw [a1, e.2] at v1
    exact ⟨v0, v1⟩
  · obtain ⟨a, _, hv, _⟩ := laid_sentinel h5 (g := 4) (ti := 88) (by kernel_rfl) (by kernel_rfl) Tryz.underlying88 rowErr Tryz.underlying150 Tryz.underlying152 rfl rfl Tryz.underlying9 (by kernel_rfl) (by kernel_rfl)
    exact ⟨_, _, hv⟩
/-! A world for the witness: each listed variable as its initialiser lays it. -/
def intCells (k : IntKind) (zs : List Int) : Array Value := (zs.map fun z => Value.int k z).toArray
def d32Z : List Int := [0, 1, 28, 2, 29, 14, 24, 3, 30, 22, 20, 15, 25, 17, 4, 8, 31, 27, 13, 23, 21, 19, 16, 7, 26, 12, 18, 6, 11, 5, 10, 9]
def accCells : Array Value := (accZ.flatMap fun z => [Value.int .u8 z.1, Value.int .u8 z.2]).toArray
noncomputable def low : Nat := (World.holding Tryz.prog default ⟨#[], #[], []⟩).heap.size
def filled (cs : Array Value) : Obj → Obj
  | .cells _ t frozen => .cells cs t frozen
  | o => o
noncomputable def laidWorld (os : Os) : World :=
  let w0 := World.holding Tryz.prog os ⟨#[.cells #[.string ⟨#[118, 97, 108, 117, 101, 32, 111, 117, 116, 32, 111, 102, 32, 114, 97, 110, 103, 101]⟩] 152, .cells #[.string ⟨#[105, 110, 118, 97, 108, 105, 100, 32, 115, 121, 110, 116, 97, 120]⟩] 152], #[], []⟩
  { w0 with heap := ((((((((w0.heap.modify 7 (filled (intCells .u8 d32Z))).modify 8 (filled (intCells .u8 d64Z))).modify 5 (filled (intCells .u64 Lib.pow10Tab))).modify 1 (filled accCells)).modify 4 (filled #[.iface 150 (.pointer (some ⟨low, 0, none⟩))])).modify 3 (filled #[.iface 150 (.pointer (some ⟨low + 1, 0, none⟩))])).modify 2 (filled (intCells .i64 tab))).modify 0 (filled (intCells .u8 firstZ))) }
theorem laid_met0 (os : Os) : laidMet Tryz.prog laidL ((laidWorld os).forCall (fun _ _ => 0) ⟨#[], #[.string ⟨#[]⟩], []⟩).memory :=
  laidMet_of_run' 8 (by kernel_rfl) (by kernel_rfl)
end Go.Proofs.YtdkfgobbpadmgaaGreatDoor
