/- Of no program: a law that returns true and writes nothing below the old heap's end meets the form's post: each argument reads as it did. -/
import Derived.WalkKit
import Derived.ProofKit
import Derived.OpenShut
import Derived.Deep.DeepHandedRow
import Derived.Lib.LaidTab
import Derived.Carry
import Derived.Lib.SmallJoins
import Derived.ChangeSame
import Derived.RowKit
set_option linter.unusedVariables false
set_option linter.unusedSimpArgs false
namespace Go.Proofs.YtdkfgobbpadmgaaGreatDoor
open Go.ChangeShapes Go.WideShapes Go.ChangeAt Go.RowKit
/-- A struct of ints, as cells: each is an int. -/
theorem trod_ints {H : Type} {enc : TypeId × Value → H} {P : Program} {w : World} {base : Nat} {spare : Nat → Bool} {held : Bool} {fuel : Nat} {t ti : TypeId} {k : IntKind} {fs : Array Field} {cs : List Value} {x : DataW H × List MemPlace}
    (hs : P.underlying t = some (.struct fs)) (hone : Deep.oneCellFields P fs = true) (hC : P.cellsOf t = fs.size) (hi : P.underlying ti = some (.int k)) (hty : (fs.toList.all fun f => f.type == ti) = true)
    (hf : DataW.trod enc P w base spare held fuel t cs = some x) :
    cs.length = fs.size ∧ ∀ i, i < fs.size → ∃ n, cs[i]? = some (.int k n) ∧ (Lit.int k n).wf = true := by
  obtain ⟨xs, n, _, hx, hcl, hlen, hg⟩ := DataW.trod_struct hs hf
  refine ⟨hcl.trans hC, fun i hlt => ?_⟩
  have hfi : fs[i]? = some fs[i] := Array.getElem?_eq_getElem hlt
  obtain ⟨o1, k1⟩ := Deep.hone_of hone i _ hfi
  have g := hg i _ hfi
  have hti : fs[i].type = ti := by
    have := List.all_eq_true.1 hty fs[i] (Array.getElem_mem_toList hlt)
    simpa using this
  rw [o1, k1] at g
  have hil : i < cs.length := by omega
  rw [Deep.take1_drop cs i undef hil, List.getElem?_eq_getElem (by omega)] at g
  obtain ⟨m, e1, e2, e3⟩ := DataW.trod_int (hti ▸ hi) g
  refine ⟨m, ?_, e3⟩
  have e4 : cs.getD i undef = .int k m := by simpa using e1
  rw [List.getElem?_eq_getElem hil]
  simpa [List.getD, hil] using e4
/-- A struct of ints, by value: each of its cells is an int. -/
theorem agg_ints {H : Type} {enc : TypeId × Value → H} {P : Program} {w : World} {base : Nat} {spare : Nat → Bool} {held : Bool} {r : Reach} {b0 : Nat} {t ti : TypeId} {k : IntKind} {fs : Array Field} {v : Value} {d : DataW H} {p : List MemPlace}
    (hs : P.underlying t = some (.struct fs)) (hone : Deep.oneCellFields P fs = true) (hC : P.cellsOf t = fs.size) (hi : P.underlying ti = some (.int k)) (hty : (fs.toList.all fun f => f.type == ti) = true)
    (hv : Value.okWide P w r b0 t v) (h : DataW.Trod enc P w base spare held t v d p) :
    ∃ cs : Array Value, v = .agg cs ∧ cs.size = fs.size ∧ ∀ i, i < fs.size → ∃ n, cs[i]? = some (.int k n) ∧ (Lit.int k n).wf = true := by
  obtain ⟨cs, rfl, hsz⟩ := okWide_struct hs hv
  obtain ⟨fuel, hf⟩ := h
  obtain ⟨h1, h2⟩ := trod_ints hs hone hC hi hty hf
  exact ⟨cs, rfl, hsz.trans hC, fun i hlt => by
    obtain ⟨n, e, hw⟩ := h2 i hlt
    exact ⟨n, by rw [← Array.getElem?_toList]; exact e, hw⟩⟩
theorem wf_i64 {n : Int} (h : (Lit.int .i64 n).wf = true) : -9223372036854775808 ≤ n ∧ n ≤ 9223372036854775807 := by
  simp [Lit.wf, IntKind.min, IntKind.max, IntKind.signed, IntKind.bits] at h
  omega
theorem eight {cs : Array Value} (hs : cs.size = 8) (h : ∀ i, i < 8 → ∃ n, cs[i]? = some (.int .i64 n) ∧ (Lit.int .i64 n).wf = true) :
    ∃ a0 a1 a2 a3 a4 a5 a6 a7 : Int, cs = #[.int .i64 a0, .int .i64 a1, .int .i64 a2, .int .i64 a3, .int .i64 a4, .int .i64 a5, .int .i64 a6, .int .i64 a7] := by
  obtain ⟨a0, h0, _⟩ := h 0 (by omega)
  obtain ⟨a1, h1, _⟩ := h 1 (by omega)
  obtain ⟨a2, h2, _⟩ := h 2 (by omega)
  obtain ⟨a3, h3, _⟩ := h 3 (by omega)
  obtain ⟨a4, h4, _⟩ := h 4 (by omega)
  obtain ⟨a5, h5, _⟩ := h 5 (by omega)
  obtain ⟨a6, h6, _⟩ := h 6 (by omega)
  obtain ⟨a7, h7, _⟩ := h 7 (by omega)
  refine ⟨a0, a1, a2, a3, a4, a5, a6, a7, ?_⟩
  obtain ⟨l⟩ := cs
  match l, hs with
  | [c0, c1, c2, c3, c4, c5, c6, c7], _ => simp at h0 h1 h2 h3 h4 h5 h6 h7; simp [h0, h1, h2, h3, h4, h5, h6, h7]
theorem eight_wf {a0 a1 a2 a3 a4 a5 a6 a7 : Int} (h : ∀ i, i < 8 → ∃ n, (#[.int .i64 a0, .int .i64 a1, .int .i64 a2, .int .i64 a3, .int .i64 a4, .int .i64 a5, .int .i64 a6, .int .i64 a7] : Array Value)[i]? = some (.int .i64 n) ∧ (Lit.int .i64 n).wf = true) :
    (-9223372036854775808 ≤ a6 ∧ a6 ≤ 9223372036854775807) ∧ (-9223372036854775808 ≤ a7 ∧ a7 ≤ 9223372036854775807) := by
  obtain ⟨n6, e6, w6⟩ := h 6 (by omega)
  obtain ⟨n7, e7, w7⟩ := h 7 (by omega)
  simp at e6 e7
  subst e6; subst e7
  exact ⟨wf_i64 w6, wf_i64 w7⟩
section
variable {H : Type} {enc : TypeId × Value → H} {P : Program}
theorem trodAll_below (hl : laidOutB P = true) {W W' : World} (hb : Below W.heap.size W W') : ∀ (ts : List TypeId) (vs : List Value) (ds : List (DataW H)) (ps : List MemPlace),
    (ts.all fun t => P.readableRec t && decide (t < P.types.size)) = true → (∀ x ∈ ps, x.block < W.heap.size) →
    DataW.TrodAll enc P W 0 (fun _ => true) true ts vs ds ps → DataW.TrodAll enc P W' 0 (fun b => decide (b < W.heap.size)) true ts vs ds ps
  | [], vs, ds, ps, _, _, h => by
    obtain ⟨rfl, rfl, rfl⟩ := trodAll_nil h
    exact trodAll_mk0
  | t :: ts, vs, ds, ps, hr, hlt, h => by
    obtain ⟨v, vs1, d, ds1, a, b, rfl, rfl, rfl, h1, h2⟩ := trodAll_cons h
    simp only [List.all_cons, Bool.and_eq_true, decide_eq_true_eq] at hr
    exact ⟨a, b, Below.trod hl hr.1.1 hr.1.2 h1 hb (fun x hx => hlt x (List.mem_append.2 (.inl hx))), trodAll_below hl hb ts vs1 ds1 b (by simpa using hr.2) (fun x hx => hlt x (List.mem_append.2 (.inr hx))) h2, rfl⟩
theorem law_post {f : Func} {s : ChangeSpec} {W W' : World} {args : Array Value} {ds gs : List (DataW H)} {before : List MemPlace} {tb : TypeId}
    (hl : laidOutB P = true) (hread : (f.params.toList.all fun t => P.readableRec t && decide (t < P.types.size)) = true)
    (hres : f.resultTypes = #[tb]) (hb : P.underlying tb = some .bool) (hsv : s.vars = [])
    (hspec : ds.length = f.params.toList.length → (s.fn H ds).results = [.lit (.bool true)] ∧ (s.fn H ds).args = ds ∧ (s.fn H ds).vars = [])
    (hW : DataW.Whole enc P f.params.toList s.vars false W args.toList ds gs before) (hbelow : Below W.heap.size W W') :
    s.post enc P f false true false false W args (.bool true) W' := by
  have hlt := hW.lt
  have hW' := hW
  obtain ⟨p, q, hA, hV, rfl, hfz, hnd⟩ := hW
  rw [hsv] at hV
  obtain ⟨rfl, rfl⟩ := trodVars_none hV
  have hlen : ∀ (ts : List TypeId) (vs : List Value) (ds : List (DataW H)) (ps : List MemPlace), DataW.TrodAll enc P W 0 (fun _ => true) true ts vs ds ps → ds.length = ts.length := by
    intro ts
    induction ts with
    | nil => intro vs ds ps h; obtain ⟨rfl, rfl, rfl⟩ := trodAll_nil h; rfl
    | cons t ts ih => intro vs ds ps h; obtain ⟨v, vs1, d, ds1, a, b, rfl, rfl, rfl, h1, h2⟩ := trodAll_cons h; simp [ih _ _ _ h2]
  obtain ⟨e1, e2, e3⟩ := hspec (hlen _ _ _ _ hA)
  rw [List.append_nil] at hlt
  refine ⟨ds, [], p ++ [], [], p, [], hW', ?_, ?_, ?_, hbelow.frame _, fun h => by cases h⟩
  · rw [List.append_nil, e1, hres]
    exact trodAll_mk1 (shut_bool hb _)
  · rw [List.append_nil, e2]
    exact trodAll_below hl hbelow _ _ _ _ hread (fun x hx => by simpa using hlt x hx) hA
  · rw [List.append_nil, e3, hsv]
    exact rfl
end
end Go.Proofs.YtdkfgobbpadmgaaGreatDoor
