/- Package sysl: what a text's event is, by functions of the text; the words on memory of Parse's walk. -/
import Derived.Test.YtdkfgobbpadmgaaGreatDoorSyslRight
import Derived.WalkMore
import Derived.ScopeJumps
import Derived.Outline
import Derived.Deep.RegionLaw
set_option linter.unusedVariables false
set_option linter.unusedSimpArgs false
namespace Go.Proofs.YtdkfgobbpadmgaaGreatDoor
open Go.RowKit
structure D8 where
  y : Int
  m : Int
  d : Int
  h : Int
  mi : Int
  s : Int
  n : Int
  z : Int
def D8.v (x : D8) : Value := .agg #[.int .i64 x.y, .int .i64 x.m, .int .i64 x.d, .int .i64 x.h, .int .i64 x.mi, .int .i64 x.s, .int .i64 x.n, .int .i64 x.z]
def D8.ok (x : D8) : Bool := rightB x.y x.m x.d x.h x.mi x.s x.n x.z
def D8.nanos (x : D8) : Int := nanosI x.y x.m x.d x.h x.mi x.s x.n x.z
/-- What cal.Parse answers, told by a function of the text. -/
structure CalOk (cal : List UInt8 → Option (D8 × List UInt8)) : Prop where
  ok : ∀ l x r, cal l = some (x, r) → x.ok = true ∧ r.length ≤ l.length
  none : ∀ (l : List UInt8) (w : World), l.length ≤ 4194304 → Glb w → cal l = none → Calls Tryz.prog 14 #[txt l] w fun e w' =>
    e = .returned (.tuple #[.agg #[.int .i64 0, .int .i64 0, .int .i64 0, .int .i64 0, .int .i64 0, .int .i64 0, .int .i64 0, .int .i64 0], txt [], .int .i64 3]) ∧ Below w.heap.size w w'
  some : ∀ (l : List UInt8) (w : World) (x : D8) (r : List UInt8), l.length ≤ 4194304 → Glb w → cal l = some (x, r) → Calls Tryz.prog 14 #[txt l] w fun e w' =>
    e = .returned (.tuple #[x.v, txt r, .int .i64 0]) ∧ Below w.heap.size w w'
abbrev PEl := List UInt8 × List Par
structure SmallEls (es : List (List UInt8 × Value × List Par)) : Prop where
  len : es.length ≤ 4194304
  el : ∀ x ∈ es, x.1.length ≤ 4194304 ∧ x.2.2.length ≤ 4194304 ∧ ∀ q ∈ x.2.2, q.1.length ≤ 4194304 ∧ q.2.length ≤ 4194304
structure PEv where
  g : Nat
  f : Nat
  t : Bool
  a : Int
  host : List UInt8
  app : List UInt8
  proc : List UInt8
  id : List UInt8
  data : List PEl
  text : List UInt8
def dash8 : List UInt8 := [45, 32]
def open8 : List UInt8 := [91]
def bom8 : List UInt8 := [239, 187, 191]
/-- the time: whether it was told, what it was, what is left, and whether all was so -/
def headN (cal : List UInt8 → Option (D8 × List UInt8)) (l : List UInt8) : Option (Bool × Int × List UInt8 × Bool) :=
  if Lib.hasPrefix l dash8 then some (false, 0, Lib.trimPrefix l dash8, true)
  else match cal l with
    | some (x, r) => some (true, x.nanos, Lib.trimPrefix r blank8, Lib.hasPrefix r blank8)
    | none => none
def wordsN : Nat → List UInt8 → Bool → List (List UInt8) → Option (List (List UInt8) × List UInt8)
  | 0, l, _, ws => some (ws, l)
  | n + 1, l, ok, ws => if ok && wordK l then wordsN n (wordL l) true (ws ++ [wordS l]) else none
def elsN : Nat → Bool → List UInt8 → Bool → List PEl → List PEl × List UInt8 × Bool
  | 0, _, l, _, es => (es, l, false)
  | n + 1, first, l, ok, es =>
    if ok && (first || Lib.hasPrefix l open8) then
      if Lib.hasPrefix l open8 then
        elsN n false (Lib.trimPrefix (elemR (Lib.trimPrefix l open8) true).2.1 [93]) ((elemR (Lib.trimPrefix l open8) true).2.2 && Lib.hasPrefix (elemR (Lib.trimPrefix l open8) true).2.1 [93]) (es ++ [(elemN (Lib.trimPrefix l open8), (elemR (Lib.trimPrefix l open8) true).1)])
      else elsN n false l false es
    else (es, l, ok)
def dataN (l : List UInt8) : List PEl × List UInt8 × Bool := if Lib.hasPrefix l [45] then ([], Lib.trimPrefix l [45], true) else elsN (l.length + 2) true l true []
def textN (l : List UInt8) (ok : Bool) : Option (List UInt8 × Bool) :=
  if ok && !l.isEmpty then
    if !Lib.hasPrefix (Lib.trimPrefix l blank8) bom8 && (Lib.trimPrefix (Lib.trimPrefix l blank8) bom8).isEmpty then none
    else some (Lib.trimPrefix (Lib.trimPrefix l blank8) bom8, Lib.hasPrefix l blank8)
  else some ([], ok)
def belOf (x : PEl) (v : Value) : BEl := (⟨x.1.toArray⟩, v, x.2.map fun p => (⟨p.1.toArray⟩, ⟨p.2.toArray⟩))
noncomputable def rightP (x : PEv) : Int :=
  rightE x.g x.f x.t x.a ⟨x.host.toArray⟩ ⟨x.app.toArray⟩ ⟨x.proc.toArray⟩ ⟨x.id.toArray⟩ ⟨x.text.toArray⟩ (x.data.map fun y => belOf y (.slice none 0 0))
/-- What Parse answers, told by a function of the text. -/
noncomputable def parseN (cal : List UInt8 → Option (D8 × List UInt8)) (l : List UInt8) : Option PEv :=
  if priK l = true then
    match priNum (priS l) with
    | none => none
    | some n => match headN cal (priL l) with
      | none => none
      | some (t, a, l2, ok2) => match wordsN 4 l2 ok2 [] with
        | none => none
        | some (ws, l3) => match textN (dataN l3).2.1 (dataN l3).2.2 with
          | none => none
          | some (tx, ok5) =>
            if ok5 = true ∧ rightP ⟨n % 8, n / 8, t, a, ws.getD 0 [], ws.getD 1 [], ws.getD 2 [], ws.getD 3 [], (dataN l3).1, tx⟩ = 0 then
              some ⟨n % 8, n / 8, t, a, ws.getD 0 [], ws.getD 1 [], ws.getD 2 [], ws.getD 3 [], (dataN l3).1, tx⟩
            else none
  else none
abbrev VEl := List UInt8 × Value × List Par
def VEl.bel (x : VEl) : BEl := belOf (x.1, x.2.2) x.2.1
def elCells (es : List VEl) : List Value := es.flatMap fun x => [txt x.1, x.2.1]
/-- A row of elements of the call's own, and the rows of their parameters. -/
structure OwnEls (wx : World) (base : Nat) (dv : Value) (es : List VEl) : Prop where
  row : wx.ownsRow base 58 2 dv es.length (elCells es)
  par : ∀ x ∈ es, wx.ownsRow base 73 2 x.2.1 x.2.2.length (parCells x.2.2) ∧ ∀ k, x.2.1.ownBlock = some k → dv.ownBlock ≠ some k
theorem owns_keep {w w' : World} {base : Nat} {e : TypeId} {size : Nat} {v : Value} {n : Nat} {xs : List Value} {row : Option Nat} (h : w.ownsRow base e size v n xs) (hg : w.grownBy w' row) (hne : ∀ k, v.ownBlock = some k → row ≠ some k) : w'.ownsRow base e size v n xs := by
  obtain ⟨h0, h1 | ⟨g, cap, cur, rfl, hb, hh, r⟩⟩ := h
  · exact ⟨h0, .inl h1⟩
  · exact ⟨h0, .inr ⟨g, cap, cur, rfl, hb, (hg.block g (lt_of_block hh) (fun e => hne g rfl e.symm)).trans hh, r⟩⟩
theorem OwnEls.nil (wx : World) (base : Nat) : OwnEls wx base (.slice none 0 0) [] := ⟨World.ownsRow_nil _ _ _ _, fun x hx => by cases hx⟩
theorem OwnEls.turn {wx w' : World} {base : Nat} {dv : Value} {es : List VEl} {p : Nat → Prop} (h : OwnEls wx base dv es) (ht : Turn p wx w') (hp : ∀ k, p k → k < base) : OwnEls w' base dv es :=
  ⟨owns_turn h.row ht hp, fun x hx => ⟨owns_turn (h.par x hx).1 ht hp, (h.par x hx).2⟩⟩
theorem OwnEls.lower {wx w' : World} {base : Nat} {dv : Value} {es : List VEl} (h : OwnEls wx base dv es) (hb : Below wx.heap.size wx w') : OwnEls w' base dv es :=
  h.turn (p := fun _ => False) (Turn.of_below hb) (by simp)
theorem OwnEls.put {wx : World} {base : Nat} {dv : Value} {es : List VEl} (h : OwnEls wx base dv es) {a : Addr} (ha : a.block < base) (u : Value) : OwnEls (wx.setCell a u) base dv es :=
  h.turn ((Turn.refl (· = a.block) wx).put rfl u) (fun k hk => by omega)
theorem OwnEls.snoc {w0 w1 w2 : World} {base : Nat} {dv : Value} {es : List VEl} {id : List UInt8} {v : Value} {ps : List Par} {g cap : Nat} {o : Obj}
    (h0 : OwnEls w0 base dv es) (h : OwnEls w1 base dv es) (hb : base ≤ w0.heap.size) (hv : w1.ownsRow w0.heap.size 73 2 v ps.length (parCells ps))
    (hown : w2.ownsRow base 58 2 (.slice (some ⟨g, 0, none⟩) (es.length + 1) cap) (es.length + 1) (elCells es ++ [txt id, v]))
    (hg : (w1.alloc o).grownBy w2 dv.ownBlock) (hl : dv.ownBlock = some g ∨ g = w1.heap.size + 1) : OwnEls w2 base (.slice (some ⟨g, 0, none⟩) (es.length + 1) cap) (es ++ [(id, v, ps)]) := by
  refine ⟨by simpa [elCells] using hown, fun x hx => ?_⟩
  rw [List.mem_append, List.mem_singleton] at hx
  rcases hx with hx | rfl
  · obtain ⟨h1, h2⟩ := h.par x hx
    refine ⟨owns_keep (h1.alloc o) hg h2, fun k hk e => ?_⟩
    have hkl := own_lt h1 hk
    have : g = k := by simpa [Value.ownBlock] using e
    rcases hl with hl | hl
    · exact h2 k hk (by rw [hl, this])
    · omega
  · refine ⟨owns_lower (owns_keep (hv.alloc o) hg fun k hk e => ?_) hb, fun k hk e => ?_⟩
    · have h3 := own_ge hv hk
      have h4 := own_lt h0.row e
      omega
    · have h3 := own_ge hv hk
      have h5 := own_lt hv hk
      have : g = k := by simpa [Value.ownBlock] using e
      rcases hl with hl | hl
      · have h4 := own_lt h0.row hl
        omega
      · omega
theorem elInfo : (Tryz.prog.info? 58).map (fun i => (i.zero, i.size, i.bytes)) = some (some (.agg #[.string ⟨#[]⟩, .slice none 0 0]), 2, 40) := by kernel_rfl
theorem valP_len (l : List UInt8) (ok : Bool) : (valP l ok).2.1.length ≤ l.length ∧ (valP l ok).1.length ≤ l.length := by
  have := valN_len (l.length + 1) l [] ok
  simpa [valP] using this
theorem parN_small (M : Nat) : ∀ (n : Nat) (l : List UInt8) (ok : Bool) (ps : List Par), l.length ≤ M → (∀ q ∈ ps, q.1.length ≤ M ∧ q.2.length ≤ M) →
    (parN n l ok ps).2.1.length ≤ l.length ∧ (parN n l ok ps).1.length + (parN n l ok ps).2.1.length ≤ ps.length + l.length ∧ ∀ q ∈ (parN n l ok ps).1, q.1.length ≤ M ∧ q.2.length ≤ M
  | 0, l, ok, ps, hl, hp => ⟨Nat.le_refl _, Nat.le_refl _, hp⟩
  | n + 1, l, ok, ps, hl, hp => by
    rw [parN]
    split
    · rename_i h
      have h2 : Lib.hasPrefix l [32] = true := by simp only [Bool.and_eq_true] at h; exact h.2
      have t1 := trim_lt h2
      have t2 := pFrom_len eqB (Lib.trimPrefix l [32])
      have t3 := trim_len (pFrom eqB (Lib.trimPrefix l [32])) eqMk
      have t4 := pTo_len eqB (Lib.trimPrefix l [32])
      have t5 := valP_len (Lib.trimPrefix (pFrom eqB (Lib.trimPrefix l [32])) eqMk) (ok && pAny eqB (Lib.trimPrefix l [32]) && Lib.hasPrefix (pFrom eqB (Lib.trimPrefix l [32])) eqMk)
      dsimp only
      generalize valP (Lib.trimPrefix (pFrom eqB (Lib.trimPrefix l [32])) eqMk) (ok && pAny eqB (Lib.trimPrefix l [32]) && Lib.hasPrefix (pFrom eqB (Lib.trimPrefix l [32])) eqMk) = r at t5 ⊢
      obtain ⟨i1, i2, i3⟩ := parN_small M n r.2.1 r.2.2 (ps ++ [(pTo eqB (Lib.trimPrefix l [32]), r.1)]) (by omega) (fun q hq => by
        rw [List.mem_append, List.mem_singleton] at hq
        rcases hq with hq | rfl
        · exact hp q hq
        · exact ⟨by show (pTo eqB _).length ≤ M; omega, by show r.1.length ≤ M; omega⟩)
      rw [List.length_append, List.length_singleton] at i2
      exact ⟨by omega, by omega, i3⟩
    · exact ⟨Nat.le_refl _, Nat.le_refl _, hp⟩
theorem elemR_small (M : Nat) (l : List UInt8) (ok : Bool) (hl : l.length ≤ M) : (elemN l).length ≤ M ∧ (elemR l ok).2.1.length ≤ l.length ∧ (elemR l ok).1.length ≤ M ∧ ∀ q ∈ (elemR l ok).1, q.1.length ≤ M ∧ q.2.length ≤ M := by
  have t1 := pFrom_len spbB l
  have t2 := pTo_len spbB l
  obtain ⟨i1, i2, i3⟩ := parN_small M (l.length + 1) (pFrom spbB l) (ok && pAny spbB l) [] (by omega) (by simp)
  rw [List.length_nil] at i2
  refine ⟨by rw [elemN]; omega, ?_, ?_, i3⟩
  · rw [elemR]; omega
  · rw [elemR]; omega
theorem SmallEls.snoc {es : List VEl} (h : SmallEls es) (l : List UInt8) (v : Value) (hl : es.length + 1 + l.length ≤ 4194304) : SmallEls (es ++ [(elemN l, v, (elemR l true).1)]) := by
  obtain ⟨a1, a2, a3, a4⟩ := elemR_small 4194304 l true (by omega)
  refine ⟨by rw [List.length_append, List.length_singleton]; omega, fun x hx => ?_⟩
  rw [List.mem_append, List.mem_singleton] at hx
  rcases hx with hx | rfl
  · exact h.el x hx
  · exact ⟨a1, a3, a4⟩
theorem PW_grown {w wx w' : World} {l : List UInt8} {ok : Bool} {cs : Array Value} {row : Option Nat} (hr : Row wx w.heap.size 25 #[.int .i64 0, .int .i64 0, .bool false, .int .i64 0, .string ⟨#[]⟩, .string ⟨#[]⟩, .string ⟨#[]⟩, .string ⟨#[]⟩, .slice none 0 0, .string ⟨#[]⟩]) (he : Row wx (w.heap.size + 2) 25 cs) (ht : Tk wx (w.heap.size + 1) l ok) (hb : Below w.heap.size w wx) (hg : wx.grownBy w' row) (hrow : ∀ k, row = some k → w.heap.size + 3 ≤ k) :
    Row w' w.heap.size 25 #[.int .i64 0, .int .i64 0, .bool false, .int .i64 0, .string ⟨#[]⟩, .string ⟨#[]⟩, .string ⟨#[]⟩, .string ⟨#[]⟩, .slice none 0 0, .string ⟨#[]⟩] ∧ Row w' (w.heap.size + 2) 25 cs ∧ Tk w' (w.heap.size + 1) l ok ∧ Below w.heap.size w w' := by
  have hne : ∀ i, i < w.heap.size + 3 → some i ≠ row := fun i hi e => by have := hrow i e.symm; omega
  refine ⟨(hg.block _ hr.lt (hne _ (by omega))).trans hr, (hg.block _ he.lt (hne _ (by omega))).trans he, (hg.block _ (Row.lt ht) (hne _ (by omega))).trans ht, ⟨hg.os.trans hb.os, hg.tape.trans hb.tape, hg.output.trans hb.output, Nat.le_trans hb.size hg.size, fun k hk => (hg.block k (Nat.lt_of_lt_of_le hk hb.size) (hne k (by omega))).trans (hb.block k hk)⟩⟩
def JNo (cal : List UInt8 → Option (D8 × List UInt8)) (l : List UInt8) (w : World) (a' : Act) (w' : World) : Prop :=
  ∃ u0 u1 u3 u4 u5 u6 u7 u8 u9 u10 u11 u12 u13 u14 u15 u16 u17 u18 u19 u20 u21 u22 u23 u24 u25 u26 u27 u28 u29 u30 u31 u32 u33 u34 u35 u36 u37 u38 u39 u40 u41 u42 u43 u44 u45 u46 u47 u48 u49 u50 u51 u52 u53 u54 u55 u56 u57 u58 u59 u60 u61 u62 u63 u64 u65 u66 u67 u68 u69 u70 u71 u72 u73 u74 u75 u76 u77 u78 u79 u80 u81 u82 u83 u84 u85 u86 u87 u88 u89 u90 u91 u92 u93 u94 u95 u96 u97 u98 u99 u100 u101 u102 u103 u104 u105 u106 u107 u108 u109 u110 u111 u112 u113 u114 u115 u116 u117 u118 u119 u120 u121 u122 u123 u124 u125 u126 u127 u128 u129 u130 u131 u132 u133 u134 u135 u136 u137 u138 u139 u140 u141 u142 u143 u144 u145 : Value, (Row w' w.heap.size 25 #[.int .i64 0, .int .i64 0, .bool false, .int .i64 0, .string ⟨#[]⟩, .string ⟨#[]⟩, .string ⟨#[]⟩, .string ⟨#[]⟩, .slice none 0 0, .string ⟨#[]⟩] ∧ Below w.heap.size w w' ∧ parseN cal l = none) ∧ a' = { tmps := #[u0, u1, .pointer (some ⟨w.heap.size, 0, none⟩), u3, u4, u5, u6, u7, u8, u9, u10, u11, u12, u13, u14, u15, u16, u17, u18, u19, u20, u21, u22, u23, u24, u25, u26, u27, u28, u29, u30, u31, u32, u33, u34, u35, u36, u37, u38, u39, u40, u41, u42, u43, u44, u45, u46, u47, u48, u49, u50, u51, u52, u53, u54, u55, u56, u57, u58, u59, u60, u61, u62, u63, u64, u65, u66, u67, u68, u69, u70, u71, u72, u73, u74, u75, u76, u77, u78, u79, u80, u81, u82, u83, u84, u85, u86, u87, u88, u89, u90, u91, u92, u93, u94, u95, u96, u97, u98, u99, u100, u101, u102, u103, u104, u105, u106, u107, u108, u109, u110, u111, u112, u113, u114, u115, u116, u117, u118, u119, u120, u121, u122, u123, u124, u125, u126, u127, u128, u129, u130, u131, u132, u133, u134, u135, u136, u137, u138, u139, u140, u141, u142, u143, u144, u145], defers := [] }
def EVC (g f : Int) (t : Bool) (a : Int) (h p q i : List UInt8) (dv : Value) (x : List UInt8) : Array Value := #[.int .i64 g, .int .i64 f, .bool t, .int .i64 a, .string ⟨h.toArray⟩, .string ⟨p.toArray⟩, .string ⟨q.toArray⟩, .string ⟨i.toArray⟩, dv, .string ⟨x.toArray⟩]
def POST (cal : List UInt8 → Option (D8 × List UInt8)) (l : List UInt8) (w : World) (e : Ending) (w' : World) : Prop :=
  Below w.heap.size w w' ∧ match parseN cal l with
  | none => e = .returned (.tuple #[.agg #[.int .i64 0, .int .i64 0, .bool false, .int .i64 0, .string ⟨#[]⟩, .string ⟨#[]⟩, .string ⟨#[]⟩, .string ⟨#[]⟩, .slice none 0 0, .string ⟨#[]⟩], .int .i64 3])
  | some x => ∃ dv es, e = .returned (.tuple #[.agg (EVC x.g x.f x.t x.a x.host x.app x.proc x.id dv x.text), .int .i64 0]) ∧ OwnEls w' w.heap.size dv es ∧ es.map (fun y => (y.1, y.2.2)) = x.data
theorem POST.no {cal : List UInt8 → Option (D8 × List UInt8)} {l : List UInt8} {w w' : World} {e : Ending} (h : parseN cal l = none) (he : e = .returned (.tuple #[.agg #[.int .i64 0, .int .i64 0, .bool false, .int .i64 0, .string ⟨#[]⟩, .string ⟨#[]⟩, .string ⟨#[]⟩, .string ⟨#[]⟩, .slice none 0 0, .string ⟨#[]⟩], .int .i64 3])) (hb : Below w.heap.size w w') : POST cal l w e w' := by
  unfold POST
  rw [h]
  exact ⟨hb, he⟩
/-- the world ahead of a piece of Parse: the event's own block, the taker's, and the result's -/
structure PW (w : World) (wx : World) (l : List UInt8) (ok : Bool) (cs : Array Value) : Prop where
  res : Row wx w.heap.size 25 #[.int .i64 0, .int .i64 0, .bool false, .int .i64 0, .string ⟨#[]⟩, .string ⟨#[]⟩, .string ⟨#[]⟩, .string ⟨#[]⟩, .slice none 0 0, .string ⟨#[]⟩]
  ev : Row wx (w.heap.size + 2) 25 cs
  tk : Tk wx (w.heap.size + 1) l ok
  below : Below w.heap.size w wx
theorem PW.glb {w wx : World} {l : List UInt8} {ok : Bool} {cs : Array Value} (h : PW w wx l ok cs) (hg : Glb w) : Glb wx := hg.below h.below
theorem PW.taker {w wx w' : World} {l l' : List UInt8} {ok ok' : Bool} {cs : Array Value} (h : PW w wx l ok cs) (ht : Turn (· = w.heap.size + 1) wx w') (hk : Tk w' (w.heap.size + 1) l' ok') : PW w w' l' ok' cs :=
  ⟨h.res.turn ht (by omega), h.ev.turn ht (by omega), hk, h.below.trans (ht.below (by omega) h.below.size)⟩
theorem PW.lower {w wx w' : World} {l : List UInt8} {ok : Bool} {cs : Array Value} (h : PW w wx l ok cs) (hb : Below wx.heap.size wx w') : PW w w' l ok cs :=
  ⟨h.res.below hb h.res.lt, h.ev.below hb h.ev.lt, Tk.below h.tk hb, h.below.trans (hb.mono h.below.size)⟩
theorem PW.alloc {w wx : World} {l : List UInt8} {ok : Bool} {cs : Array Value} (h : PW w wx l ok cs) (o : Obj) : PW w (wx.alloc o) l ok cs :=
  ⟨h.res.alloc _, h.ev.alloc _, Row.alloc h.tk _, h.below.alloc h.below.size _⟩
theorem PW.put {w wx : World} {l : List UInt8} {ok : Bool} {cs : Array Value} (h : PW w wx l ok cs) (i : Nat) (u : Value) : PW w (wx.setCell ⟨w.heap.size + 2, i, none⟩ u) l ok (cs.setIfInBounds i u) :=
  ⟨h.res.other (by simp) _, h.ev.put i u, Row.other h.tk (by simp) _, h.below.setCell (by simp) _⟩
theorem PW.put0 {w wx : World} {l : List UInt8} {ok : Bool} {cs : Array Value} (h : PW w wx l ok cs) (l' : List UInt8) : PW w (wx.setCell ⟨w.heap.size + 1, 0, none⟩ (.string ⟨l'.toArray⟩)) l' ok cs :=
  ⟨h.res.other (by simp) _, h.ev.other (by simp) _, h.tk.put0 l', h.below.setCell (by simp) _⟩
theorem PW.put1 {w wx : World} {l : List UInt8} {ok : Bool} {cs : Array Value} (h : PW w wx l ok cs) (ok' : Bool) : PW w (wx.setCell ⟨w.heap.size + 1, 1, none⟩ (.bool ok')) l ok' cs :=
  ⟨h.res.other (by simp) _, h.ev.other (by simp) _, h.tk.put1 ok', h.below.setCell (by simp) _⟩
theorem PW.cells {w wx : World} {l : List UInt8} {ok : Bool} {cs cs' : Array Value} (h : PW w wx l ok cs) (hc : cs = cs') : PW w wx l ok cs' := hc ▸ h
theorem PW.grown {w wx w' : World} {l : List UInt8} {ok : Bool} {cs : Array Value} {row : Option Nat} (h : PW w wx l ok cs) (hg : wx.grownBy w' row) (hrow : ∀ k, row = some k → w.heap.size + 3 ≤ k) : PW w w' l ok cs := by
  obtain ⟨a, b, c, d⟩ := PW_grown h.res h.ev h.tk h.below hg hrow
  exact ⟨a, b, c, d⟩
theorem PW.drew {w wx : World} {l : List UInt8} {ok : Bool} {cs : Array Value} (h : PW w wx l ok cs) : PW w wx.drew l ok cs := ⟨h.res, h.ev, h.tk, h.below.drew⟩
theorem OwnEls.drew {wx : World} {base : Nat} {dv : Value} {es : List VEl} (h : OwnEls wx base dv es) : OwnEls wx.drew base dv es := ⟨h.row, h.par⟩
theorem results_cell_row_tmp {P : Program} {fn : Func} {p q : Tmp} {ty : TypeId} (h : fn.results = #[.cell p ty, .tmp q]) (tmps : Array Value) (w : World) (g : Nat) (t : TypeId) (cs : Array Value) (fr : Nat × Nat) (d : TypeDesc)
    (hp : tmps.getD p undef = .pointer (some ⟨g, 0, none⟩)) (hg : w.heap[g]? = some (.cells cs t fr))
    (hu : P.underlying ty = some d) (hd : (match d with | .struct _ | .array _ _ => true | _ => false) = true) (hi : (P.info? ty).map (·.size) = some cs.size) :
    (results fn tmps).run P w = .ok (.tuple #[.agg cs, tmps.getD q undef]) w := by
  have hp' : tmps[p]?.getD undef = .pointer (some ⟨g, 0, none⟩) := by simpa using hp
  simp [results, h, hp', asAddr, run_loadVar_row w g t ty cs fr d hg hu hd hi]
theorem parse_no1 {cal : List UInt8 → Option (D8 × List UInt8)} {l : List UInt8} (h : (priK l && (priNum (priS l)).isSome) = false) : parseN cal l = none := by
  unfold parseN
  cases hk : priK l with
  | false => simp
  | true =>
    rw [hk] at h
    have : priNum (priS l) = none := by simpa using h
    rw [if_pos rfl, this]
/-- what is left to be asked, once the head has been read -/
noncomputable def restN (n : Nat) (q : Option (Bool × Int × List UInt8 × Bool)) : Option PEv :=
  match q with
      | none => none
      | some (t, a, l2, ok2) => match wordsN 4 l2 ok2 [] with
        | none => none
        | some (ws, l3) => match textN (dataN l3).2.1 (dataN l3).2.2 with
          | none => none
          | some (tx, ok5) =>
            if ok5 = true ∧ rightP ⟨n % 8, n / 8, t, a, ws.getD 0 [], ws.getD 1 [], ws.getD 2 [], ws.getD 3 [], (dataN l3).1, tx⟩ = 0 then
              some ⟨n % 8, n / 8, t, a, ws.getD 0 [], ws.getD 1 [], ws.getD 2 [], ws.getD 3 [], (dataN l3).1, tx⟩
            else none
theorem parse_at {cal : List UInt8 → Option (D8 × List UInt8)} {l : List UInt8} {n : Nat} (hk : priK l = true) (hn : priNum (priS l) = some n) : parseN cal l = restN n (headN cal (priL l)) := by
  unfold parseN restN
  rw [if_pos hk, hn]
theorem EVC_word (g f : Int) (t : Bool) (a : Int) (ws : List (List UInt8)) (dv : Value) (x : List UInt8) (k : Nat) (hk : k < 4) (hw : ws.length = k) (s : List UInt8) :
    (EVC g f t a (ws.getD 0 []) (ws.getD 1 []) (ws.getD 2 []) (ws.getD 3 []) dv x).setIfInBounds (4 + k) (.string ⟨s.toArray⟩) = EVC g f t a ((ws ++ [s]).getD 0 []) ((ws ++ [s]).getD 1 []) ((ws ++ [s]).getD 2 []) ((ws ++ [s]).getD 3 []) dv x := by
  subst hw
  match ws, hk with
  | [], _ => simp [EVC]
  | [_], _ => simp [EVC]
  | [_, _], _ => simp [EVC]
  | [_, _, _], _ => simp [EVC]
theorem EVC_at (g f : Int) (t : Bool) (a : Int) (h p q i : List UInt8) (dv : Value) (x : List UInt8) (k : Nat) (hk : k < 4) : ∃ s : ByteArray, (EVC g f t a h p q i dv x)[4 + k]? = some (.string s) := by
  match k, hk with
  | 0, _ => exact ⟨_, rfl⟩
  | 1, _ => exact ⟨_, rfl⟩
  | 2, _ => exact ⟨_, rfl⟩
  | 3, _ => exact ⟨_, rfl⟩
def ptrs (E : Nat) : Array Value := #[.pointer (some ⟨E, 4, none⟩), .pointer (some ⟨E, 5, none⟩), .pointer (some ⟨E, 6, none⟩), .pointer (some ⟨E, 7, none⟩)]
theorem ptrs_at (E k : Nat) (hk : k < 4) : (ptrs E)[k]? = some (.pointer (some ⟨E, 4 + k, none⟩)) := by
  match k, hk with
  | 0, _ => rfl
  | 1, _ => rfl
  | 2, _ => rfl
  | 3, _ => rfl
theorem wordsN_small (M : Nat) : ∀ (n : Nat) (l : List UInt8) (ok : Bool) (ws ws' : List (List UInt8)) (l' : List UInt8), l.length ≤ M → (∀ x ∈ ws, x.length ≤ M) → wordsN n l ok ws = some (ws', l') → (∀ x ∈ ws', x.length ≤ M) ∧ l'.length ≤ M
  | 0, l, ok, ws, ws', l', hl, hw, h => by
    simp only [wordsN, Option.some.injEq, Prod.mk.injEq] at h
    obtain ⟨rfl, rfl⟩ := h
    exact ⟨hw, hl⟩
  | n + 1, l, ok, ws, ws', l', hl, hw, h => by
    rw [wordsN] at h
    split at h
    · refine wordsN_small M n _ _ _ _ _ (Nat.le_trans (trim_len _ _) (Nat.le_trans (pFrom_len _ _) hl)) (fun x hx => ?_) h
      rw [List.mem_append, List.mem_singleton] at hx
      rcases hx with hx | rfl
      · exact hw x hx
      · unfold wordS
        split
        · simp
        · exact Nat.le_trans (pTo_len _ _) hl
    · cases h
theorem getD_small {M : Nat} {ws : List (List UInt8)} (h : ∀ x ∈ ws, x.length ≤ M) (k : Nat) : (ws.getD k []).length ≤ M := by
  rw [List.getD_eq_getElem?_getD]
  cases hk : ws[k]? with
  | none => simp
  | some x => exact h x (List.mem_of_getElem? hk)
theorem textN_small {M : Nat} {l : List UInt8} {ok : Bool} {tx : List UInt8} {ok5 : Bool} (hl : l.length ≤ M) (h : textN l ok = some (tx, ok5)) : tx.length ≤ M := by
  unfold textN at h
  split at h
  · split at h
    · cases h
    · simp only [Option.some.injEq, Prod.mk.injEq] at h
      obtain ⟨rfl, _⟩ := h
      exact Nat.le_trans (trim_len _ _) (Nat.le_trans (trim_len _ _) hl)
  · simp only [Option.some.injEq, Prod.mk.injEq] at h
    obtain ⟨rfl, _⟩ := h
    simp
theorem pair_at {α : Type} (f g : α → Value) : ∀ (l : List α) (i : Nat) (h : i < l.length), (l.flatMap fun x => [f x, g x])[i * 2]? = some (f l[i]) ∧ (l.flatMap fun x => [f x, g x])[i * 2 + 1]? = some (g l[i])
  | [], i, h => absurd h (by simp)
  | x :: l, 0, h => by simp
  | x :: l, i + 1, h => by
    have := pair_at f g l i (by simpa using h)
    rw [List.flatMap_cons]
    rw [show (i + 1) * 2 = i * 2 + 2 by omega]
    simpa using this
theorem own_shape {w : World} {base : Nat} {e : TypeId} {size : Nat} {v : Value} {n : Nat} {xs : List Value} (h : w.ownsRow base e size v n xs) :
    ∃ a cap, v = .slice a n cap ∧ (∀ b, a = some b → b.block < w.heap.size) ∧ ∀ i, i < n → ∃ b, a = some b ∧ b.spot = none ∧ b.off = 0 ∧ ∀ j u, xs[j]? = some u → w.cell? ⟨b.block, j, none⟩ = some u := by
  have h0 := h
  obtain ⟨hx, ⟨rfl, rfl⟩ | ⟨g, cap, cur, rfl, hb, hh, r⟩⟩ := h
  · exact ⟨none, 0, rfl, by simp, fun i hi => absurd hi (by simp)⟩
  · refine ⟨some ⟨g, 0, none⟩, cap, rfl, fun b hb => ?_, fun i hi => ⟨⟨g, 0, none⟩, rfl, rfl, rfl, fun j u hu => ?_⟩⟩
    · cases hb
      exact lt_of_block hh
    · have := h0.cells rfl j u hu
      have e2 : ({ block := g, off := 0, spot := none } : Addr).add j = ⟨g, j, none⟩ := by
        unfold Addr.add
        split
        · rename_i h0; rw [h0]
        · simp
      rw [e2] at this
      exact this
theorem own_pars {w : World} {base : Nat} {v : Value} {ps : List Par} (h : w.ownsRow base 73 2 v ps.length (parCells ps)) : Pars w v (ps.map fun p => (⟨p.1.toArray⟩, ⟨p.2.toArray⟩)) := by
  obtain ⟨a, cap, rfl, hl, hc⟩ := own_shape h
  refine ⟨a, cap, by simp, fun b hb _ => hl b hb, fun i hi => ?_⟩
  have hi' : i < ps.length := by simpa using hi
  obtain ⟨b, hb, hs, ho, hcell⟩ := hc i hi'
  obtain ⟨p1, p2⟩ := pair_at (fun p : Par => txt p.1) (fun p : Par => txt p.2) ps i hi'
  refine ⟨b, hb, hs, ?_, ?_⟩
  · have := hcell _ _ p1
    rw [ho, Nat.zero_add, this]
    simp [txt]
  · have := hcell _ _ p2
    rw [ho, Nat.zero_add, this]
    simp [txt]
theorem OwnEls.elems {wx : World} {base : Nat} {dv : Value} {es : List VEl} (h : OwnEls wx base dv es) : Elems wx dv (es.map VEl.bel) := by
  obtain ⟨a, cap, hv, hl, hc⟩ := own_shape h.row
  refine ⟨a, cap, by simpa using hv, fun b hb _ => hl b hb, fun i hi => ?_⟩
  have hi' : i < es.length := by simpa using hi
  obtain ⟨b, hb, hs, ho, hcell⟩ := hc i hi'
  obtain ⟨p1, p2⟩ := pair_at (fun x : VEl => txt x.1) (fun x : VEl => x.2.1) es i hi'
  have hp := own_pars (h.par es[i] (List.getElem_mem hi')).1
  refine ⟨b, hb, hs, ?_, ?_, ?_⟩
  · have := hcell _ _ p1
    rw [ho, Nat.zero_add, this]
    simp [txt, VEl.bel, belOf]
  · have := hcell _ _ p2
    rw [ho, Nat.zero_add, this]
    simp [VEl.bel, belOf]
  · simpa [VEl.bel, belOf] using hp
theorem SmallEls.elsIn {es : List VEl} (h : SmallEls es) : ElsIn (es.map VEl.bel) := by
  have hlen := h.len
  refine ⟨by rw [List.length_map]; omega, fun x hx => ?_, fun x hx => ?_, fun x hx q hq => ?_⟩
  all_goals
    obtain ⟨y, hy, rfl⟩ := List.mem_map.1 hx
    obtain ⟨h1, h2, h3⟩ := h.el y hy
  · exact Nat.le_trans h1 (by omega)
  · have : (VEl.bel y).2.2.length = y.2.2.length := by simp [VEl.bel, belOf]
    omega
  · simp only [VEl.bel, belOf] at hq
    obtain ⟨p, hp, rfl⟩ := List.mem_map.1 hq
    obtain ⟨p1, p2⟩ := h3 p hp
    exact ⟨Nat.le_trans p1 (by omega), Nat.le_trans p2 (by omega)⟩
theorem elsOk_same : ∀ (es es' : List BEl) (had : List (List UInt8)), es.map (fun x => (x.1, x.2.2)) = es'.map (fun x => (x.1, x.2.2)) → elsOk had es = elsOk had es'
  | [], [], _, _ => rfl
  | [], _ :: _, _, h => by simp at h
  | _ :: _, [], _, h => by simp at h
  | x :: es, y :: es', had, h => by
    simp only [List.map_cons, List.cons.injEq, Prod.mk.injEq] at h
    obtain ⟨⟨h1, h2⟩, h3⟩ := h
    rw [elsOk, elsOk, h1, h2, elsOk_same es es' _ h3]
theorem big_same : ∀ (es es' : List BEl), es.map (fun x => (x.1, x.2.2)) = es'.map (fun x => (x.1, x.2.2)) → es.any elBig = es'.any elBig
  | [], [], _ => rfl
  | [], _ :: _, h => by simp at h
  | _ :: _, [], h => by simp at h
  | x :: es, y :: es', h => by
    simp only [List.map_cons, List.cons.injEq, Prod.mk.injEq] at h
    obtain ⟨⟨h1, h2⟩, h3⟩ := h
    rw [List.any_cons, List.any_cons, big_same es es' h3, elBig, elBig, h2]
theorem rightE_same (g f : Int) (t : Bool) (a : Int) (h p q i x : ByteArray) {es es' : List BEl} (he : es.map (fun x => (x.1, x.2.2)) = es'.map (fun x => (x.1, x.2.2))) : rightE g f t a h p q i x es = rightE g f t a h p q i x es' := by
  have hl : es.length = es'.length := by simpa using congrArg List.length he
  rw [rightE, rightE, elsOk_same es es' [] he, big_same es es' he, hl]
theorem bel_same (es : List VEl) : (es.map VEl.bel).map (fun x => (x.1, x.2.2)) = ((es.map fun y => (y.1, y.2.2)).map fun y => belOf y (.slice none 0 0)).map (fun x => (x.1, x.2.2)) := by
  simp only [List.map_map]
  congr 1
theorem OwnEls.mono {wx : World} {base base' : Nat} {dv : Value} {es : List VEl} (h : OwnEls wx base dv es) (hb : base' ≤ base) : OwnEls wx base' dv es :=
  ⟨owns_lower h.row hb, fun x hx => ⟨owns_lower (h.par x hx).1 hb, (h.par x hx).2⟩⟩
theorem POST.yes {cal : List UInt8 → Option (D8 × List UInt8)} {l : List UInt8} {w w' : World} {e : Ending} {x : PEv} {dv : Value} {es : List VEl} (h : parseN cal l = some x) (he : e = .returned (.tuple #[.agg (EVC x.g x.f x.t x.a x.host x.app x.proc x.id dv x.text), .int .i64 0])) (ho : OwnEls w' w.heap.size dv es) (hm : es.map (fun y => (y.1, y.2.2)) = x.data) (hb : Below w.heap.size w w') : POST cal l w e w' := by
  unfold POST
  rw [h]
  exact ⟨hb, dv, es, he, ho, hm⟩
end Go.Proofs.YtdkfgobbpadmgaaGreatDoor
