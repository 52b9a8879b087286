/- Package cal: what Parse answers, by functions of the text; the words on memory of its walk. -/
import Derived.Test.YtdkfgobbpadmgaaGreatDoorCalTake
import Derived.Test.YtdkfgobbpadmgaaGreatDoorScopeTwo
import Derived.Test.YtdkfgobbpadmgaaGreatDoorSyslParseN
set_option linter.unusedVariables false
set_option linter.unusedSimpArgs false
namespace Go.Proofs.YtdkfgobbpadmgaaGreatDoor
open Go.RowKit
def fracN : Nat → Int → List UInt8 → Int × List UInt8
  | 0, n, l => (n, l)
  | f + 1, n, l => match l with
    | [] => (n, [])
    | c :: r => if isDig c then fracN f (n + ((c.toNat : Int) - 48) * 10 ^ (3 + f)) r else (n, c :: r)
def fracD (l : List UInt8) : Int × List UInt8 × Bool :=
  if Lib.hasPrefix l [46] then
    match tkN 1 (Lib.trimPrefix l [46]) true with
    | (v, r, k) => ((fracN 5 (v * 100000000) r).1, (fracN 5 (v * 100000000) r).2, k)
  else (0, l, true)
def signD (l : List UInt8) (ok : Bool) : Int × List UInt8 × Bool :=
  if Lib.hasPrefix l [45] then (-1, Lib.trimPrefix l [45], ok) else (1, Lib.trimPrefix l [43], Lib.hasPrefix l [43] && ok)
def zoneT (sg : Int) (l : List UInt8) (ok : Bool) : Option (Int × List UInt8 × Bool) :=
  match tkN 2 l ok with
  | (h, r, k) => match tkN 2 (Lib.trimPrefix r [58]) (Lib.hasPrefix r [58] && k) with
    | (m, r2, k2) => if 23 < h ∨ 59 < m then none else some (sg * (60 * h + m), r2, k2)
def zoneD (l : List UInt8) (ok : Bool) : Option (Int × List UInt8 × Bool) :=
  if Lib.hasPrefix l [90] then some (0, Lib.trimPrefix l [90], ok)
  else match signD l ok with
    | (sg, r, k) => zoneT sg r k
def endD (x : D8) (l : List UInt8) (ok : Bool) : Option (D8 × List UInt8) := if ok = true ∧ x.ok = true then some (x, l) else none
def tailD (y m d h mi s : Int) (l : List UInt8) : Option (D8 × List UInt8) :=
  match fracD l with
  | (n, r, k) => match zoneD r k with
    | none => none
    | some (z, r2, k2) => endD ⟨y, m, d, h, mi, s, n, z⟩ r2 k2
def headD (l : List UInt8) : D8 × List UInt8 × Bool :=
  match tkN 4 l true with
  | (y, l1, k1) => match tkN 2 (Lib.trimPrefix l1 [45]) (Lib.hasPrefix l1 [45] && k1) with
    | (m, l2, k2) => match tkN 2 (Lib.trimPrefix l2 [45]) (Lib.hasPrefix l2 [45] && k2) with
      | (d, l3, k3) => match tkN 2 (Lib.trimPrefix l3 [84]) (Lib.hasPrefix l3 [84] && k3) with
        | (h, l4, k4) => match tkN 2 (Lib.trimPrefix l4 [58]) (Lib.hasPrefix l4 [58] && k4) with
          | (mi, l5, k5) => match tkN 2 (Lib.trimPrefix l5 [58]) (Lib.hasPrefix l5 [58] && k5) with
            | (s, l6, k6) => (⟨y, m, d, h, mi, s, 0, 0⟩, l6, k6)
/-- What cal.Parse answers, told by a function of the text. -/
def calD (l : List UInt8) : Option (D8 × List UInt8) :=
  match headD l with
  | (x, r, k) => if k then tailD x.y x.m x.d x.h x.mi x.s r else none
theorem tk_len (k : Nat) (l : List UInt8) (ok : Bool) : (tkN k l ok).2.1.length ≤ l.length := by
  rw [tkN]; split <;> simp
theorem tk_bd (k : Nat) (l : List UInt8) (ok : Bool) (hk : k ≤ 4) : 0 ≤ (tkN k l ok).1 ∧ (tkN k l ok).1 ≤ 9999 := by
  rw [tkN]
  split
  · rename_i h
    exact numN_bd k (l.take k) (by rw [List.length_take]; omega) hk h.2
  · exact ⟨by simp, by simp⟩
theorem tk_one (c : UInt8) (r : List UInt8) (ok : Bool) (h : isDig c = true) : tkN 1 (c :: r) ok = ((c.toNat : Int) - 48, r, ok) := by
  rw [tkN, if_pos ⟨by simp, by simp [h]⟩]
  simp [numN]
theorem tk_one_bd (l : List UInt8) (ok : Bool) : 0 ≤ (tkN 1 l ok).1 ∧ (tkN 1 l ok).1 ≤ 9 := by
  match l with
  | [] => simp [tkN]
  | c :: r =>
    by_cases h : isDig c = true
    · rw [tk_one c r ok h]
      have := of_decide_eq_true h
      dsimp only
      omega
    · rw [tkN, if_neg (fun hh => h (by simpa using hh.2))]
      simp
theorem frac_len : ∀ (f : Nat) (n : Int) (l : List UInt8), (fracN f n l).2.length ≤ l.length
  | 0, n, l => Nat.le_refl _
  | f + 1, n, [] => Nat.le_refl _
  | f + 1, n, c :: r => by
    rw [fracN]
    split
    · exact Nat.le_trans (frac_len f _ r) (by simp)
    · exact Nat.le_refl _
theorem fracD_len (l : List UInt8) : (fracD l).2.1.length ≤ l.length := by
  rw [fracD]
  split
  · exact Nat.le_trans (frac_len _ _ _) (Nat.le_trans (tk_len _ _ _) (trim_len _ _))
  · exact Nat.le_refl _
theorem zoneT_len {sg : Int} {l : List UInt8} {ok : Bool} {z : Int} {r : List UInt8} {k : Bool} (h : zoneT sg l ok = some (z, r, k)) : r.length ≤ l.length := by
  unfold zoneT at h
  split at h
  rename_i h1 r1 k1 e1
  split at h
  rename_i m2 r2 k2 e2
  split at h
  · cases h
  · cases h
    have a1 := tk_len 2 l ok
    have a2 := tk_len 2 (Lib.trimPrefix r1 [58]) (Lib.hasPrefix r1 [58] && k1)
    rw [e1] at a1; rw [e2] at a2
    exact Nat.le_trans a2 (Nat.le_trans (trim_len _ _) a1)
theorem zoneD_len {l : List UInt8} {ok : Bool} {z : Int} {r : List UInt8} {k : Bool} (h : zoneD l ok = some (z, r, k)) : r.length ≤ l.length := by
  unfold zoneD at h
  split at h
  · cases h; exact trim_len _ _
  · split at h
    rename_i sg r1 k1 e1
    refine Nat.le_trans (zoneT_len h) ?_
    unfold signD at e1
    split at e1
    · cases e1; exact trim_len _ _
    · cases e1; exact trim_len _ _
theorem tk_to {k : Nat} {l l1 : List UInt8} {ok k1 : Bool} {y : Int} (h : tkN k l ok = (y, l1, k1)) : l1.length ≤ l.length := by
  have := tk_len k l ok
  rw [h] at this
  exact this
theorem tk_step {k : Nat} {l l1 m : List UInt8} {ok k1 : Bool} {y : Int} (h : tkN k (Lib.trimPrefix l m) ok = (y, l1, k1)) : l1.length ≤ l.length := Nat.le_trans (tk_to h) (trim_len _ _)
theorem headD_at {l l1 l2 l3 l4 l5 l6 : List UInt8} {k1 k2 k3 k4 k5 k6 : Bool} {y m d h mi s : Int} (e1 : tkN 4 l true = (y, l1, k1)) (e2 : tkN 2 (Lib.trimPrefix l1 [45]) (Lib.hasPrefix l1 [45] && k1) = (m, l2, k2))
    (e3 : tkN 2 (Lib.trimPrefix l2 [45]) (Lib.hasPrefix l2 [45] && k2) = (d, l3, k3)) (e4 : tkN 2 (Lib.trimPrefix l3 [84]) (Lib.hasPrefix l3 [84] && k3) = (h, l4, k4))
    (e5 : tkN 2 (Lib.trimPrefix l4 [58]) (Lib.hasPrefix l4 [58] && k4) = (mi, l5, k5)) (e6 : tkN 2 (Lib.trimPrefix l5 [58]) (Lib.hasPrefix l5 [58] && k5) = (s, l6, k6)) : headD l = (⟨y, m, d, h, mi, s, 0, 0⟩, l6, k6) := by
  unfold headD
  rw [e1]; dsimp only
  rw [e2]; dsimp only
  rw [e3]; dsimp only
  rw [e4]; dsimp only
  rw [e5]; dsimp only
  rw [e6]
theorem headD_len (l : List UInt8) : (headD l).2.1.length ≤ l.length := by
  obtain ⟨y, l1, k1, e1⟩ : ∃ y l1 k1, tkN 4 l true = (y, l1, k1) := ⟨_, _, _, rfl⟩
  obtain ⟨m, l2, k2, e2⟩ : ∃ y l2 k2, tkN 2 (Lib.trimPrefix l1 [45]) (Lib.hasPrefix l1 [45] && k1) = (y, l2, k2) := ⟨_, _, _, rfl⟩
  obtain ⟨d, l3, k3, e3⟩ : ∃ y l3 k3, tkN 2 (Lib.trimPrefix l2 [45]) (Lib.hasPrefix l2 [45] && k2) = (y, l3, k3) := ⟨_, _, _, rfl⟩
  obtain ⟨h, l4, k4, e4⟩ : ∃ y l4 k4, tkN 2 (Lib.trimPrefix l3 [84]) (Lib.hasPrefix l3 [84] && k3) = (y, l4, k4) := ⟨_, _, _, rfl⟩
  obtain ⟨mi, l5, k5, e5⟩ : ∃ y l5 k5, tkN 2 (Lib.trimPrefix l4 [58]) (Lib.hasPrefix l4 [58] && k4) = (y, l5, k5) := ⟨_, _, _, rfl⟩
  obtain ⟨s, l6, k6, e6⟩ : ∃ y l6 k6, tkN 2 (Lib.trimPrefix l5 [58]) (Lib.hasPrefix l5 [58] && k5) = (y, l6, k6) := ⟨_, _, _, rfl⟩
  rw [headD_at e1 e2 e3 e4 e5 e6]
  exact Nat.le_trans (tk_step e6) (Nat.le_trans (tk_step e5) (Nat.le_trans (tk_step e4) (Nat.le_trans (tk_step e3) (Nat.le_trans (tk_step e2) (tk_to e1)))))
theorem calD_ok (l : List UInt8) (x : D8) (r : List UInt8) (h : calD l = some (x, r)) : x.ok = true ∧ r.length ≤ l.length := by
  have a1 := headD_len l
  unfold calD at h
  generalize headD l = hd at h a1
  obtain ⟨x1, r1, k1⟩ := hd
  dsimp only at h a1
  split at h
  · unfold tailD at h
    have a2 := fracD_len r1
    generalize fracD r1 = fd at h a2
    obtain ⟨n, r2, k2⟩ := fd
    dsimp only at h a2
    split at h
    · cases h
    · rename_i z r3 k3 e3
      have a3 := zoneD_len e3
      unfold endD at h
      split at h
      · rename_i hx
        cases h
        exact ⟨hx.2, by omega⟩
      · cases h
  · cases h
def DATZ : Array Value := #[.int .i64 0, .int .i64 0, .int .i64 0, .int .i64 0, .int .i64 0, .int .i64 0, .int .i64 0, .int .i64 0]
/-- the world ahead of a piece of cal.Parse -/
structure CW (w : World) (wx : World) (l : List UInt8) (ok : Bool) (cs : Array Value) : Prop where
  res : Row wx (w.heap.size + 1) 46 DATZ
  d : Row wx (w.heap.size + 4) 46 cs
  mf : Row wx (w.heap.size + 3) 32 #[.func (.func 37) #[] #[.pointer (some ⟨w.heap.size, 0, none⟩)]]
  sh : Sh wx w.heap.size (w.heap.size + 2) l ok
  below : Below w.heap.size w wx
theorem CW.turn {w wx w' : World} {l l' : List UInt8} {ok ok' : Bool} {cs : Array Value} (h : CW w wx l ok cs) (ht : Turn (two w.heap.size (w.heap.size + 2)) wx w') (hs : Sh w' w.heap.size (w.heap.size + 2) l' ok') : CW w w' l' ok' cs :=
  ⟨h.res.turn ht (by simp [two]), h.d.turn ht (by simp [two]), h.mf.turn ht (by simp [two]), hs, h.below.trans (ht.below (by intro k hk; rcases hk with hk | hk <;> omega) h.below.size)⟩
theorem CW.lower {w wx w' : World} {l : List UInt8} {ok : Bool} {cs : Array Value} (h : CW w wx l ok cs) (hb : Below wx.heap.size wx w') : CW w w' l ok cs :=
  ⟨h.res.below hb h.res.lt, h.d.below hb h.d.lt, h.mf.below hb h.mf.lt, h.sh.below hb, h.below.trans (hb.mono h.below.size)⟩
theorem CW.put {w wx : World} {l : List UInt8} {ok : Bool} {cs : Array Value} (h : CW w wx l ok cs) (i : Nat) (u : Value) : CW w (wx.setCell ⟨w.heap.size + 4, i, none⟩ u) l ok (cs.setIfInBounds i u) :=
  ⟨h.res.other (by simp) _, h.d.put i u, h.mf.other (by simp) _, ⟨h.sh.s.other (by simp) _, h.sh.o.other (by simp) _, h.sh.ne⟩, h.below.setCell (by simp) _⟩
theorem CW.cells {w wx : World} {l : List UInt8} {ok : Bool} {cs cs' : Array Value} (h : CW w wx l ok cs) (hc : cs = cs') : CW w wx l ok cs' := hc ▸ h
theorem CW.drew {w wx : World} {l : List UInt8} {ok : Bool} {cs : Array Value} (h : CW w wx l ok cs) : CW w wx.drew l ok cs := ⟨h.res, h.d, h.mf, ⟨h.sh.s, h.sh.o, h.sh.ne⟩, h.below.drew⟩
def DC (y m d h mi s n z : Int) : Array Value := #[.int .i64 y, .int .i64 m, .int .i64 d, .int .i64 h, .int .i64 mi, .int .i64 s, .int .i64 n, .int .i64 z]
theorem results_cell_row_tmp2 {P : Program} {fn : Func} {p q r : Tmp} {ty : TypeId} (h : fn.results = #[.cell p ty, .tmp q, .tmp r]) (tmps : Array Value) (w : World) (g : Nat) (t : TypeId) (cs : Array Value) (fr : Nat × Nat) (d : TypeDesc)
    (hp : tmps.getD p undef = .pointer (some ⟨g, 0, none⟩)) (hg : w.heap[g]? = some (.cells cs t fr))
    (hu : P.underlying ty = some d) (hd : (match d with | .struct _ | .array _ _ => true | _ => false) = true) (hi : (P.info? ty).map (·.size) = some cs.size) :
    (results fn tmps).run P w = .ok (.tuple #[.agg cs, tmps.getD q undef, tmps.getD r undef]) w := by
  have hp' : tmps[p]?.getD undef = .pointer (some ⟨g, 0, none⟩) := by simpa using hp
  simp [results, h, hp', asAddr, run_loadVar_row w g t ty cs fr d hg hu hd hi]
@[go_sem] theorem run_store_func (P : Program) (w : World) (a : Addr) (m : Mode) (f : Fn) (x y : Array Value) : (store a (.func f x y) m).run P w = stored P w a (.func f x y) m := run_store P w a _ m rfl
theorem dateSize : (Tryz.prog.info? 46).map (·.size) = some 8 := by kernel_rfl
@[irreducible] def J0 (l : List UInt8) (w : World) (a' : Act) (w' : World) : Prop :=
  ∃ u0 u1 u3 u4 u5 u6 u7 u8 u9 u10 u11 u12 u13 u14 u15 u16 u17 u18 u19 u20 u21 u22 u23 u24 u25 u26 u27 u28 u29 u30 u31 u32 u33 u34 u35 u36 u37 u38 u39 u40 u41 u42 u43 u44 u45 u46 u47 u48 u49 u50 u51 u52 u53 u54 u55 u56 u57 u58 u59 u60 u61 u62 u63 u64 u65 u66 u67 u68 u69 u70 u71 u72 u73 u74 u75 u76 u77 u78 u79 u80 u81 u82 u83 u84 u85 u86 u87 u88 u89 u90 u91 u92 u93 u94 u95 u96 u97 u98 u99 u100 u101 u102 u103 u104 u105 u106 u107 u108 u109 u110 u111 u112 : Value, (Row w' (w.heap.size + 1) 46 DATZ ∧ Below w.heap.size w w' ∧ calD l = none) ∧ a' = { tmps := #[u0, u1, .pointer (some ⟨w.heap.size + 1, 0, none⟩), u3, u4, u5, u6, u7, u8, u9, u10, u11, u12, u13, u14, u15, u16, u17, u18, u19, u20, u21, u22, u23, u24, u25, u26, u27, u28, u29, u30, u31, u32, u33, u34, u35, u36, u37, u38, u39, u40, u41, u42, u43, u44, u45, u46, u47, u48, u49, u50, u51, u52, u53, u54, u55, u56, u57, u58, u59, u60, u61, u62, u63, u64, u65, u66, u67, u68, u69, u70, u71, u72, u73, u74, u75, u76, u77, u78, u79, u80, u81, u82, u83, u84, u85, u86, u87, u88, u89, u90, u91, u92, u93, u94, u95, u96, u97, u98, u99, u100, u101, u102, u103, u104, u105, u106, u107, u108, u109, u110, u111, u112], defers := [] }
@[irreducible] def J1 (l : List UInt8) (w : World) (a' : Act) (w' : World) : Prop :=
  ∃ u0 u3 u4 u6 u7 u8 u10 u11 u12 u13 u14 u15 u16 u17 u18 u19 u20 u21 u22 u23 u24 u25 u26 u27 u28 u29 u30 u31 u32 u33 u34 u35 u36 u37 u38 u39 u40 u41 u42 u43 u44 u45 u46 u47 u48 u49 u50 u51 u52 u53 u54 u55 u56 u57 u58 u59 u60 u61 u62 u63 u64 u65 u66 u67 u68 u69 u70 u71 u72 u73 u74 u75 u76 u77 u78 u79 u80 u81 u82 u83 u84 u85 u86 u87 u88 u89 u90 u91 u92 u93 u94 u95 u96 u97 u98 u99 u100 u101 u102 u103 u104 u105 u106 u107 u108 u109 u110 u111 u112 : Value, (∃ (y m d h mi s n z : Int) (r : List UInt8) (k : Bool), CW w w' r k (DC y m d h mi s n z) ∧ r.length ≤ 4194304 ∧ calD l = endD ⟨y, m, d, h, mi, s, n, z⟩ r k) ∧ a' = { tmps := #[u0, .pointer (some ⟨w.heap.size, 0, none⟩), .pointer (some ⟨w.heap.size + 1, 0, none⟩), u3, u4, .pointer (some ⟨w.heap.size + 2, 0, none⟩), u6, u7, u8, .pointer (some ⟨w.heap.size + 4, 0, none⟩), u10, u11, u12, u13, u14, u15, u16, u17, u18, u19, u20, u21, u22, u23, u24, u25, u26, u27, u28, u29, u30, u31, u32, u33, u34, u35, u36, u37, u38, u39, u40, u41, u42, u43, u44, u45, u46, u47, u48, u49, u50, u51, u52, u53, u54, u55, u56, u57, u58, u59, u60, u61, u62, u63, u64, u65, u66, u67, u68, u69, u70, u71, u72, u73, u74, u75, u76, u77, u78, u79, u80, u81, u82, u83, u84, u85, u86, u87, u88, u89, u90, u91, u92, u93, u94, u95, u96, u97, u98, u99, u100, u101, u102, u103, u104, u105, u106, u107, u108, u109, u110, u111, u112], defers := [] }
def CPOST (l : List UInt8) (w : World) (e : Ending) (w' : World) : Prop :=
  Below w.heap.size w w' ∧ match calD l with
  | none => e = .returned (.tuple #[.agg DATZ, txt [], .int .i64 3])
  | some (x, r) => e = .returned (.tuple #[x.v, txt r, .int .i64 0])
theorem CPOST.no {l : List UInt8} {w w' : World} {e : Ending} (h : calD l = none) (he : e = .returned (.tuple #[.agg DATZ, txt [], .int .i64 3])) (hb : Below w.heap.size w w') : CPOST l w e w' := by
  unfold CPOST
  rw [h]
  exact ⟨hb, he⟩
theorem CPOST.yes {l r : List UInt8} {x : D8} {w w' : World} {e : Ending} (h : calD l = some (x, r)) (he : e = .returned (.tuple #[x.v, txt r, .int .i64 0])) (hb : Below w.heap.size w w') : CPOST l w e w' := by
  unfold CPOST
  rw [h]
  exact ⟨hb, he⟩
theorem tab_low {w w' : World} (h : Tab w) (hb : Below w.heap.size w w') : Tab w' := h.below hb
end Go.Proofs.YtdkfgobbpadmgaaGreatDoor
