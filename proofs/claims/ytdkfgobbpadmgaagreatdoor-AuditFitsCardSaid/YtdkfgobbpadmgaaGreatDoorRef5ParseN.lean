/- Package tabularyref05: the words on memory of Parse's walk. -/
import Derived.Test.YtdkfgobbpadmgaaGreatDoorRef5Elem
import Derived.Test.YtdkfgobbpadmgaaGreatDoorRef5Right
import Derived.Test.YtdkfgobbpadmgaaGreatDoorCalLabels
set_option linter.unusedVariables false
set_option linter.unusedSimpArgs false
namespace Go.Proofs.YtdkfgobbpadmgaaGreatDoor
open Go.RowKit
def EVZ : Array Value := #[.int .i64 0, .int .i64 0, .bool false, .int .i64 0, .string ⟨#[]⟩, .string ⟨#[]⟩, .string ⟨#[]⟩, .string ⟨#[]⟩, .slice none 0 0, .string ⟨#[]⟩]
/-- the result's block, and that nothing old was touched -/
structure Z5 (w : World) (wx : World) : Prop where
  res : Row wx w.heap.size 25 EVZ
  below : Below w.heap.size w wx
theorem Z5.lower {w wx w' : World} (h : Z5 w wx) (hb : Below wx.heap.size wx w') : Z5 w w' := ⟨h.res.below hb h.res.lt, h.below.trans (hb.mono h.below.size)⟩
theorem Z5.drew {w wx : World} (h : Z5 w wx) : Z5 w wx.drew := ⟨h.res, h.below.drew⟩
/-- beside it the event's own block -/
structure R5 (w : World) (E : Nat) (wx : World) (cs : Array Value) : Prop where
  res : Row wx w.heap.size 25 EVZ
  ev : Row wx E 25 cs
  low : w.heap.size < E
  below : Below w.heap.size w wx
theorem R5.lower {w wx w' : World} {E : Nat} {cs : Array Value} (h : R5 w E wx cs) (hb : Below wx.heap.size wx w') : R5 w E w' cs := ⟨h.res.below hb h.res.lt, h.ev.below hb h.ev.lt, h.low, h.below.trans (hb.mono h.below.size)⟩
theorem R5.alloc {w wx : World} {E : Nat} {cs : Array Value} (h : R5 w E wx cs) (o : Obj) : R5 w E (wx.alloc o) cs := ⟨h.res.alloc _, h.ev.alloc _, h.low, h.below.alloc h.below.size _⟩
theorem R5.drew {w wx : World} {E : Nat} {cs : Array Value} (h : R5 w E wx cs) : R5 w E wx.drew cs := ⟨h.res, h.ev, h.low, h.below.drew⟩
theorem R5.put {w wx : World} {E : Nat} {cs : Array Value} (h : R5 w E wx cs) (i : Nat) (u : Value) : R5 w E (wx.setCell ⟨E, i, none⟩ u) (cs.setIfInBounds i u) :=
  ⟨h.res.other (by have := h.low; simp; omega) _, h.ev.put i u, h.low, h.below.setCell (by have := h.low; simp; omega) _⟩
theorem R5.grown {w wx w' : World} {E : Nat} {cs : Array Value} {row : Option Nat} (h : R5 w E wx cs) (hg : wx.grownBy w' row) (hrow : ∀ k, row = some k → E < k) : R5 w E w' cs := by
  have hl := h.low; have hes := h.ev.lt
  have hne : ∀ i, i ≤ E → some i ≠ row := fun i hi e => by have := hrow i e.symm; omega
  exact ⟨(hg.block _ h.res.lt (hne _ (by omega))).trans h.res, (hg.block _ h.ev.lt (hne _ (by omega))).trans h.ev, hl, ⟨hg.os.trans h.below.os, hg.tape.trans h.below.tape, hg.output.trans h.below.output, Nat.le_trans h.below.size hg.size, fun k hk => (hg.block k (Nat.lt_of_lt_of_le hk h.below.size) (hne k (by omega))).trans (h.below.block k hk)⟩⟩
theorem R5.turn {w wx w' : World} {E : Nat} {cs : Array Value} {p : Nat → Prop} (h : R5 w E wx cs) (ht : Turn p wx w') (hp : ∀ k, p k → E < k) : R5 w E w' cs := by
  have hl := h.low
  exact ⟨h.res.turn ht (fun hq => by have := hp _ hq; omega), h.ev.turn ht (fun hq => by have := hp _ hq; omega), hl, h.below.trans (ht.below (fun k hk => by have := hp k hk; omega) h.below.size)⟩
theorem R5.cells {w wx : World} {E : Nat} {cs cs' : Array Value} (h : R5 w E wx cs) (hc : cs = cs') : R5 w E wx cs' := hc ▸ h
theorem R5.z {w wx : World} {E : Nat} {cs : Array Value} (h : R5 w E wx cs) : Z5 w wx := ⟨h.res, h.below⟩
theorem calD_cal4 : calD = cal4 := by funext l; exact cal4_eq l
theorem fracN_suffix : ∀ (f : Nat) (n : Int) (l : List UInt8), ∃ j, (fracN f n l).2 = l.drop j
  | 0, n, l => ⟨0, rfl⟩
  | f + 1, n, [] => ⟨0, rfl⟩
  | f + 1, n, c :: r => by
    rw [fracN]
    split
    · obtain ⟨j, hj⟩ := fracN_suffix f (n + ((c.toNat : Int) - 48) * 10 ^ (3 + f)) r
      exact ⟨1 + j, by rw [hj, ← List.drop_drop]; rfl⟩
    · exact ⟨0, rfl⟩
theorem cal4_suffix {l r : List UInt8} {x : D8} (h : cal4 l = some (x, r)) : ∃ j, r = l.drop j := by
  unfold cal4 at h
  split at h
  · split at h
    · cases h
    · rename_i n r1 hf
      have h1 : ∃ j, r1 = l.drop j := by
        unfold frac4 at hf
        split at hf
        · split at hf
          · cases hf
          · injection hf with hf
            obtain ⟨j, hj⟩ := fracN_suffix 6 0 ((l.drop 19).drop 1)
            exact ⟨19 + (1 + j), by rw [show r1 = (fracN 6 0 ((l.drop 19).drop 1)).2 by rw [hf], hj, List.drop_drop, List.drop_drop]⟩
        · cases hf; exact ⟨19, rfl⟩
      obtain ⟨j, rfl⟩ := h1
      split at h
      · cases h
      · rename_i z r2 hz
        have h2 : ∃ k, r2 = (l.drop j).drop k := by
          unfold zone4 at hz
          split at hz
          · cases hz; exact ⟨1, rfl⟩
          · split at hz
            · cases hz; exact ⟨6, rfl⟩
            · cases hz
        obtain ⟨k, rfl⟩ := h2
        unfold endD at h
        split at h
        · cases h; exact ⟨j + k, by rw [List.drop_drop]⟩
        · cases h
  · cases h
theorem cal4_ok {l r : List UInt8} {x : D8} (h : cal4 l = some (x, r)) : x.ok = true := (calD_ok l x r (by rw [calD_cal4]; exact h)).1
theorem has3 {l : List UInt8} {m : List UInt8} (h : Lib.hasPrefix l m = true) : m.length ≤ l.length := by
  unfold Lib.hasPrefix at h
  exact (List.isPrefixOf_iff_prefix.1 h).length_le
theorem SmallEls.nil : SmallEls [] := ⟨by simp, fun x hx => by cases hx⟩
theorem rparN_small (M : Nat) : ∀ (n : Nat) (l : List UInt8) (ps ps' : List Par) (r : List UInt8), l.length ≤ M → (∀ q ∈ ps, q.1.length ≤ M ∧ q.2.length ≤ M) → rparN n l ps = some (ps', r) →
    r.length < l.length ∧ ps'.length + r.length ≤ ps.length + l.length ∧ ∀ q ∈ ps', q.1.length ≤ M ∧ q.2.length ≤ M
  | 0, _, _, _, _, _, _, h => by cases h
  | _ + 1, [], _, _, _, _, _, h => by cases h
  | n + 1, c :: l, ps, ps', r, hl, hp, h => by
    rw [rparN] at h
    simp only [List.length_cons] at hl ⊢
    split at h
    · split at h
      · split at h
        · cases h
        · rename_i v r1 hv
          obtain ⟨v1, v2⟩ := rvalP_len hv
          have f1 := pFrom_len eqB l
          have f2 := pTo_len eqB l
          rw [List.length_drop] at v1 v2
          split at h
          · cases h
          · obtain ⟨i1, i2, i3⟩ := rparN_small M n r1 _ _ _ (by omega) (fun q hq => by
              rw [List.mem_append, List.mem_singleton] at hq
              rcases hq with hq | rfl
              · exact hp q hq
              · exact ⟨by show (pTo eqB l).length ≤ M; omega, by show v.length ≤ M; omega⟩) h
            rw [List.length_append, List.length_singleton] at i2
            exact ⟨by omega, by omega, i3⟩
      · cases h
    · split at h
      · cases h; exact ⟨by omega, by omega, hp⟩
      · cases h
theorem relN_small (M : Nat) {l : List UInt8} {x : PEl} {r : List UInt8} (hl : l.length ≤ M) (h : relN l = some (x, r)) : x.1.length ≤ M ∧ r.length < l.length ∧ x.2.length ≤ M ∧ ∀ q ∈ x.2, q.1.length ≤ M ∧ q.2.length ≤ M := by
  unfold relN at h
  split at h
  · split at h
    · cases h
    · rename_i ps r1 hp
      cases h
      have t1 := pFrom_len spbB l
      have t2 := pTo_len spbB l
      obtain ⟨i1, i2, i3⟩ := rparN_small M _ _ _ _ _ (by omega) (by simp) hp
      rw [List.length_nil] at i2
      exact ⟨by show (pTo spbB l).length ≤ M; omega, by omega, by show ps.length ≤ M; omega, i3⟩
  · cases h
theorem SmallEls.eb {es : List VEl} (h : SmallEls es) : EB (es.map VEl.bel) := by
  have hlen := h.len
  refine ⟨by rw [List.length_map]; omega, fun x hx => ?_, fun x hx => ?_, fun x hx q hq => ?_⟩
  all_goals
    obtain ⟨y, hy, rfl⟩ := List.mem_map.1 hx
    obtain ⟨h1, h2, h3⟩ := h.el y hy
  · exact h1
  · have : (VEl.bel y).2.2.length = y.2.2.length := by simp [VEl.bel, belOf]
    omega
  · simp only [VEl.bel, belOf] at hq
    obtain ⟨p, hp, rfl⟩ := List.mem_map.1 hq
    exact h3 p hp
theorem SmallEls.more {es : List VEl} (h : SmallEls es) {id : List UInt8} {v : Value} {ps : List Par} (hn : es.length + 1 ≤ 4194304) (h1 : id.length ≤ 4194304) (h2 : ps.length ≤ 4194304) (h3 : ∀ q ∈ ps, q.1.length ≤ 4194304 ∧ q.2.length ≤ 4194304) : SmallEls (es ++ [(id, v, ps)]) := by
  refine ⟨by rw [List.length_append, List.length_singleton]; omega, fun x hx => ?_⟩
  rw [List.mem_append, List.mem_singleton] at hx
  rcases hx with hx | rfl
  · exact h.el x hx
  · exact ⟨h1, h2, h3⟩
theorem strInfo : (Tryz.prog.info? 9).map (fun i => (i.zero, i.size, i.bytes)) = some (some (.string ⟨#[]⟩), 1, 16) := by kernel_rfl
def wordCells (ws : List (List UInt8)) : List Value := ws.map txt
theorem rwordsN_len : ∀ (n : Nat) (l : List UInt8) (ws ws' : List (List UInt8)) (r : List UInt8), rwordsN n l ws = some (ws', r) → ws'.length = ws.length + n
  | 0, l, ws, ws', r, h => by cases h; rfl
  | n + 1, l, ws, ws', r, h => by
    rw [rwordsN] at h
    split at h
    · have := rwordsN_len n _ _ _ _ h
      rw [List.length_append, List.length_singleton] at this
      omega
    · cases h
theorem priL_at {l : List UInt8} (h : priK l = true) : l.length ≤ l.length ∧ priL l = l.drop (1 + (priS l).length + 3) ∧ 1 + (priS l).length + 3 ≤ l.length ∧ findI gtB l 0 = ((1 + (priS l).length : Nat) : Int) ∧ priS l = (l.drop 1).take (priS l).length ∧ Lib.hasPrefix (l.drop (1 + (priS l).length)) gt8 = true ∧ Lib.hasPrefix l lt8 = true := by
  unfold priK at h
  simp only [Bool.and_eq_true] at h
  obtain ⟨⟨h1, h2⟩, h3⟩ := h
  have hS : priS l = pTo gtB (Lib.trimPrefix l lt8) := rfl
  obtain ⟨t, rfl⟩ := has1_ex h1
  have ht : Lib.trimPrefix ((60 : UInt8) :: t) lt8 = t := by rw [trim_drop h1]; rfl
  rw [ht] at h2 h3 hS
  have hf : pFrom gtB t = t.drop (pTo gtB t).length := from_drop t
  rw [hf] at h3
  have hL : priL ((60 : UInt8) :: t) = (t.drop (pTo gtB t).length).drop 3 := by
    unfold priL
    rw [ht, hf, trim_drop h3]; rfl
  have hlen := has3 h3
  rw [List.length_drop] at hlen
  have h33 : gt8.length = 3 := rfl
  rw [hS]
  refine ⟨Nat.le_refl _, ?_, ?_, ?_, ?_, ?_, h1⟩
  · rw [hL, List.drop_drop, show 1 + (pTo gtB t).length + 3 = ((pTo gtB t).length + 3) + 1 by omega, List.drop_succ_cons]
  · rw [List.length_cons]; have := to_lt h2; omega
  · have hp : pAny gtB ((60 : UInt8) :: t) = true := by
      show ((60 : UInt8) :: t).any gtB = true
      rw [List.any_cons]
      have : t.any gtB = true := h2
      rw [this]; simp
    rw [findI_yes (by rw [List.drop_zero]; exact hp), List.drop_zero]
    congr 1
    have : pTo gtB ((60 : UInt8) :: t) = 60 :: pTo gtB t := by
      unfold pTo
      have hp' : ((60 : UInt8) :: t).any gtB = true := hp
      have h2' : t.any gtB = true := h2
      rw [if_pos hp', if_pos h2', List.takeWhile_cons]
      rfl
    rw [this, List.length_cons]; omega
  · rw [List.drop_succ_cons, List.drop_zero]; exact to_take t
  · rw [show 1 + (pTo gtB t).length = (pTo gtB t).length + 1 by omega, List.drop_succ_cons]; exact h3
theorem priK_no {l : List UInt8} (h : priK l = false) (h1 : Lib.hasPrefix l lt8 = true) (h2 : pAny gtB l = true) : findI gtB l 0 = ((pTo gtB l).length : Int) ∧ Lib.hasPrefix (l.drop (pTo gtB l).length) gt8 = false := by
  obtain ⟨t, rfl⟩ := has1_ex h1
  have ht : Lib.trimPrefix ((60 : UInt8) :: t) lt8 = t := by rw [trim_drop h1]; rfl
  have h2t : t.any gtB = true := by
    have h' : ((60 : UInt8) :: t).any gtB = true := h2
    rw [List.any_cons] at h'
    simpa [gtB] using h'
  refine ⟨by rw [findI_yes (by rw [List.drop_zero]; exact h2), List.drop_zero, Nat.zero_add], ?_⟩
  have : pTo gtB ((60 : UInt8) :: t) = 60 :: pTo gtB t := by
    unfold pTo
    have hp' : ((60 : UInt8) :: t).any gtB = true := h2
    rw [if_pos hp', if_pos h2t, List.takeWhile_cons]
    rfl
  rw [this, List.length_cons, List.drop_succ_cons, ← from_drop]
  unfold priK at h
  rw [h1, ht, show pAny gtB t = true from h2t] at h
  simpa using h
theorem numP_some {s : List UInt8} {n : Nat} (h : numP s = some n) : (numN s = (n : Int)) ∧ n ≤ 191 := by
  unfold numP at h
  split at h
  · rename_i hc
    injection h with h
    have := numN_nonneg s hc.2.2.1
    omega
  · cases h
noncomputable def rtail (n : Nat) (t : Bool) (a : Int) (ws : List (List UInt8)) (es : List PEl) (q : Option (List UInt8)) : Option PEv :=
  match q with
  | none => none
  | some tx => if rightP ⟨n % 8, n / 8, t, a, ws.getD 0 [], ws.getD 1 [], ws.getD 2 [], ws.getD 3 [], es, tx⟩ = 0 then
      some ⟨n % 8, n / 8, t, a, ws.getD 0 [], ws.getD 1 [], ws.getD 2 [], ws.getD 3 [], es, tx⟩ else none
noncomputable def rmid (n : Nat) (t : Bool) (a : Int) (ws : List (List UInt8)) (q : Option (List PEl × List UInt8)) : Option PEv :=
  match q with
  | none => none
  | some (es, l4) => rtail n t a ws es (rtextN l4)
noncomputable def rwds (n : Nat) (t : Bool) (a : Int) (q : Option (List (List UInt8) × List UInt8)) : Option PEv :=
  match q with
  | none => none
  | some (ws, l3) => rmid n t a ws (rdataN l3)
theorem rrest_at (n : Nat) (t : Bool) (a : Int) (l2 : List UInt8) : rrestN n (some (t, a, l2)) = rwds n t a (rwordsN 4 l2 []) := by
  unfold rrestN rwds
  dsimp only
  cases rwordsN 4 l2 [] with
  | none => rfl
  | some q =>
    obtain ⟨ws, l3⟩ := q
    dsimp only
    unfold rmid
    cases rdataN l3 with
    | none => rfl
    | some q =>
      obtain ⟨es, l4⟩ := q
      dsimp only
      unfold rtail
      cases rtextN l4 <;> rfl
theorem text_cons (r : List UInt8) : rtextN (32 :: r) = if Lib.hasPrefix r bom8 then some (r.drop 3) else if r.isEmpty then none else some r := by
  unfold rtextN
  have h : Lib.hasPrefix ((32 : UInt8) :: r) blank8 = true := (has1 32 r 32).trans (by simp)
  rw [h]
  simp
theorem text_bad (c : UInt8) (r : List UInt8) (h : (c == 32) = false) : rtextN (c :: r) = none := by
  unfold rtextN
  have h : Lib.hasPrefix (c :: r) blank8 = false := (has1 32 r c).trans (by rw [Bool.beq_comm]; exact h)
  rw [h]
  simp
end Go.Proofs.YtdkfgobbpadmgaaGreatDoor
