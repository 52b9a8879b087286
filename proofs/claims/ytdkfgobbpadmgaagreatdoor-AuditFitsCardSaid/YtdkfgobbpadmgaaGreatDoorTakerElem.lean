/- Package sysl's taker: an element. -/
import Derived.Test.YtdkfgobbpadmgaaGreatDoorTakerWord
import Derived.Laws.Rows
set_option linter.unusedVariables false
set_option linter.unusedSimpArgs false
namespace Go.Proofs.YtdkfgobbpadmgaaGreatDoor
open Go.RowKit
theorem valN_len : ∀ (n : Nat) (l o : List UInt8) (ok : Bool), (valN n l o ok).2.1.length ≤ l.length ∧ (valN n l o ok).1.length ≤ o.length + l.length
  | 0, l, o, ok => by simp [valN]
  | n + 1, [], o, ok => by simp [valN]
  | n + 1, c :: l, o, ok => by
    rw [valN]
    split
    · simp
    split
    · have := valN_len n l (o ++ [c]) false
      simp at this ⊢
      omega
    split
    · have := valN_len n l.tail (o ++ [l.headD 0]) ok
      simp at this ⊢
      omega
    · have := valN_len n l (o ++ [c]) ok
      simp at this ⊢
      omega
theorem owns_turn {w w' : World} {base : Nat} {e : TypeId} {size : Nat} {v : Value} {n : Nat} {xs : List Value} {p : Nat → Prop} (h : w.ownsRow base e size v n xs) (ht : Turn p w w') (hp : ∀ k, p k → k < base) : w'.ownsRow base e size v n xs := by
  obtain ⟨h0, h1 | ⟨g, cap, cur, rfl, hg, hh, r⟩⟩ := h
  · exact ⟨h0, .inl h1⟩
  · exact ⟨h0, .inr ⟨g, cap, cur, rfl, hg, (ht.block g (lt_of_block hh) (fun hpg => by have := hp g hpg; omega)).trans hh, r⟩⟩
theorem owns_lower {w : World} {base base' : Nat} {e : TypeId} {size : Nat} {v : Value} {n : Nat} {xs : List Value} (h : w.ownsRow base e size v n xs) (hb : base' ≤ base) : w.ownsRow base' e size v n xs := by
  obtain ⟨h0, h1 | ⟨g, cap, cur, rfl, hg, r⟩⟩ := h
  · exact ⟨h0, .inl h1⟩
  · exact ⟨h0, .inr ⟨g, cap, cur, rfl, Nat.le_trans hb hg, r⟩⟩
theorem owns_slice {w : World} {base : Nat} {e : TypeId} {size : Nat} {v : Value} {n : Nat} {xs : List Value} (h : w.ownsRow base e size v n xs) : ∃ p a b, v = .slice p a b := by
  obtain ⟨h0, ⟨rfl, _⟩ | ⟨g, cap, cur, rfl, r⟩⟩ := h
  · exact ⟨_, _, _, rfl⟩
  · exact ⟨_, _, _, rfl⟩
theorem trim_lt {c : UInt8} {l m : List UInt8} (h : Lib.hasPrefix l (c :: m) = true) : (Lib.trimPrefix l (c :: m)).length < l.length := by
  cases l with
  | nil => simp [Lib.hasPrefix] at h
  | cons d l =>
    rw [Lib.trimPrefix, if_pos h]
    simp
    omega
theorem own_ge {w : World} {base : Nat} {e : TypeId} {size : Nat} {v : Value} {n : Nat} {xs : List Value} (h : w.ownsRow base e size v n xs) {k : Nat} (hk : v.ownBlock = some k) : base ≤ k := by
  obtain ⟨h0, ⟨rfl, _⟩ | ⟨g, cap, cur, rfl, hg, r⟩⟩ := h
  · simp [Value.ownBlock] at hk
  · simp [Value.ownBlock] at hk
    omega
theorem owns_put_other {w : World} {base : Nat} {e : TypeId} {size : Nat} {v : Value} {n : Nat} {xs : List Value} (h : w.ownsRow base e size v n xs) {a : Addr} (ha : v.ownBlock ≠ some a.block) (u : Value) : (w.setCell a u).ownsRow base e size v n xs := by
  obtain ⟨h0, h1 | ⟨g, cap, cur, rfl, hg, hh, r⟩⟩ := h
  · exact ⟨h0, .inl h1⟩
  · refine ⟨h0, .inr ⟨g, cap, cur, rfl, hg, (Below.heap_setCell w a u g (fun e => ha ?_)).trans hh, r⟩⟩
    rw [← e]
    rfl
theorem own_lt {w : World} {base : Nat} {e : TypeId} {size : Nat} {v : Value} {n : Nat} {xs : List Value} (h : w.ownsRow base e size v n xs) {k : Nat} (hk : v.ownBlock = some k) : k < w.heap.size := by
  obtain ⟨h0, ⟨rfl, _⟩ | ⟨g, cap, cur, rfl, hg, hh, r⟩⟩ := h
  · simp [Value.ownBlock] at hk
  · simp [Value.ownBlock] at hk
    have := lt_of_block hh
    omega
abbrev Par := List UInt8 × List UInt8
def parCells (ps : List Par) : List Value := ps.flatMap fun p => [txt p.1, txt p.2]
def eqMk : List UInt8 := [61, 34]
def parN : Nat → List UInt8 → Bool → List Par → List Par × List UInt8 × Bool
  | 0, l, ok, ps => (ps, l, ok)
  | n + 1, l, ok, ps =>
    if ok && Lib.hasPrefix l [32] then
      let l2 := Lib.trimPrefix l [32]
      let l3 := pFrom eqB l2
      let r := valP (Lib.trimPrefix l3 eqMk) (ok && pAny eqB l2 && Lib.hasPrefix l3 eqMk)
      parN n r.2.1 r.2.2 (ps ++ [(pTo eqB l2, r.1)])
    else (ps, l, ok)
theorem elemSize : (Tryz.prog.info? 58).map (·.size) = some 2 := by kernel_rfl
theorem parInfo : (Tryz.prog.info? 73).map (fun i => (i.zero, i.size, i.bytes)) = some (some (.agg #[.string ⟨#[]⟩, .string ⟨#[]⟩]), 2, 32) := by kernel_rfl
def elemN (l : List UInt8) : List UInt8 := pTo spbB l
def elemR (l : List UInt8) (ok : Bool) : List Par × List UInt8 × Bool := parN (l.length + 1) (pFrom spbB l) (ok && pAny spbB l) []
set_option maxHeartbeats 2000000 in
set_option maxRecDepth 100000 in
theorem elem_t (B : Nat) (l : List UInt8) (ok : Bool) (w : World) (h : Tk w B l ok) (hl : l.length ≤ 4194304) :
    Calls Tryz.prog 19 #[.pointer (some ⟨B, 0, none⟩)] w fun e w' => ∃ v, e = .returned (.agg #[txt (elemN l), v]) ∧ w'.ownsRow w.heap.size 73 2 v (elemR l ok).1.length (parCells (elemR l ok).1) ∧ Tk w' B (Lib.trimPrefix (elemR l ok).2.1 [93]) ((elemR l ok).2.2 && Lib.hasPrefix (elemR l ok).2.1 [93]) ∧ Turn (· = B) w w' := by
  have hBlt : B < w.heap.size := Row.lt h
  have l1 : l.length ≤ 140737488355328 := by omega
  have H := Lib.hid h; have HT := Lib.hid (Turn.refl (· = B) w); clear h
  obtain ⟨i0, hi, hz0, hz1, hz2⟩ := info_parts parInfo
  go_enter Tryz.func19, Tryz.ntmps19
  have HK : Hid (Tk (w.alloc (Obj.cells #[Value.string { data := #[] }, Value.slice none 0 0] 58)) B l ok) := Lib.hid (Row.alloc H.out _)
  replace HT := Lib.hid (HT.out.alloc (Obj.cells #[Value.string { data := #[] }, Value.slice none 0 0] 58))
  have HX : Hid (Row (w.alloc (Obj.cells #[Value.string { data := #[] }, Value.slice none 0 0] 58)) w.heap.size 58 #[Value.string { data := #[] }, Value.slice none 0 0]) := Lib.hid (Row.laid _ _ _)
  go_wp2_with (first
    | (go_at_call 31; refine (upto_spb _ _ _ _ HK.out l1).mono ?_; rintro e w1 ⟨he, h1, t1⟩; replace he : e = .returned (.string ⟨(pTo spbB l).toArray⟩) := he; subst he; replace HX := Lib.hid (HX.out.turn t1 (by omega)); replace HK := Lib.hid h1; replace HT := Lib.hid (HT.out.trans t1); have x0 := HX.out.cell 0; have y0 := HX.out.frozen 0; clear h1 t1))
  obtain ⟨Y, hY⟩ : ∃ Y, Y = w1.heap.size := ⟨_, rfl⟩
  go_loopg [12] (pFrom spbB l).length (fun g _ wr => ∃ (n : Nat) (l' : List UInt8) (ps : List Par) (ok' : Bool) (v : Value), g = l'.length ∧ l'.length < n ∧ l'.length ≤ 4194304 ∧ ps.length + l'.length ≤ 4194304 ∧ Hid (parN n l' ok' ps = elemR l ok) ∧ Tk wr B l' ok' ∧ Row wr w.heap.size 58 #[Value.string { data := #[] }, Value.slice none 0 0] ∧ Row wr w1.heap.size 58 #[.string ⟨(pTo spbB l).toArray⟩, v] ∧ wr.ownsRow (w1.heap.size + 1) 73 2 v ps.length (parCells ps) ∧ Turn (· = B) w wr)
  case atStart =>
    have hs1 := HT.out.size
    have hl2 : (pFrom spbB l).length ≤ l.length := pFrom_len _ _
    exact ⟨l.length + 1, pFrom spbB l, [], ok && pAny spbB l, .slice none 0 0, rfl, by omega, by omega, by simpa using (by omega : (pFrom spbB l).length ≤ 4194304), rfl, Row.alloc HK.out _, Row.alloc HX.out _, Row.laid _ _ _, World.ownsRow_nil _ _ _ _, HT.out.alloc _⟩
  case round =>
    obtain ⟨n, l', ps, ok', v, hg, hn, hl1, hl2, hv, hk, hx, hy, hown, ht⟩ := hrel
    have HG := Lib.hid hg
    have hRlt := Row.lt HX.out
    clear hg HX HK
    obtain ⟨pp, pl, pc, rfl⟩ := owns_slice hown
    match n, hn with
    | n + 1, hn =>
    have c1 := hk.c1
    have x0 : wr.cell? ⟨w.heap.size, 0, none⟩ = some (.string ⟨#[]⟩) := hx.cell 0
    have x1 : wr.cell? ⟨w.heap.size, 1, none⟩ = some (.slice none 0 0) := hx.cell 1
    have y0 : wr.cell? ⟨w1.heap.size, 0, none⟩ = some (.string ⟨(pTo spbB l).toArray⟩) := hy.cell 0
    have y1 : wr.cell? ⟨w1.heap.size, 1, none⟩ = some (.slice pp pl pc) := hy.cell 1
    have fx0 := hx.frozen 0
    have fx1 := hx.frozen 1
    have fy1 := hy.frozen 1
    cases ok' with
    | false =>
      have HP : Hid (elemR l ok = (ps, l', false)) := hv.out.symm
      go_wp2_with (go_at_call 16; clear c1 x0 x1 y0 y1 fx0 fx1 fy1; refine (need_t _ _ _ _ _ hk).mono ?_; rintro e w2 ⟨rfl, h1, t1⟩; replace hx := hx.turn t1 (by omega); replace hy := hy.turn t1 (by omega); replace hown := owns_turn hown t1 (by omega); replace ht := ht.trans t1; replace hk := h1; have c1 := hk.c1; have x0 : w2.cell? ⟨w.heap.size, 0, none⟩ = some (.string ⟨#[]⟩) := hx.cell 0; have x1 : w2.cell? ⟨w.heap.size, 1, none⟩ = some (.slice none 0 0) := hx.cell 1; have y0 : w2.cell? ⟨w1.heap.size, 0, none⟩ = some (.string ⟨(pTo spbB l).toArray⟩) := hy.cell 0; have y1 : w2.cell? ⟨w1.heap.size, 1, none⟩ = some (.slice pp pl pc) := hy.cell 1; have fx0 := hx.frozen 0; have fx1 := hx.frozen 1; have fy1 := hy.frozen 1; clear h1 t1)
      refine bodyPost_ret (results_cell_row rfl _ _ w.heap.size _ #[.string ⟨(pTo spbB l).toArray⟩, .slice pp pl pc] (0, 0) _ rfl ((hx.put 0 (.string ⟨(pTo spbB l).toArray⟩)).put 1 (.slice pp pl pc)) Tryz.underlying58 rfl elemSize) rfl ?_
      refine ⟨_, rfl, ?_, ?_, ?_⟩
      · rw [HP.out]
        exact owns_lower (ownsRow_setCell_below (ownsRow_setCell_below hown (show w.heap.size < _ by omega) _) (show w.heap.size < _ by omega) _) (by omega)
      · rw [HP.out]
        exact Row.other (Row.other (show Row _ B _ _ from by simpa [Tk] using hk) (show B ≠ w.heap.size by omega) _) (show B ≠ w.heap.size by omega) _
      · exact (ht.via (((Turn.refl (· = w.heap.size) _).put (q := ⟨w.heap.size, 0, none⟩) rfl _).put (q := ⟨w.heap.size, 1, none⟩) rfl _) (fun k hk => .inl (by omega)))
    | true =>
      cases hp : Lib.hasPrefix l' [32] with
      | false =>
        have hT : Lib.trimPrefix l' [32] = l' := by rw [Lib.trimPrefix, hp]; rfl
        have HP : Hid (elemR l ok = (ps, l', true)) := by
          have := hv.out
          rw [parN, hp] at this
          exact this.symm
        go_wp2_with (first
          | (go_at_call 13; clear c1 x0 x1 y0 y1 fx0 fx1 fy1; refine (mark_t _ _ _ _ _ hk).mono ?_; rintro e w2 ⟨rfl, h1, t1⟩; replace hx := hx.turn t1 (by omega); replace hy := hy.turn t1 (by omega); replace hown := owns_turn hown t1 (by omega); replace ht := ht.trans t1; replace hk := h1; have c1 := hk.c1; have x0 : w2.cell? ⟨w.heap.size, 0, none⟩ = some (.string ⟨#[]⟩) := hx.cell 0; have x1 : w2.cell? ⟨w.heap.size, 1, none⟩ = some (.slice none 0 0) := hx.cell 1; have y0 : w2.cell? ⟨w1.heap.size, 0, none⟩ = some (.string ⟨(pTo spbB l).toArray⟩) := hy.cell 0; have y1 : w2.cell? ⟨w1.heap.size, 1, none⟩ = some (.slice pp pl pc) := hy.cell 1; have fx0 := hx.frozen 0; have fx1 := hx.frozen 1; have fy1 := hy.frozen 1; clear h1 t1)
          | (go_at_call 16; clear c1 x0 x1 y0 y1 fx0 fx1 fy1; refine (need_t _ _ _ _ _ hk).mono ?_; rintro e w2 ⟨rfl, h1, t1⟩; replace hx := hx.turn t1 (by omega); replace hy := hy.turn t1 (by omega); replace hown := owns_turn hown t1 (by omega); replace ht := ht.trans t1; replace hk := h1; have c1 := hk.c1; have x0 : w2.cell? ⟨w.heap.size, 0, none⟩ = some (.string ⟨#[]⟩) := hx.cell 0; have x1 : w2.cell? ⟨w.heap.size, 1, none⟩ = some (.slice none 0 0) := hx.cell 1; have y0 : w2.cell? ⟨w1.heap.size, 0, none⟩ = some (.string ⟨(pTo spbB l).toArray⟩) := hy.cell 0; have y1 : w2.cell? ⟨w1.heap.size, 1, none⟩ = some (.slice pp pl pc) := hy.cell 1; have fx0 := hx.frozen 0; have fx1 := hx.frozen 1; have fy1 := hy.frozen 1; clear h1 t1))
        refine bodyPost_ret (results_cell_row rfl _ _ w.heap.size _ #[.string ⟨(pTo spbB l).toArray⟩, .slice pp pl pc] (0, 0) _ rfl ((hx.put 0 (.string ⟨(pTo spbB l).toArray⟩)).put 1 (.slice pp pl pc)) Tryz.underlying58 rfl elemSize) rfl ?_
        refine ⟨_, rfl, ?_, ?_, ?_⟩
        · rw [HP.out]
          exact owns_lower (ownsRow_setCell_below (ownsRow_setCell_below hown (show w.heap.size < _ by omega) _) (show w.heap.size < _ by omega) _) (by omega)
        · rw [HP.out]
          exact Row.other (Row.other (show Row _ B _ _ from by simpa [Tk, hT] using hk) (show B ≠ w.heap.size by omega) _) (show B ≠ w.heap.size by omega) _
        · exact (ht.via (((Turn.refl (· = w.heap.size) _).put (q := ⟨w.heap.size, 0, none⟩) rfl _).put (q := ⟨w.heap.size, 1, none⟩) rfl _) (fun k hk => .inl (by omega)))
      | true =>
        have hlt : (Lib.trimPrefix l' [32]).length < l'.length := trim_lt hp
        have hp2 := Lib.hid hp
        have hl5 : (Lib.trimPrefix l' [32]).length ≤ 140737488355328 := by omega
        have hl6 : (Lib.trimPrefix (pFrom eqB (Lib.trimPrefix l' [32])) [61, 34]).length ≤ 4194304 := by
          have a1 := trim_len (pFrom eqB (Lib.trimPrefix l' [32])) [61, 34]
          have a2 := pFrom_len eqB (Lib.trimPrefix l' [32])
          omega
        obtain ⟨⟨vt, vl, vk⟩, hV⟩ : ∃ r, r = valP (Lib.trimPrefix (pFrom eqB (Lib.trimPrefix l' [32])) [61, 34]) (true && pAny eqB (Lib.trimPrefix l' [32]) && Lib.hasPrefix (pFrom eqB (Lib.trimPrefix l' [32])) [61, 34]) := ⟨_, rfl⟩
        have HV : ∀ (w : World), Tk w B (Lib.trimPrefix (pFrom eqB (Lib.trimPrefix l' [32])) [61, 34]) (true && pAny eqB (Lib.trimPrefix l' [32]) && Lib.hasPrefix (pFrom eqB (Lib.trimPrefix l' [32])) [61, 34]) → Calls Tryz.prog 45 #[.pointer (some ⟨B, 0, none⟩)] w fun e w' => e = .returned (txt vt) ∧ Tk w' B vl vk ∧ Turn (· = B) w w' := fun w h => by
          have := value_t B _ _ w h hl6
          rw [← hV] at this
          exact this
        have hvl := valN_len ((Lib.trimPrefix (pFrom eqB (Lib.trimPrefix l' [32])) [61, 34]).length + 1) (Lib.trimPrefix (pFrom eqB (Lib.trimPrefix l' [32])) [61, 34]) [] (true && pAny eqB (Lib.trimPrefix l' [32]) && Lib.hasPrefix (pFrom eqB (Lib.trimPrefix l' [32])) [61, 34])
        rw [show valN ((Lib.trimPrefix (pFrom eqB (Lib.trimPrefix l' [32])) [61, 34]).length + 1) (Lib.trimPrefix (pFrom eqB (Lib.trimPrefix l' [32])) [61, 34]) [] (true && pAny eqB (Lib.trimPrefix l' [32]) && Lib.hasPrefix (pFrom eqB (Lib.trimPrefix l' [32])) [61, 34]) = (vt, vl, vk) from hV.symm] at hvl
        replace hV := Lib.hid hV
        go_wp2_with (first
          | (go_at_call 13; clear c1 x0 x1 y0 y1 fx0 fx1 fy1; refine (mark_t _ _ _ _ _ hk).mono ?_; rintro e w2 ⟨rfl, h1, t1⟩; replace hx := hx.turn t1 (by omega); replace hy := hy.turn t1 (by omega); replace hown := owns_turn hown t1 (by omega); replace ht := ht.trans t1; replace hk := h1; have c1 := hk.c1; have x0 : w2.cell? ⟨w.heap.size, 0, none⟩ = some (.string ⟨#[]⟩) := hx.cell 0; have x1 : w2.cell? ⟨w.heap.size, 1, none⟩ = some (.slice none 0 0) := hx.cell 1; have y0 : w2.cell? ⟨w1.heap.size, 0, none⟩ = some (.string ⟨(pTo spbB l).toArray⟩) := hy.cell 0; have y1 : w2.cell? ⟨w1.heap.size, 1, none⟩ = some (.slice pp pl pc) := hy.cell 1; have fx0 := hx.frozen 0; have fx1 := hx.frozen 1; have fy1 := hy.frozen 1; clear h1 t1)
          | (go_at_call 31; clear c1 x0 x1 y0 y1 fx0 fx1 fy1; refine (upto_eq _ _ _ _ hk (by omega)).mono ?_; rintro e w3 ⟨he, h1, t1⟩; replace he : e = .returned (.string ⟨(pTo eqB (Lib.trimPrefix l' [32])).toArray⟩) := he; subst he; replace hx := hx.turn t1 (by omega); replace hy := hy.turn t1 (by omega); replace hown := owns_turn hown t1 (by omega); replace ht := ht.trans t1; have h3s := Row.lt hy; have hnp : (Value.slice pp pl pc).ownBlock ≠ some w3.heap.size := (fun h => by have := own_lt hown h; omega); replace hx := Row.alloc hx (Obj.cells #[Value.string { data := (pTo eqB (Lib.trimPrefix l' [32])).toArray }, Value.string { data := #[] }] 73); replace hy := Row.alloc hy (Obj.cells #[Value.string { data := (pTo eqB (Lib.trimPrefix l' [32])).toArray }, Value.string { data := #[] }] 73); replace hown := hown.alloc (Obj.cells #[Value.string { data := (pTo eqB (Lib.trimPrefix l' [32])).toArray }, Value.string { data := #[] }] 73); replace ht := ht.alloc (Obj.cells #[Value.string { data := (pTo eqB (Lib.trimPrefix l' [32])).toArray }, Value.string { data := #[] }] 73); have hk : Tk (w3.alloc (Obj.cells #[Value.string { data := (pTo eqB (Lib.trimPrefix l' [32])).toArray }, Value.string { data := #[] }] 73)) B _ _ := Row.alloc h1 (Obj.cells #[Value.string { data := (pTo eqB (Lib.trimPrefix l' [32])).toArray }, Value.string { data := #[] }] 73); have c1 := hk.c1; have x0 : (w3.alloc (Obj.cells #[Value.string { data := (pTo eqB (Lib.trimPrefix l' [32])).toArray }, Value.string { data := #[] }] 73)).cell? ⟨w.heap.size, 0, none⟩ = some (.string ⟨#[]⟩) := hx.cell 0; have x1 : (w3.alloc (Obj.cells #[Value.string { data := (pTo eqB (Lib.trimPrefix l' [32])).toArray }, Value.string { data := #[] }] 73)).cell? ⟨w.heap.size, 1, none⟩ = some (.slice none 0 0) := hx.cell 1; have y0 : (w3.alloc (Obj.cells #[Value.string { data := (pTo eqB (Lib.trimPrefix l' [32])).toArray }, Value.string { data := #[] }] 73)).cell? ⟨w1.heap.size, 0, none⟩ = some (.string ⟨(pTo spbB l).toArray⟩) := hy.cell 0; have y1 : (w3.alloc (Obj.cells #[Value.string { data := (pTo eqB (Lib.trimPrefix l' [32])).toArray }, Value.string { data := #[] }] 73)).cell? ⟨w1.heap.size, 1, none⟩ = some (.slice pp pl pc) := hy.cell 1; have fx0 := hx.frozen 0; have fx1 := hx.frozen 1; have fy1 := hy.frozen 1; have hp := Row.laid w3 73 #[.string ⟨(pTo eqB (Lib.trimPrefix l' [32])).toArray⟩, .string ⟨#[]⟩]; have p1 : (w3.alloc (Obj.cells #[Value.string { data := (pTo eqB (Lib.trimPrefix l' [32])).toArray }, Value.string { data := #[] }] 73)).cell? ⟨w3.heap.size, 1, none⟩ = some (.string ⟨#[]⟩) := hp.cell 1; have fp1 := hp.frozen 1; clear h1 t1))
        go_wp2_with (first
          | (go_at_call 16; clear c1 x0 x1 y0 y1 fx0 fx1 fy1 p1 fp1; refine (need_t _ _ _ _ _ hk).mono ?_; rintro e w4 ⟨rfl, h1, t1⟩; replace hx := hx.turn t1 (by omega); replace hy := hy.turn t1 (by omega); replace hp := hp.turn t1 (by omega); replace hown := owns_turn hown t1 (by omega); replace ht := ht.trans t1; replace hk := h1; have c1 := hk.c1; have x0 : w4.cell? ⟨w.heap.size, 0, none⟩ = some (.string ⟨#[]⟩) := hx.cell 0; have x1 : w4.cell? ⟨w.heap.size, 1, none⟩ = some (.slice none 0 0) := hx.cell 1; have y0 : w4.cell? ⟨w1.heap.size, 0, none⟩ = some (.string ⟨(pTo spbB l).toArray⟩) := hy.cell 0; have y1 : w4.cell? ⟨w1.heap.size, 1, none⟩ = some (.slice pp pl pc) := hy.cell 1; have fx0 := hx.frozen 0; have fx1 := hx.frozen 1; have fy1 := hy.frozen 1; have p0 : w4.cell? ⟨w3.heap.size, 0, none⟩ = some (Value.string ⟨(pTo eqB (Lib.trimPrefix l' [32])).toArray⟩) := hp.cell 0; have p1 : w4.cell? ⟨w3.heap.size, 1, none⟩ = some (.string ⟨#[]⟩) := hp.cell 1; have fp1 := hp.frozen 1; clear h1 t1)
          | (go_at_call 45; clear c1 x0 x1 y0 y1 fx0 fx1 fy1 p1 fp1; refine (HV _ hk).mono ?_; rintro e w4 ⟨he, h1, t1⟩; replace he : e = .returned (.string ⟨vt.toArray⟩) := he; subst he; replace hx := hx.turn t1 (by omega); replace hy := hy.turn t1 (by omega); replace hp := hp.turn t1 (by omega); replace hown := owns_turn hown t1 (by omega); replace ht := ht.trans t1; replace hk := h1; have c1 := hk.c1; have x0 : w4.cell? ⟨w.heap.size, 0, none⟩ = some (.string ⟨#[]⟩) := hx.cell 0; have x1 : w4.cell? ⟨w.heap.size, 1, none⟩ = some (.slice none 0 0) := hx.cell 1; have y0 : w4.cell? ⟨w1.heap.size, 0, none⟩ = some (.string ⟨(pTo spbB l).toArray⟩) := hy.cell 0; have y1 : w4.cell? ⟨w1.heap.size, 1, none⟩ = some (.slice pp pl pc) := hy.cell 1; have fx0 := hx.frozen 0; have fx1 := hx.frozen 1; have fy1 := hy.frozen 1; have p0 : w4.cell? ⟨w3.heap.size, 0, none⟩ = some (Value.string ⟨(pTo eqB (Lib.trimPrefix l' [32])).toArray⟩) := hp.cell 0; have p1 : w4.cell? ⟨w3.heap.size, 1, none⟩ = some (.string ⟨#[]⟩) := hp.cell 1; have fp1 := hp.frozen 1; clear h1 t1)
          | (at_builtin; go_must (refine wpList_append_one (w4.setCell ⟨w3.heap.size, 1, none⟩ (.string ⟨vt.toArray⟩)) rfl (.tmp 25) (.tmp 27) 56 rfl (w1.heap.size + 1) 73 i0 (.agg #[.string ⟨#[]⟩, .string ⟨#[]⟩]) 2 32 Tryz.underlying56 hi hz0 hz1 hz2 rfl (by decide) (.slice pp pl pc) ps.length (parCells ps) [.string ⟨(pTo eqB (Lib.trimPrefix l' [32])).toArray⟩, .string ⟨vt.toArray⟩] w4.heap.size (by simp [World.setCell]) rfl rfl (owns_put_other hown (by simpa using hnp) _) rfl (by simp [Value.oneCell']) (by unfold maxLen; omega) (by omega) (by have := Row.lt hy; simp [World.setCell]; omega) ?_); intro v' w5 hown5 hturn5 hloc5; clear c1 x0 x1 y0 y1 fx0 fx1 fy1 p0 p1 fp1; have hne5 : ∀ k, (Value.slice pp pl pc).ownBlock = some k → w1.heap.size + 1 ≤ k := fun k hk => own_ge hown hk; replace hx := (Row.other hx (show w.heap.size ≠ w3.heap.size by omega) (.string ⟨vt.toArray⟩) (p := ⟨w3.heap.size, 1, none⟩)).turn hturn5 (fun h => by have := hne5 _ h; omega); replace hy := (Row.other hy (show w1.heap.size ≠ w3.heap.size by omega) (.string ⟨vt.toArray⟩) (p := ⟨w3.heap.size, 1, none⟩)).turn hturn5 (fun h => by have := hne5 _ h; omega); replace hk : Tk w5 B vl vk := Row.turn (Row.other hk (show B ≠ w3.heap.size by omega) (.string ⟨vt.toArray⟩) (p := ⟨w3.heap.size, 1, none⟩)) hturn5 (fun h => by have := hne5 _ h; omega); obtain ⟨qp, ql, qc, rfl⟩ := owns_slice hown5; have y1 : w5.cell? ⟨w1.heap.size, 1, none⟩ = some (.slice pp pl pc) := hy.cell 1; have fy1 := hy.frozen 1))
        go_roundg vl.length
        case measure => rw [HG.out]; have := hvl.1; have := trim_len (pFrom eqB (Lib.trimPrefix l' [32])) [61, 34]; have := pFrom_len eqB (Lib.trimPrefix l' [32]); omega
        case rel =>
          have hvl1 := hvl.1
          have hvl2 := trim_len (pFrom eqB (Lib.trimPrefix l' [32])) [61, 34]
          have hvl3 := pFrom_len eqB (Lib.trimPrefix l' [32])
          refine ⟨n, vl, ps ++ [((pTo eqB (Lib.trimPrefix l' [32])), vt)], vk, .slice qp ql qc, rfl, by omega, by omega, by simp; omega, ?_, ?_, ?_, ?_, ?_, ?_⟩
          · have h := hv.out
            rw [parN, hp2.out] at h
            replace h : parN n (valP (Lib.trimPrefix (pFrom eqB (Lib.trimPrefix l' [32])) [61, 34]) (true && pAny eqB (Lib.trimPrefix l' [32]) && Lib.hasPrefix (pFrom eqB (Lib.trimPrefix l' [32])) [61, 34])).2.1 (valP (Lib.trimPrefix (pFrom eqB (Lib.trimPrefix l' [32])) [61, 34]) (true && pAny eqB (Lib.trimPrefix l' [32]) && Lib.hasPrefix (pFrom eqB (Lib.trimPrefix l' [32])) [61, 34])).2.2 (ps ++ [((pTo eqB (Lib.trimPrefix l' [32])), (valP (Lib.trimPrefix (pFrom eqB (Lib.trimPrefix l' [32])) [61, 34]) (true && pAny eqB (Lib.trimPrefix l' [32]) && Lib.hasPrefix (pFrom eqB (Lib.trimPrefix l' [32])) [61, 34])).1)]) = elemR l ok := h
            rw [← hV.out] at h
            exact h
          · exact Row.other hk (show B ≠ w1.heap.size by omega) _
          · exact Row.other hx (show w.heap.size ≠ w1.heap.size by omega) _
          · exact hy.put 1 (.slice qp ql qc)
          · have h := ownsRow_setCell_below hown5 (a := ⟨w1.heap.size, 1, none⟩) (show w1.heap.size < w1.heap.size + 1 by omega) (.slice qp ql qc)
            simpa [parCells, txt] using h
          · exact ((ht.via ((Turn.refl (· = w3.heap.size) _).put (q := ⟨w3.heap.size, 1, none⟩) rfl (.string ⟨vt.toArray⟩)) (fun i hi => .inl (by omega))).via hturn5 (fun i hi => .inl (by have := hne5 i hi; omega))).via ((Turn.refl (· = w1.heap.size) _).put (q := ⟨w1.heap.size, 1, none⟩) rfl _) (fun i hi => .inl (by omega))
end Go.Proofs.YtdkfgobbpadmgaaGreatDoor
