/- Package sysl, in plain lists: a value's text and what Parse makes of it. -/
import Derived.Test.YtdkfgobbpadmgaaDoorSyslValue
import Derived.Test.YtdkfgobbpadmgaaDoorSyslShown
set_option linter.unusedVariables false
set_option linter.unusedSimpArgs false
namespace Go.Proofs.YtdkfgobbpadmgaaDoor
open Go.RowKit
theorem val_esc : ∀ (a : List UInt8) (n : Nat) (o r : List UInt8) (ok : Bool), (escN a ++ 34 :: r).length < n → valN n (escN a ++ 34 :: r) o ok = (o ++ a, r, ok)
  | [], 0, o, r, ok, h => absurd h (by simp)
  | [], n + 1, o, r, ok, h => by simp [escN, valN]
  | c :: a, 0, o, r, ok, h => absurd h (by simp)
  | c :: a, n + 1, o, r, ok, h => by
    cases hm : isMk c with
    | true =>
      have e : escN (c :: a) = 92 :: c :: escN a := by simp [escN, hm]
      rw [e] at h ⊢
      simp only [List.cons_append, List.length_cons] at h
      rw [List.cons_append, List.cons_append, valN, if_neg (by decide), if_neg (by decide), if_pos (by simp [escd, hm])]
      have ih := val_esc a n (o ++ [c]) r ok (by omega)
      simpa using ih
    | false =>
      have e : escN (c :: a) = c :: escN a := by simp [escN, hm]
      rw [e] at h ⊢
      simp only [List.cons_append, List.length_cons] at h
      have h34 : (c == 34) = false := by
        cases q : (c == 34) with
        | false => rfl
        | true => simp [isMk, q] at hm
      have h92 : (c == 92) = false := by
        cases q : (c == 92) with
        | false => rfl
        | true => simp [isMk, q] at hm
      have h93 : (c == 93) = false := by
        cases q : (c == 93) with
        | false => rfl
        | true => simp [isMk, q] at hm
      have hes : escd c (escN a ++ 34 :: r) = false := by
        cases escN a ++ 34 :: r with
        | nil => rfl
        | cons d l => simp [escd, h92]
      rw [List.cons_append, valN, if_neg (by rw [h34]; simp), if_neg (by rw [h93]; simp), if_neg (by rw [hes]; simp)]
      have ih := val_esc a n (o ++ [c]) r ok (by omega)
      simpa using ih
theorem escN_inj {a b : List UInt8} (h : escN a = escN b) : a = b := by
  have ha := val_esc a ((escN a ++ 34 :: []).length + 1) [] [] true (by omega)
  have hb := val_esc b ((escN b ++ 34 :: []).length + 1) [] [] true (by omega)
  rw [h, hb] at ha
  simpa using (congrArg Prod.fst ha).symm
def marks (l : List UInt8) : Nat := (l.filter isMk).length
theorem marks_snoc (l : List UInt8) (k : Nat) (h : k < l.length) : marks (l.take (k + 1)) = marks (l.take k) + if isMk l[k] then 1 else 0 := by
  rw [marks, List.take_succ_eq_append_getElem h, List.filter_append, List.length_append]
  cases hq : isMk l[k] <;> simp [marks, List.filter_cons, hq]
theorem marks_le (l : List UInt8) : marks l ≤ l.length := List.length_filter_le _ _
theorem escN_marks : ∀ l : List UInt8, (escN l).length = l.length + marks l
  | [] => rfl
  | c :: l => by
    have ih := escN_marks l
    have e : escN (c :: l) = (if isMk c then [92, c] else [c]) ++ escN l := rfl
    rw [e, List.length_append, ih]
    cases hq : isMk c <;> simp [marks, List.filter_cons, hq] <;> omega
def valT (x : List UInt8) : List UInt8 := [60, 48, 62, 49, 32, 45, 32, 45, 32, 45, 32, 45, 32, 45, 32, 91, 105, 32, 110, 61, 34] ++ (x ++ [34, 93])
theorem val_elem (a : List UInt8) : elemN ([105, 32, 110, 61, 34] ++ (escN a ++ [34, 93])) = [105] ∧ elemR ([105, 32, 110, 61, 34] ++ (escN a ++ [34, 93])) true = ([([110], a)], [93], true) := by
  refine ⟨rfl, ?_⟩
  have hv : valP (escN a ++ [34, 93]) true = (a, [93], true) := by
    rw [valP]
    have := val_esc a ((escN a ++ 34 :: [93]).length + 1) [] [93] true (by omega)
    simpa using this
  have h1 : pFrom spbB ([105, 32, 110, 61, 34] ++ (escN a ++ [34, 93])) = [32, 110, 61, 34] ++ (escN a ++ [34, 93]) := rfl
  have h2 : pAny spbB ([105, 32, 110, 61, 34] ++ (escN a ++ [34, 93])) = true := rfl
  have h3 : Lib.hasPrefix ([32, 110, 61, 34] ++ (escN a ++ [34, 93])) [32] = true := rfl
  have h4 : Lib.trimPrefix ([32, 110, 61, 34] ++ (escN a ++ [34, 93])) [32] = [110, 61, 34] ++ (escN a ++ [34, 93]) := rfl
  have h5 : pTo eqB ([110, 61, 34] ++ (escN a ++ [34, 93])) = [110] := rfl
  have h6 : pFrom eqB ([110, 61, 34] ++ (escN a ++ [34, 93])) = [61, 34] ++ (escN a ++ [34, 93]) := rfl
  have h7 : pAny eqB ([110, 61, 34] ++ (escN a ++ [34, 93])) = true := rfl
  have h8 : Lib.hasPrefix ([61, 34] ++ (escN a ++ [34, 93])) eqMk = true := rfl
  have h9 : Lib.trimPrefix ([61, 34] ++ (escN a ++ [34, 93])) eqMk = escN a ++ [34, 93] := rfl
  rw [elemR, h1, h2]
  have hn : ([105, 32, 110, 61, 34] ++ (escN a ++ [34, 93])).length = (escN a).length + 5 + 1 + 1 := by simp
  rw [hn, parN, h3, h4]
  dsimp only
  rw [h5, h6, h7, h8, h9]
  simp only [Bool.and_self, if_true]
  rw [hv]
  show parN ((escN a).length + 5 + 1 + 1) [93] true [([110], a)] = _
  rw [parN]
  rfl
theorem val_data (a : List UInt8) : dataN ([91, 105, 32, 110, 61, 34] ++ (escN a ++ [34, 93])) = ([([105], [([110], a)])], [], true) := by
  obtain ⟨e1, e2⟩ := val_elem a
  have h0 : Lib.hasPrefix ([91, 105, 32, 110, 61, 34] ++ (escN a ++ [34, 93])) [45] = false := rfl
  have h1 : Lib.hasPrefix ([91, 105, 32, 110, 61, 34] ++ (escN a ++ [34, 93])) open8 = true := rfl
  have h2 : Lib.trimPrefix ([91, 105, 32, 110, 61, 34] ++ (escN a ++ [34, 93])) open8 = [105, 32, 110, 61, 34] ++ (escN a ++ [34, 93]) := rfl
  rw [dataN, h0, if_neg (by simp), elsN, h1, h2, e1, e2]
  simp only [Bool.or_true, Bool.and_self, if_true]
  show elsN _ false (Lib.trimPrefix [93] [93]) (Lib.hasPrefix [93] [93]) [([105], [([110], a)])] = _
  have h3 : Lib.trimPrefix [93] [93] = ([] : List UInt8) := rfl
  have h4 : Lib.hasPrefix [93] [93] = true := rfl
  rw [h3, h4]
  have hn : ([91, 105, 32, 110, 61, 34] ++ (escN a ++ [34, 93])).length + 1 = ((escN a).length + 8) + 1 := by simp
  rw [hn, elsN]
  rfl
def valE (a : List UInt8) : PEv := ⟨0, 0, false, 0, [], [], [], [], [([105], [([110], a)])], []⟩
theorem val_parse (cal : List UInt8 → Option (D8 × List UInt8)) (a : List UInt8) : parseN cal (valT (escN a)) = if rightP (valE a) = 0 then some (valE a) else none := by
  have h1 : priK (valT (escN a)) = true := rfl
  have h0 : priS (valT (escN a)) = [48] := rfl
  have h2 : priNum (priS (valT (escN a))) = some 0 := by rw [h0]; kernel_rfl
  have h3 : headN cal (priL (valT (escN a))) = some (false, 0, [45, 32, 45, 32, 45, 32, 45, 32, 91, 105, 32, 110, 61, 34] ++ (escN a ++ [34, 93]), true) := rfl
  have h4 : wordsN 4 ([45, 32, 45, 32, 45, 32, 45, 32, 91, 105, 32, 110, 61, 34] ++ (escN a ++ [34, 93])) true [] = some ([[], [], [], []], [91, 105, 32, 110, 61, 34] ++ (escN a ++ [34, 93])) := rfl
  rw [parse_at h1 h2, h3, restN]
  simp only [h4, val_data a]
  have h5 : textN [] true = some ([], true) := rfl
  simp only [h5]
  by_cases hr : rightP (valE a) = 0
  · rw [if_pos hr, if_pos ⟨trivial, hr⟩]
    rfl
  · rw [if_neg hr, if_neg (fun h => hr h.2)]
theorem val_els (a : List UInt8) : elsOk [] ((valE a).data.map fun y => belOf y (.slice none 0 0)) = Lib.validD a := by
  have h : ((valE a).data.map fun y => belOf y (.slice none 0 0)) = [belOf ([105], [([110], a)]) (.slice none 0 0)] := rfl
  have hb : (belOf ([105], [([110], a)]) (.slice none 0 0)).2.2.any parBad = !Lib.validD a := by
    show (parBad (⟨#[110]⟩, ⟨a.toArray⟩) || false) = _
    rw [Bool.or_false, parBad]
    have h1 : nameB (⟨#[110]⟩ : ByteArray).data.toList = true := by kernel_rfl
    rw [h1]
    rfl
  have hn : nameB (belOf ([105], [([110], a)]) (.slice none 0 0)).1.data.toList = true := by
    show nameB [105] = true
    kernel_rfl
  rw [h, elsOk, hb, hn, elsOk]
  simp
theorem val_right (a : List UInt8) : rightP (valE a) = 0 ↔ Lib.validD a = true := by
  constructor
  · intro h
    cases hv : Lib.validD a with
    | true => rfl
    | false =>
      have he := (val_els a).trans hv
      rw [rightP, rightE, he] at h
      have h1 : argB ((valE a).g : Int) ((valE a).f : Int) = false := rfl
      have h2 : momB (valE a).t (valE a).a = true := rfl
      rw [h1, h2] at h
      simp [rightN] at h
  · intro h
    refine rightP_plain _ rfl rfl rfl (by kernel_rfl) ((val_els a).trans h) (by kernel_rfl) (by simp [valE]) ?_
    rfl
end Go.Proofs.YtdkfgobbpadmgaaDoor
