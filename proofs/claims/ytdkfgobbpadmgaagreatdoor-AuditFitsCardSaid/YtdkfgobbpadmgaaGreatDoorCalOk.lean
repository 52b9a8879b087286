/- What cal.Parse answers is calD; what an event that is parsed holds is no greater than its text. -/
import Derived.Test.YtdkfgobbpadmgaaGreatDoorCalParse
import Derived.Test.YtdkfgobbpadmgaaGreatDoorSyslShown
import Derived.Test.YtdkfgobbpadmgaaGreatDoorRef5ParseN
set_option linter.unusedVariables false
set_option linter.unusedSimpArgs false
namespace Go.Proofs.YtdkfgobbpadmgaaGreatDoor
open Go.RowKit
theorem CPOST.none_out {l : List UInt8} {w w' : World} {e : Ending} (hc : calD l = none) (h : CPOST l w e w') : e = .returned (.tuple #[.agg #[.int .i64 0, .int .i64 0, .int .i64 0, .int .i64 0, .int .i64 0, .int .i64 0, .int .i64 0, .int .i64 0], txt [], .int .i64 3]) ∧ Below w.heap.size w w' := by
  unfold CPOST at h
  rw [hc] at h
  exact ⟨h.2, h.1⟩
theorem CPOST.some_out {l r : List UInt8} {x : D8} {w w' : World} {e : Ending} (hc : calD l = some (x, r)) (h : CPOST l w e w') : e = .returned (.tuple #[x.v, txt r, .int .i64 0]) ∧ Below w.heap.size w w' := by
  unfold CPOST at h
  rw [hc] at h
  exact ⟨h.2, h.1⟩
theorem calOk : CalOk calD :=
  ⟨fun l x r h => calD_ok l x r h,
   fun l w hl hG h => (calparse_c l w hl hG.cal).mono fun e w' hp => hp.none_out h,
   fun l w x r hl hG h => (calparse_c l w hl hG.cal).mono fun e w' hp => hp.some_out h⟩
theorem relsN_small (M : Nat) : ∀ (n : Nat) (l : List UInt8) (es es' : List PEl) (r : List UInt8), l.length ≤ M → es.length + l.length ≤ M → (∀ x ∈ es, x.1.length ≤ M ∧ x.2.length ≤ M ∧ ∀ q ∈ x.2, q.1.length ≤ M ∧ q.2.length ≤ M) → relsN n l es = some (es', r) →
    es'.length ≤ M ∧ ∀ x ∈ es', x.1.length ≤ M ∧ x.2.length ≤ M ∧ ∀ q ∈ x.2, q.1.length ≤ M ∧ q.2.length ≤ M
  | 0, _, _, _, _, _, _, _, h => by cases h
  | n + 1, l, es, es', r, hl, hn, he, h => by
    rw [relsN] at h
    have hd : (l.drop 1).length ≤ M := by rw [List.length_drop]; omega
    cases hr : relN (l.drop 1) with
    | none => rw [hr] at h; cases h
    | some q =>
      obtain ⟨x, r1⟩ := q
      rw [hr] at h
      obtain ⟨a1, a2, a3, a4⟩ := relN_small M hd hr
      rw [List.length_drop] at a2
      have hx : ∀ y ∈ es ++ [x], y.1.length ≤ M ∧ y.2.length ≤ M ∧ ∀ q ∈ y.2, q.1.length ≤ M ∧ q.2.length ≤ M := fun y hy => by
        rw [List.mem_append, List.mem_singleton] at hy
        rcases hy with hy | rfl
        · exact he y hy
        · exact ⟨a1, a3, a4⟩
      dsimp only at h
      split at h
      · exact relsN_small M n r1 _ _ _ (by omega) (by rw [List.length_append, List.length_singleton]; omega) hx h
      · cases h
        exact ⟨by rw [List.length_append, List.length_singleton]; omega, hx⟩
theorem rdataN_small (M : Nat) {l : List UInt8} {es : List PEl} {r : List UInt8} (hl : l.length ≤ M) (h : rdataN l = some (es, r)) : es.length ≤ M ∧ ∀ x ∈ es, x.1.length ≤ M ∧ x.2.length ≤ M ∧ ∀ q ∈ x.2, q.1.length ≤ M ∧ q.2.length ≤ M := by
  unfold rdataN at h
  split at h
  · cases h; exact ⟨by simp, fun x hx => by cases hx⟩
  · split at h
    · exact relsN_small M _ _ _ _ _ hl (by simpa using hl) (fun x hx => by cases hx) h
    · cases h
theorem rwordsN_left : ∀ (n : Nat) (l : List UInt8) (ws ws' : List (List UInt8)) (r : List UInt8), rwordsN n l ws = some (ws', r) → r.length ≤ l.length
  | 0, l, ws, ws', r, h => by cases h; exact Nat.le_refl _
  | n + 1, l, ws, ws', r, h => by
    rw [rwordsN] at h
    split at h
    · have := rwordsN_left n _ _ _ _ h
      have h2 := pFrom_len spB l
      rw [List.length_drop] at this
      omega
    · cases h
theorem rheadN_left {l l2 : List UInt8} {t : Bool} {a : Int} (h : rheadN calD l = some (t, a, l2)) : l2.length ≤ l.length := by
  cases hp : Lib.hasPrefix l dash8 with
  | true =>
    unfold rheadN at h
    rw [hp] at h
    cases h
    rw [List.length_drop]; omega
  | false =>
    cases hc : calD l with
    | none =>
      unfold rheadN at h
      rw [hp, hc] at h
      cases h
    | some q =>
      obtain ⟨x, r⟩ := q
      have hr := (calD_ok _ _ _ hc).2
      unfold rheadN at h
      rw [hp, hc] at h
      dsimp only at h
      rw [if_neg (by simp)] at h
      split at h
      · cases h
        rw [List.length_drop]; omega
      · cases h
/-- An event that is parsed holds no more, and nothing longer, than its text is long; its time is a number of 64 bits, and its words' number is right. -/
theorem parse_small (M : Nat) {l : List UInt8} {x : PEv} (hl : l.length ≤ M) (h : parseN calD l = some x) : (x.data.length ≤ M ∧ ∀ y ∈ x.data, y.1.length ≤ M ∧ y.2.length ≤ M ∧ ∀ q ∈ y.2, q.1.length ≤ M ∧ q.2.length ≤ M) ∧ x.g ≤ 7 ∧ x.f ≤ 23 := by
  rw [← refN_eq] at h
  unfold refN at h
  split at h
  · cases hn : numP (priS l) with
    | none => rw [hn] at h; cases h
    | some n =>
      have hn2 := (numP_some hn).2
      rw [hn] at h
      dsimp only at h
      have hp : (priL l).length ≤ l.length := Nat.le_trans (trim_len _ _) (Nat.le_trans (pFrom_len _ _) (trim_len _ _))
      cases hh : rheadN calD (priL l) with
      | none => rw [hh] at h; cases h
      | some q =>
        obtain ⟨t, a, l2⟩ := q
        have h2 := rheadN_left hh
        rw [hh, rrest_at] at h
        unfold rwds at h
        cases hw : rwordsN 4 l2 [] with
        | none => rw [hw] at h; cases h
        | some q =>
          obtain ⟨ws, l3⟩ := q
          have h3 := rwordsN_left _ _ _ _ _ hw
          rw [hw] at h
          dsimp only at h
          unfold rmid at h
          cases hd : rdataN l3 with
          | none => rw [hd] at h; cases h
          | some q =>
            obtain ⟨es, l4⟩ := q
            rw [hd] at h
            dsimp only at h
            have h4 := rdataN_small M (by omega) hd
            unfold rtail at h
            cases ht : rtextN l4 with
            | none => rw [ht] at h; cases h
            | some tx =>
              rw [ht] at h
              dsimp only at h
              split at h
              · cases h
                exact ⟨h4, by show n % 8 ≤ 7; omega, by show n / 8 ≤ 23; omega⟩
              · cases h
  · cases h
theorem EB_of {es : List VEl} {d : List PEl} (h : es.map (fun y => (y.1, y.2.2)) = d) (hs : d.length ≤ 4194304 ∧ ∀ y ∈ d, y.1.length ≤ 4194304 ∧ y.2.length ≤ 4194304 ∧ ∀ q ∈ y.2, q.1.length ≤ 4194304 ∧ q.2.length ≤ 4194304) : EB (es.map VEl.bel) := by
  subst h
  have hl : es.length ≤ 4194304 := by simpa using hs.1
  refine SmallEls.eb ⟨hl, fun x hx => ?_⟩
  have := hs.2 (x.1, x.2.2) (List.mem_map.2 ⟨x, hx, rfl⟩)
  exact this
theorem bel_map (es es' : List VEl) (h : es.map (fun y => (y.1, y.2.2)) = es'.map (fun y => (y.1, y.2.2))) : (es.map VEl.bel).map (fun x => (x.1, x.2.2)) = (es'.map VEl.bel).map (fun x => (x.1, x.2.2)) := by
  have e : ∀ l : List VEl, (l.map VEl.bel).map (fun x => (x.1, x.2.2)) = (l.map fun y => (y.1, y.2.2)).map fun y => ((⟨y.1.toArray⟩ : ByteArray), y.2.map fun p => ((⟨p.1.toArray⟩ : ByteArray), (⟨p.2.toArray⟩ : ByteArray))) := fun l => by
    simp only [List.map_map]
    congr 1
  rw [e, e, h]
end Go.Proofs.YtdkfgobbpadmgaaGreatDoor
