/- Of no program: a look-up of a bool in a set that the call keeps as a map[string]bool. -/
import Derived.Maps.OwnSet
import Derived.StringKeys
import Derived.Maps.OwnOps
import Derived.Maps.Views
import Derived.WalkKit
set_option linter.unusedVariables false
set_option linter.unusedSimpArgs false
namespace Go.Proofs.YtdkfgobbpadmgaaGreatDoor
open Go.RowKit
open Go.Maps (Keyed setOf has IsMap)
open Go.WideMaps (keyOf_string_mk)
theorem isMap_setOf {H : Type} (u : DataW H) : ∀ (acc : List Lit), IsMap (setOf u acc) := by
  intro acc
  have : ∀ (l : List Lit) (m : DataW H), IsMap m → IsMap (l.foldl (fun m x => m.put x u) m) := by
    intro l
    induction l with
    | nil => intro m h; exact h
    | cons x r ih => intro m h; exact ih _ (h.put x u)
  exact this acc _ Go.Maps.isMap_empty
theorem atKey_fold {H : Type} (u z : DataW H) (k : Lit) : ∀ (acc : List Lit) (m : DataW H), IsMap m → (∀ x ∈ acc, WideAt.IsKeyLit x) → (acc.foldl (fun m x => m.put x u) m).atKey k z = if acc.any (fun x => x.sameKey k) then u else m.atKey k z
  | [], m, _, _ => by simp
  | x :: r, m, hm, h => by
    rw [List.foldl_cons, atKey_fold u z k r (m.put x u) (hm.put x u) (fun y hy => h y (by simp [hy])), List.any_cons]
    by_cases e : k = x
    · subst e
      rw [Go.Maps.atKey_put_same hm (h k (by simp)), WideAt.sameKey_self (h k (by simp))]
      simp
    · rw [Go.Maps.atKey_put_other e, Go.Maps.sameKey_ne (fun e' => e e'.symm)]
      simp
theorem atKey_setOf {H : Type} (u z : DataW H) (k : Lit) (acc : List Lit) (h : ∀ x ∈ acc, WideAt.IsKeyLit x) : (setOf u acc).atKey k z = if acc.any (fun x => x.sameKey k) then u else z := by
  rw [setOf, atKey_fold u z k acc _ Go.Maps.isMap_empty h]
  rfl
/-- the names that have been met, as keys -/
def keysOf (l : List (List UInt8)) : List Lit := l.map Lit.string
theorem keysOf_any (l : List (List UInt8)) (s : List UInt8) : (keysOf l).any (fun x => x.sameKey (.string s)) = l.any (fun x => x == s) := by
  rw [keysOf, List.any_map]
  rfl
abbrev setB (l : List (List UInt8)) : DataW Unit := setOf (.lit (.bool true)) (keysOf l)
theorem setB_snoc (l : List (List UInt8)) (s : List UInt8) : (setB l).put (.string s) (.lit (.bool true)) = setB (l ++ [s]) := by
  rw [setB, setB, keysOf, keysOf, List.map_append]
  exact (Go.Maps.setOf_snoc _ _ _).symm
theorem wpList_lookup_setB {P : Program} (w : World) {ops : Array Oper} {rest : List Oper} {o : Oper} {a : Act} {Q : Exit → Act → World → Prop}
    (hwt : Region.wanted o (yielded ops a.tmps) = true) (m x : Operand) (t : TypeId) (hop : o.op = Op.lookup t m x false)
    (k e : TypeId) (hk : P.underlying k = some .string) (ht : P.underlying t = some (.map k e)) (he : P.underlying e = some .bool) (hz : (zeroValue e).run P w = .ok (.bool false) w) (b n : Nat) (l : List (List UInt8))
    (hm : a.eval m = .map (some b)) (hown : w.ownsMap P k (plainElem P e) b n (setB l)) (s : ByteArray) (hx : a.eval x = .string s) (hs : s.size ≤ maxLen) (c : Bool) (hc : (l.any fun x => x == s.data.toList) = c)
    (hK : wpList P ops Q rest (a.put o.dst (.bool c)) w) :
    wpList P ops Q (o :: rest) a w := by
  subst hc
  refine wpList_step fun K' hK' => ?_
  rw [if_pos hwt]
  have hkey : keyOf P k (.string s) = some (.string s.data.toList) := keyOf_string_mk hk hs
  obtain ⟨v, ps, hrun, hv⟩ := hown.lookup (Go.Maps.string_keyed hk) ht hz (plainElem_bool he false) hkey
  have hlit : ∀ y ∈ keysOf l, WideAt.IsKeyLit y := by
    intro y hy
    obtain ⟨z, _, rfl⟩ := List.mem_map.1 hy
    exact trivial
  rw [atKey_setOf _ _ _ _ hlit, keysOf_any] at hv
  have hv2 : v = .bool (l.any fun x => x == s.data.toList) := by
    generalize (l.any fun x => x == s.data.toList) = q at hv ⊢
    unfold plainElem at hv
    rw [he] at hv
    cases v <;> simp at hv
    obtain ⟨h1, _⟩ := hv
    cases q <;> simp at h1 <;> rw [h1]
  subst hv2
  unfold Oper.wp
  simp [execOp, hop, hm, hx, hrun, Result.andThen]
  exact hK' _ _ hK
end Go.Proofs.YtdkfgobbpadmgaaGreatDoor
