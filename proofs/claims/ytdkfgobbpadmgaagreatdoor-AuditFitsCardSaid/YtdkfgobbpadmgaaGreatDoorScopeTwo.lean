/- Of no program: a scope with two labels, each jumped to forward alone. -/
import Derived.ScopeJumps
set_option linter.unusedVariables false
set_option linter.unusedSimpArgs false
namespace Go.Proofs.YtdkfgobbpadmgaaGreatDoor
@[irreducible] def Goes (J0 J1 : Act → World → Prop) (l : Nat) (a : Act) (w : World) : Prop := (l = 0 ∧ J0 a w) ∨ (l = 1 ∧ J1 a w)
theorem Goes.zero {J0 J1 : Act → World → Prop} {a : Act} {w : World} (h : J0 a w) : Goes J0 J1 0 a w := by unfold Goes; exact .inl ⟨rfl, h⟩
theorem Goes.one {J0 J1 : Act → World → Prop} {a : Act} {w : World} (h : J1 a w) : Goes J0 J1 1 a w := by unfold Goes; exact .inr ⟨rfl, h⟩
def Exit.two (J0 J1 : Act → World → Prop) (Q : Exit → Act → World → Prop) : Exit → Act → World → Prop
  | .goto l, a, w => Goes J0 J1 l a w
  | e, a, w => Q e a w
theorem wp_scope_two {P : Program} {a : Act} {w : World} {Q : Exit → Act → World → Prop} {c r0 r1 : Code} (J0 J1 : Act → World → Prop) (hf0 : findLabel c 0 = some r0) (hf1 : findLabel c 1 = some r1)
    (first : c.wp P (Exit.two J0 J1 Q) a w) (p0 : ∀ a w, J0 a w → r0.wp P (Exit.noGoto Q) a w) (p1 : ∀ a w, J1 a w → r1.wp P (Exit.noGoto Q) a w) : (Code.scope c).wp P Q a w := by
  intro b k cs
  have hg0 : gotoIn 0 (.inScope c :: k) = some (.code r0 :: .inScope c :: k) := by simp [gotoIn, hf0]
  have hg1 : gotoIn 1 (.inScope c :: k) = some (.code r1 :: .inScope c :: k) := by simp [gotoIn, hf1]
  have key : ∀ (r : Code) (J : Act → World → Prop), (∀ a w, J a w → r.wp P (Exit.noGoto Q) a w) → ∀ a w, J a w → ∃ e a' w', Q e a' w' ∧ Arrives P (lone (b.at a (.code r :: .inScope c :: k)) cs w) b k cs e a' w' := by
    intro r J pass a w hJ
    obtain ⟨e, a₁, w₁, hq, harr⟩ := pass a w hJ b (.inScope c :: k) cs
    cases e with
    | normal => exact ⟨.normal, a₁, w₁, hq, Steps.trans harr (.one step_inScope)⟩
    | exit id => exact ⟨.exit id, a₁, w₁, hq, fun k' hk => harr k' (by simp [exitTo, hk])⟩
    | goto l => exact hq.elim
    | ret => exact ⟨_, a₁, w₁, hq, harr⟩
    | panic ch => exact ⟨_, a₁, w₁, hq, harr⟩
    | outgrown => exact ⟨_, a₁, w₁, hq, harr⟩
  obtain ⟨e, a₁, w₁, hq, harr⟩ := first b (.inScope c :: k) cs
  cases e with
  | normal => exact ⟨.normal, a₁, w₁, hq, .head step_scope (Steps.trans harr (.one step_inScope))⟩
  | exit id => exact ⟨.exit id, a₁, w₁, hq, fun k' hk => .head step_scope (harr k' (by simp [exitTo, hk]))⟩
  | goto l =>
    replace hq : Goes J0 J1 l a₁ w₁ := hq
    unfold Goes at hq
    rcases hq with ⟨rfl, hJ⟩ | ⟨rfl, hJ⟩
    · obtain ⟨e₂, a₂, w₂, hq₂, harr₂⟩ := key r0 J0 p0 a₁ w₁ hJ
      exact ⟨e₂, a₂, w₂, hq₂, .of_steps (.head step_scope (harr _ hg0)) harr₂⟩
    · obtain ⟨e₂, a₂, w₂, hq₂, harr₂⟩ := key r1 J1 p1 a₁ w₁ hJ
      exact ⟨e₂, a₂, w₂, hq₂, .of_steps (.head step_scope (harr _ hg1)) harr₂⟩
  | ret => exact ⟨_, a₁, w₁, hq, .of_steps (.one step_scope) harr⟩
  | panic ch => exact ⟨_, a₁, w₁, hq, .of_steps (.one step_scope) harr⟩
  | outgrown => exact ⟨_, a₁, w₁, hq, .of_steps (.one step_scope) harr⟩
end Go.Proofs.YtdkfgobbpadmgaaGreatDoor
