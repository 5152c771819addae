/- A scope whose labels are jumped to, so many times at most. Conditions: none. -/
import Derived.ScopeJumps
import Derived.WalkMore
import Derived.Test.YthcjnkakfpmpbaaDoorR2
namespace Go.Proofs.YthcjnkakfpmpbaaDoor
open Go.RowKit

/-- Q, and at a jump: the rest behind the label, n jumps more at most -/
def jumpQ (P : Program) (c : Code) : Nat → (Exit → Act → World → Prop) → Exit → Act → World → Prop
  | 0, Q => fun e a w => match e with | .goto _ => False | e => Q e a w
  | n + 1, Q => fun e a w => match e with | .goto l => ∃ rest, findLabel c l = some rest ∧ rest.wp P (jumpQ P c n Q) a w | e => Q e a w
def restOf (c : Code) (l : Nat) : Code := match findLabel c l with | some r => r | none => .skip
theorem jump_to {P : Program} {c : Code} {n l : Nat} {Q : Exit → Act → World → Prop} {a : Act} {w : World} (hl : (findLabel c l).isSome = true) (h : (restOf c l).wp P (jumpQ P c n Q) a w) : jumpQ P c (n + 1) Q (.goto l) a w := by
  obtain ⟨r, hr⟩ := Option.isSome_iff_exists.1 hl
  refine ⟨r, hr, ?_⟩
  unfold restOf at h
  rw [hr] at h
  exact h
theorem jumpQ_ret {P : Program} {c : Code} {Q : Exit → Act → World → Prop} {a : Act} {w : World} : ∀ n, jumpQ P c n Q .ret a w = Q .ret a w
  | 0 => rfl
  | _ + 1 => rfl
theorem jumpQ_normal {P : Program} {c : Code} {Q : Exit → Act → World → Prop} {a : Act} {w : World} : ∀ n, jumpQ P c n Q .normal a w = Q .normal a w
  | 0 => rfl
  | _ + 1 => rfl
theorem wp_scope_n {P : Program} {c c' : Code} {Q : Exit → Act → World → Prop} {a : Act} {w : World} (n : Nat) (hc : c = c') (h : c.wp P (jumpQ P c' n Q) a w) : (Code.scope c).wp P Q a w := by
  subst hc
  intro b k cs
  have key : ∀ n (c0 : Code) a w, c0.wp P (jumpQ P c n Q) a w → ∃ e a' w', Q e a' w' ∧ Arrives P (lone (b.at a (.code c0 :: .inScope c :: k)) cs w) b k cs e a' w' := by
    intro n
    induction n with
    | zero =>
      intro c0 a w h
      obtain ⟨e, a₁, w₁, hq, harr⟩ := h b (.inScope c :: k) cs
      cases e with
      | normal => exact ⟨.normal, a₁, w₁, hq, Steps.trans harr (.one step_inScope)⟩
      | exit id => exact ⟨.exit id, a₁, w₁, hq, fun k' hk => harr k' (by simp [exitTo, hk])⟩
      | goto l' => exact hq.elim
      | ret => exact ⟨_, a₁, w₁, hq, harr⟩
      | panic ch => exact ⟨_, a₁, w₁, hq, harr⟩
      | outgrown => exact ⟨_, a₁, w₁, hq, harr⟩
    | succ n ih =>
      intro c0 a w h
      obtain ⟨e, a₁, w₁, hq, harr⟩ := h b (.inScope c :: k) cs
      cases e with
      | normal => exact ⟨.normal, a₁, w₁, hq, Steps.trans harr (.one step_inScope)⟩
      | exit id => exact ⟨.exit id, a₁, w₁, hq, fun k' hk => harr k' (by simp [exitTo, hk])⟩
      | goto l' =>
        obtain ⟨rest, hf, hr⟩ := hq
        obtain ⟨e₂, a₂, w₂, hq₂, harr₂⟩ := ih rest a₁ w₁ hr
        exact ⟨e₂, a₂, w₂, hq₂, .of_steps (harr _ (by simp [gotoIn, hf])) harr₂⟩
      | ret => exact ⟨_, a₁, w₁, hq, harr⟩
      | panic ch => exact ⟨_, a₁, w₁, hq, harr⟩
      | outgrown => exact ⟨_, a₁, w₁, hq, harr⟩
  obtain ⟨e, a₁, w₁, hq, harr⟩ := key n c a w h
  exact ⟨e, a₁, w₁, hq, .of_steps (.one step_scope) harr⟩
end Go.Proofs.YthcjnkakfpmpbaaDoor
