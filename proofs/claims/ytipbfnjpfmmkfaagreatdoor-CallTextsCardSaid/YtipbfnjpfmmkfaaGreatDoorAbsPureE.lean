/-
  PLAIN WORDS: what is reckoned with so many rounds is what is reckoned. No program, no memory. Conditions: none.
-/
import Derived.Test.YtipbfnjpfmmkfaaGreatDoorAbsPureS
set_option linter.unusedVariables false
namespace W
variable {α β σ ρ τ : Type}
/-- What the first one answers the second one answers. -/
def Le (x y : Option α) : Prop := ∀ r, x = some r → y = some r
theorem Le.refl (x : Option α) : Le x x := fun _ h => h
theorem Le.bind {x y : Option α} {k k' : α → Option β} (h : Le x y) (hk : ∀ v, Le (k v) (k' v)) : Le (x.bind k) (y.bind k') := fun r hr => by
  cases x with
  | none => cases hr
  | some v => rw [h v rfl]; exact hk v r hr
theorem Le.bif (c : Bool) {x y x' y' : Option α} (h : Le x x') (h' : Le y y') : Le (bif c then x else y) (bif c then x' else y') := by
  cases c
  · exact h'
  · exact h
theorem Le.sum {f f' : α → Option τ} {g g' : β → Option τ} (h : ∀ a, Le (f a) (f' a)) (h' : ∀ b, Le (g b) (g' b)) : ∀ v, Le (Sum.elim f g v) (Sum.elim f' g' v)
  | .inl a => h a
  | .inr b => h' b
theorem iterN_le {f g : σ → Option (σ ⊕ ρ)} (h : ∀ s, Le (f s) (g s)) : ∀ (n : Nat) (s : σ) (q : ρ), iterN f n s = some q → iterN g n s = some q
  | 0, s, q, hq => by cases hq
  | n + 1, s, q, hq => by
    simp only [iterN] at hq ⊢
    cases hf : f s with
    | none => rw [hf] at hq; cases hq
    | some t =>
      rw [hf] at hq
      rw [h s t hf]
      cases t with
      | inl s' => exact iterN_le h n s' q hq
      | inr q' => exact hq
theorem Le.iter {f g : σ → Option (σ ⊕ ρ)} (h : ∀ s, Le (f s) (g s)) (n : Nat) (s : σ) : Le (iterN f n s) (W.iter g s) := fun q hq => iter_of (iterN_le h n s q hq)
end W
