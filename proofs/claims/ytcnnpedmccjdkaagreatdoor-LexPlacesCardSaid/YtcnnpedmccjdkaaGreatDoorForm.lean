/- What Lex gives, in one form. -/
import Derived.Test.YtcnnpedmccjdkaaGreatDoorLexE
set_option linter.unusedSimpArgs false
set_option linter.unusedVariables false
namespace Go.Proofs.YtcnnpedmccjdkaaGreatDoor
open Go.RowKit
/-- What Lex gives, in one form. -/
def LexForm (l : B) (w : World) (e : Ending) (w' : World) : Prop :=
  ∃ v p q, e = .returned (.tuple #[v, .int .i64 p, .int .i64 q]) ∧ Ext w w' ∧ ((∃ ts, lexS l = .ok ts ∧ q = 0 ∧ w'.ownsRow w.heap.size 38 8 v ts.length (toksCells ts)) ∨ ((∃ p, lexS l = .error p) ∧ q = 160))
theorem lexForm {l : B} {w w' : World} {e : Ending} (h : LexPost l w e w') : LexForm l w e w' := by
  unfold LexPost at h
  cases hl : lexS l with
  | ok ts =>
    rw [hl] at h
    obtain ⟨v, rfl, ho, he⟩ := h
    exact ⟨v, 0, 0, rfl, he, .inl ⟨ts, hl, rfl, ho⟩⟩
  | error p =>
    rw [hl] at h
    obtain ⟨rfl, he⟩ := h
    exact ⟨_, _, _, rfl, he, .inr ⟨⟨p, hl⟩, rfl⟩⟩
end Go.Proofs.YtcnnpedmccjdkaaGreatDoor
