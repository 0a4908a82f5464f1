/- How many tokens a text has, and where they stand. -/
import Derived.Test.YtcnnpedmccjdkaaGreatDoorLawD
set_option linter.unusedSimpArgs false
set_option linter.unusedVariables false
namespace Go.Proofs.YtcnnpedmccjdkaaGreatDoor
open Go.RowKit
theorem lexGo_count2 : ∀ (f : Nat) (l : B) (a : Nat) (ts : List Tok), lexGo f l a = .ok ts → ts.length ≤ l.length
  | 0, l, a, ts, h => by cases h
  | f + 1, [], a, ts, h => by cases h; simp
  | f + 1, c :: t, a, ts, h => by
    by_cases hc : c = 32
    · subst hc
      have := lexGo_count2 f t (a + 1) ts h
      simp; omega
    · change (if c = 32 then lexGo f t (a + 1) else (match lexTok (c :: t) with | none => .error a | some (x, n) => pre [{ x with at_ := a }] (lexGo f ((c :: t).drop n) (a + n)))) = _ at h
      rw [if_neg hc] at h
      cases hx : lexTok (c :: t) with
      | none => rw [hx] at h; cases h
      | some xn =>
        obtain ⟨x, n⟩ := xn
        have hn := lexTok_len hx
        rw [hx] at h
        change pre _ (lexGo f ((c :: t).drop n) (a + n)) = _ at h
        cases hr : lexGo f ((c :: t).drop n) (a + n) with
        | error e => rw [hr] at h; cases h
        | ok y =>
          rw [hr] at h; cases h
          have := lexGo_count2 f _ _ y hr
          rw [List.length_drop] at this
          simp only [List.length_append, List.length_cons, List.length_nil] at hn this ⊢; omega
theorem lexS_count2 {l : B} {ts : List Tok} (h : lexS l = .ok ts) : ts.length ≤ l.length ∧ l.length ≤ 2000 := by
  unfold lexS at h
  split at h
  · cases h
  · exact ⟨lexGo_count2 _ _ _ _ h, by omega⟩
theorem lexGo_at2 : ∀ (f : Nat) (l : B) (a : Nat) (ts : List Tok), lexGo f l a = .ok ts → ∀ t ∈ ts, (a : Int) ≤ t.at_ ∧ t.at_ < (a + l.length : Nat)
  | 0, l, a, ts, h => by cases h
  | f + 1, [], a, ts, h => by cases h; simp
  | f + 1, c :: t, a, ts, h => by
    by_cases hc : c = 32
    · subst hc
      intro x hx
      have := lexGo_at2 f t (a + 1) ts h x hx
      simp only [List.length_cons]; omega
    · change (if c = 32 then lexGo f t (a + 1) else (match lexTok (c :: t) with | none => .error a | some (x, n) => pre [{ x with at_ := a }] (lexGo f ((c :: t).drop n) (a + n)))) = _ at h
      rw [if_neg hc] at h
      cases hx : lexTok (c :: t) with
      | none => rw [hx] at h; cases h
      | some xn =>
        obtain ⟨x, n⟩ := xn
        have hn := lexTok_len hx
        rw [hx] at h
        change pre _ (lexGo f ((c :: t).drop n) (a + n)) = _ at h
        cases hr : lexGo f ((c :: t).drop n) (a + n) with
        | error e => rw [hr] at h; cases h
        | ok y =>
          rw [hr] at h; cases h
          intro z hz
          simp only [List.length_cons] at hn ⊢
          rcases List.mem_append.1 hz with hz | hz
          · rw [List.mem_singleton.1 hz]; simp only []; omega
          · have := lexGo_at2 f _ _ y hr z hz
            rw [List.length_drop] at this
            simp only [List.length_cons] at this
            omega
theorem lexS_at2 {l : B} {ts : List Tok} (h : lexS l = .ok ts) : ∀ t ∈ ts, 0 ≤ t.at_ ∧ t.at_ < (l.length : Int) := by
  unfold lexS at h
  split at h
  · cases h
  · intro t ht
    have := lexGo_at2 _ _ _ _ h t ht
    omega
end Go.Proofs.YtcnnpedmccjdkaaGreatDoor
