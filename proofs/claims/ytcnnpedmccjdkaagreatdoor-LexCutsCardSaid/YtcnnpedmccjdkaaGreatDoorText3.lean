/- Values: what is printed is read, and nothing else. No program in sight. -/
import Derived.Test.YtcnnpedmccjdkaaGreatDoorText2
set_option linter.unusedSimpArgs false
set_option linter.unusedVariables false
namespace Go.Proofs.YtcnnpedmccjdkaaGreatDoor
def vwf (v : Val) : Prop := -9223372036854775808 ≤ v.n ∧ v.n ≤ 9223372036854775807 ∧ v.f < 18446744073709551616
theorem natOf_dot (l : B) : natOf? (l ++ [46]) = none := by
  have hd : digitsVal 0 (l ++ [46]) = none := by
    rw [digitsVal_snoc]; cases digitsVal 0 l <;> rfl
  unfold natOf?
  split
  · rfl
  · rename_i h; have := congrArg List.getLast? h; simp at this
  · rfl
  · exact hd
theorem intOf_dot (l : B) : intOf? (l ++ [46]) = none := by
  unfold intOf?
  split
  · rename_i t h
    cases l with
    | nil => injection h with h _; exact absurd h (by decide)
    | cons x l => injection h with _ h; rw [← h, show l.append [46] = l ++ [46] from rfl, natOf_dot]
  · rw [natOf_dot]
theorem intOf_last {l : B} {n : Int} (h : intOf? l = some n) : l.getLast? ≠ some 46 := fun e => by
  have hne : l ≠ [] := by intro e2; rw [e2] at e; cases e
  rw [List.getLast?_eq_some_getLast hne] at e
  have := List.dropLast_concat_getLast hne
  rw [Option.some.inj e] at this
  rw [← this, intOf_dot] at h; cases h
theorem floatOf_int {l : B} {n : Int} (h : intOf? l = some n) : floatOf? l = none := by
  unfold floatOf?
  rw [if_neg (by intro e; rw [e] at h; cases h), if_neg (by intro e; rw [e] at h; cases h), if_neg (by intro e; rw [e] at h; cases h), if_neg (by intro e; rw [e] at h; cases h),
    if_neg (intOf_last h)]
  split
  · rename_i t; cases h
  · rfl
theorem hexS_all (l : B) : ∀ c ∈ hexS l, c ≠ 46 := by
  induction l with
  | nil => intro c h; cases h
  | cons x t ih =>
    intro c h
    have hx := UInt8.toNat_lt x
    have key : ∀ d, d < 16 → hexd d ≠ 46 := fun d hd => by
      rcases hexd_ne d hd with h | h
      · exact h.1
      · rw [h]; decide
    simp only [hexS, List.mem_cons] at h
    rcases h with rfl | rfl | h
    · exact key _ (by omega)
    · exact key _ (Nat.mod_lt _ (by omega))
    · exact ih c h
theorem hexS_last (l : B) : (120 :: hexS l).getLast? ≠ some 46 := by
  intro e
  have hm := List.mem_of_getLast? e
  rcases List.mem_cons.1 hm with h | h
  · exact absurd h (by decide)
  · exact hexS_all l _ h rfl
theorem intOf_x (t : B) : intOf? (120 :: t) = none := by
  unfold intOf?
  split
  · rename_i h; injection h with h _; exact absurd h (by decide)
  · rw [natOf_cons (by decide)]; rfl
theorem floatOf_x (s : B) : floatOf? (120 :: hexS s) = none := by
  unfold floatOf?
  have h0 : ∀ (c : UInt8) (t : B), c ≠ 120 → 120 :: hexS s ≠ c :: t := fun c t h e => by injection e with e _; exact h e.symm
  rw [if_neg (h0 _ _ (by decide)), if_neg (h0 _ _ (by decide)), if_neg (h0 _ _ (by decide)), if_neg (h0 _ _ (by decide)), if_neg (hexS_last s)]
  split
  · rename_i h; injection h with h _; exact absurd h (by decide)
  · rfl
theorem vnorm_right {v : Val} (h : vright v = true) : vnorm v = v := by unfold vnorm; rw [h]; rfl
theorem vright_cases {v : Val} (h : vright v = true) : (∃ n, v = ⟨1, n, [], 0⟩) ∨ (v = ⟨2, 0, [], 0⟩ ∨ v = ⟨2, 1, [], 0⟩) ∨ (∃ s, v = ⟨3, 0, s, 0⟩ ∧ s.length ≤ 64) ∨ (∃ f, v = ⟨4, 0, [], f⟩ ∧ fcanon f = f) ∨ v = vzero := by
  obtain ⟨k, n, s, f⟩ := v
  unfold vright at h
  dsimp only at h
  split at h
  · rename_i hk; simp only [Bool.and_eq_true, decide_eq_true_eq] at h; obtain ⟨rfl, rfl⟩ := h; subst hk; exact .inl ⟨n, rfl⟩
  split at h
  · rename_i hk; simp only [Bool.and_eq_true, Bool.or_eq_true, decide_eq_true_eq] at h; obtain ⟨⟨rfl, rfl⟩, rfl | rfl⟩ := h <;> subst hk
    · exact .inr (.inl (.inl rfl))
    · exact .inr (.inl (.inr rfl))
  split at h
  · rename_i hk; simp only [Bool.and_eq_true, decide_eq_true_eq] at h; obtain ⟨⟨rfl, rfl⟩, hs⟩ := h; subst hk; exact .inr (.inr (.inl ⟨s, rfl, hs⟩))
  split at h
  · rename_i hk; simp only [Bool.and_eq_true, decide_eq_true_eq] at h; obtain ⟨⟨rfl, rfl⟩, hf⟩ := h; subst hk; exact .inr (.inr (.inr (.inl ⟨f, rfl, hf⟩)))
  · exact .inr (.inr (.inr (.inr (of_decide_eq_true h))))
/-- What a value's text is read as. -/
theorem vparse_vprint {v : Val} (h : vright v = true) (hw : vwf v) : vparse (vprint v) = some v := by
  unfold vprint
  rw [vnorm_right h]
  rcases vright_cases h with ⟨n, rfl⟩ | (rfl | rfl) | ⟨s, rfl, hs⟩ | ⟨f, rfl, hf⟩ | rfl
  · have hi := intOf_itoa hw.1 hw.2.1
    dsimp only at hi ⊢
    rw [if_pos rfl]
    unfold vparse
    rw [if_neg (by intro e; rw [e] at hi; cases hi), if_neg (by intro e; rw [e] at hi; cases hi), if_neg (by intro e; rw [e] at hi; cases hi), floatOf_int hi]
    simp only []
    rw [hi]
  · rfl
  · rfl
  · dsimp only
    rw [if_neg (by decide), if_neg (by decide), if_pos rfl]
    unfold vparse
    have h0 : ∀ (c : UInt8) (t : B), c ≠ 120 → 120 :: hexS s ≠ c :: t := fun c t h e => by injection e with e _; exact h e.symm
    rw [if_neg (h0 _ _ (by decide)), if_neg (h0 _ _ (by decide)), if_neg (h0 _ _ (by decide)), floatOf_x, intOf_x]
    simp only []
    rw [unhexS_hexS]
    simp only []
    rw [if_pos hs]
  · have hf2 := floatOf_fprint hw.2.2 hf
    dsimp only at hf2 ⊢
    rw [if_neg (by decide), if_neg (by decide), if_neg (by decide), if_pos rfl]
    unfold vparse
    rw [if_neg (by intro e; rw [e] at hf2; cases hf2), if_neg (by intro e; rw [e] at hf2; cases hf2), if_neg (by intro e; rw [e] at hf2; cases hf2), hf2]
  · rfl
theorem vprint_vparse {l : B} {v : Val} (h : vparse l = some v) : vright v = true ∧ vwf v ∧ vprint v = l := by
  unfold vparse at h
  split at h
  · rename_i h1; have e := Option.some.inj h; subst e; subst h1; exact ⟨rfl, ⟨by decide, by decide, by decide⟩, rfl⟩
  split at h
  · rename_i h1; have e := Option.some.inj h; subst e; subst h1; exact ⟨rfl, ⟨by decide, by decide, by decide⟩, rfl⟩
  split at h
  · rename_i h1; have e := Option.some.inj h; subst e; subst h1; exact ⟨rfl, ⟨by decide, by decide, by decide⟩, rfl⟩
  split at h
  · rename_i u hu
    have e := Option.some.inj h; subst e
    obtain ⟨h1, h2, h3⟩ := fprint_floatOf hu
    have hr : vright ⟨4, 0, [], u⟩ = true := by unfold vright; simp [h2]
    refine ⟨hr, ⟨by dsimp only; omega, by dsimp only; omega, h1⟩, ?_⟩
    unfold vprint; rw [vnorm_right hr]; exact h3
  split at h
  · rename_i n hn
    have e := Option.some.inj h; subst e
    obtain ⟨h1, h2, h3⟩ := itoa_of_intOf hn
    have hr : vright ⟨1, n, [], 0⟩ = true := by unfold vright; simp
    refine ⟨hr, ⟨h2, h3, by show (0 : Nat) < _; decide⟩, ?_⟩
    unfold vprint; rw [vnorm_right hr]; exact h1
  split at h
  · rename_i t
    split at h
    · rename_i b hb
      split at h
      · rename_i hlen
        have e := Option.some.inj h; subst e
        have hr : vright ⟨3, 0, b, 0⟩ = true := by unfold vright; simp [hlen]
        refine ⟨hr, ⟨by dsimp only; omega, by dsimp only; omega, by show (0 : Nat) < _; decide⟩, ?_⟩
        unfold vprint; rw [vnorm_right hr]
        show 120 :: hexS b = _
        rw [hexS_unhexS _ _ hb]
      · cases h
    · cases h
  · cases h
end Go.Proofs.YtcnnpedmccjdkaaGreatDoor
