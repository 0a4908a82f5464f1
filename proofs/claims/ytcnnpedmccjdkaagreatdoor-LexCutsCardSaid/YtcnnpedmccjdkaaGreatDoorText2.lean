/- Floats and values: what is printed is read, and nothing else. No program in sight. -/
import Derived.Test.YtcnnpedmccjdkaaGreatDoorText
set_option linter.unusedSimpArgs false
set_option linter.unusedVariables false
namespace Go.Proofs.YtcnnpedmccjdkaaGreatDoor
theorem fV_succ (r : Nat) : fV r < fV (r + 1) := by
  by_cases h : r + 1 < 4503599627370496
  · rw [fV_zero h, fV_zero (by omega)]; omega
  · by_cases h2 : r < 4503599627370496
    · rw [fV_zero h2, fV_big h, show (r + 1) / 4503599627370496 - 1 = 0 by omega, Nat.pow_zero]; omega
    · rw [fV_big h, fV_big h2]
      have hp := pow_pos2 (r / 4503599627370496 - 1)
      by_cases h3 : r % 4503599627370496 + 1 < 4503599627370496
      · rw [show (r + 1) / 4503599627370496 = r / 4503599627370496 by omega, show (r + 1) % 4503599627370496 = r % 4503599627370496 + 1 by omega]
        exact Nat.mul_lt_mul_of_pos_right (by omega) hp
      · rw [show (r + 1) / 4503599627370496 - 1 = (r / 4503599627370496 - 1) + 1 by omega, Nat.pow_succ', ← Nat.mul_assoc]
        exact Nat.mul_lt_mul_of_pos_right (by omega) hp
theorem fV_lt {a b : Nat} (h : a < b) : fV a < fV b := by
  induction h with
  | refl => exact fV_succ a
  | step _ ih => exact Nat.lt_trans ih (fV_succ _)
theorem fV_inj {a b : Nat} (h : fV a = fV b) : a = b := by
  rcases Nat.lt_trichotomy a b with h1 | h1 | h1
  · have := fV_lt h1; omega
  · exact h1
  · have := fV_lt h1; omega
theorem ffromInt_parts {n : Int} (h : n.natAbs ≤ 9007199254740992) : ffromInt n = (if n < 0 then 9223372036854775808 else 0) + rungOf n.natAbs := by
  rw [← ffromInt_eq h, nearest_eq _ h]
  by_cases hn : n < 0 <;> simp [hn]
theorem ffromInt_facts {n : Int} (h : n.natAbs ≤ 9007199254740992) :
    ffromInt n < 18446744073709551616 ∧ ffromInt n % 9223372036854775808 = rungOf n.natAbs ∧ fneg (ffromInt n) = decide (n < 0) := by
  have hl := rungOf_lt h
  unfold finf at hl
  rw [ffromInt_parts h]
  unfold fneg
  by_cases hn : n < 0
  · simp only [hn, if_true, decide_true]; refine ⟨by omega, by omega, by simp; omega⟩
  · simp only [hn, if_false, decide_false]; refine ⟨by omega, by omega, by simp; omega⟩
theorem fwhole_ffromInt {n : Int} (h : n.natAbs ≤ 9007199254740992) : fwhole (ffromInt n) = some n := by
  obtain ⟨h1, h2, h3⟩ := ffromInt_facts h
  rw [fwhole_eq h1 (by rw [h2]; exact rungOf_lt h), h2, h3, fV_rungOf h, Nat.mul_mod_left, Nat.mul_div_cancel _ (pow_pos2 _), if_pos ⟨Nat.mul_le_mul_right _ h, rfl⟩]
  unfold sg
  by_cases hn : n < 0 <;> simp [hn] <;> omega
theorem ffromInt_fwhole {u : Nat} {n : Int} (hu : u < 18446744073709551616) (h : fwhole u = some n) (hz : u ≠ fnegz) : n.natAbs ≤ 9007199254740992 ∧ ffromInt n = u := by
  have hb := (toInt_some hu h).2.2.2.2.1
  refine ⟨hb, ?_⟩
  by_cases hr : u % 9223372036854775808 < finf
  · rw [fwhole_eq hu hr] at h
    split at h
    · rename_i hc
      have e := Option.some.inj h
      have hV : fV (u % 9223372036854775808) = fV (u % 9223372036854775808) / 2 ^ fE * 2 ^ fE := by
        have := Nat.div_add_mod (fV (u % 9223372036854775808)) (2 ^ fE)
        rw [hc.2, Nat.add_zero, Nat.mul_comm] at this; exact this.symm
      have ht : n.natAbs = fV (u % 9223372036854775808) / 2 ^ fE := by
        rw [← e]; clear hV hc; generalize fV (u % 9223372036854775808) / 2 ^ fE = t; unfold sg; split <;> omega
      rw [← ht, ← fV_rungOf hb] at hV
      have hr2 := fV_inj hV
      rw [ffromInt_parts hb, ← hr2]
      rw [← ht] at e
      unfold sg fneg at e
      unfold fnegz at hz
      have hz0 : n.natAbs = 0 → u % 9223372036854775808 = 0 := fun h0 => by rw [hr2, h0]; rfl
      by_cases hs : u / 9223372036854775808 % 2 = 1
      · simp only [hs, beq_self_eq_true, if_true] at e
        by_cases h0 : n.natAbs = 0
        · exfalso; have := hz0 h0; omega
        · rw [if_pos (by omega)]; omega
      · have hs' : (u / 9223372036854775808 % 2 == 1) = false := by simp; omega
        simp only [hs', Bool.false_eq_true, if_false] at e
        rw [if_neg (by omega)]; omega
    · cases h
  · rw [fwhole_none hr] at h; cases h
theorem hexd_ne (d : Nat) (h : d < 16) : hexd d ≠ 46 ∧ hexd d ≠ 110 ∧ hexd d ≠ 102 ∨ hexd d = 102 := by
  have : ∀ d : Fin 16, hexd d.val ≠ 46 ∧ hexd d.val ≠ 110 ∧ hexd d.val ≠ 102 ∨ hexd d.val = 102 := by decide +kernel
  exact this ⟨d, h⟩
theorem fcanon_of {u : Nat} (h : isNaN u = false) : fcanon u = u := by unfold fcanon; rw [h]; rfl
theorem notNaN_of {u : Nat} (h : u % 9223372036854775808 < finf) : isNaN u = false := by unfold isNaN; simp; omega
/-- What a float's text is read as. -/
theorem floatOf_fprint {u : Nat} (hu : u < 18446744073709551616) (hc : fcanon u = u) : floatOf? (fprint u) = some u := by
  unfold fprint
  dsimp only
  rw [hc]
  by_cases c1 : u = fnan
  · rw [if_pos c1, c1]; rfl
  rw [if_neg c1]
  by_cases c2 : u = finf
  · rw [if_pos c2, c2]; rfl
  rw [if_neg c2]
  by_cases c3 : u = fninf
  · rw [if_pos c3, c3]; rfl
  rw [if_neg c3]
  by_cases c4 : u = fnegz
  · rw [if_pos c4, c4]; rfl
  rw [if_neg c4]
  cases hw : fwhole u with
  | some n =>
    obtain ⟨hb, he⟩ := ffromInt_fwhole hu hw c4
    have hi := intOf_itoa (n := n) (by omega) (by omega)
    simp only []
    unfold floatOf?
    have hlast : ∀ l : B, (l ++ [46]).getLast? = some 46 := fun l => by simp
    have hne : ∀ (l : B), l.getLast? ≠ some 46 → Lib.itoa n ++ [46] ≠ l := fun l h e => h (by rw [← e]; exact hlast _)
    rw [if_neg (hne _ (by decide)), if_neg (hne _ (by decide)), if_neg (hne _ (by decide)), if_neg, if_pos (hlast _), List.dropLast_concat, hi]
    · simp only []; rw [if_pos hb, he]
    · intro e
      have : Lib.itoa n = [45, 48] := by
        have := congrArg List.dropLast e
        rw [List.dropLast_concat] at this; exact this
      rw [this] at hi
      cases hi
  | none =>
    simp only []
    have hn : isNaN u = false := by
      cases h : isNaN u with
      | false => rfl
      | true => unfold fcanon at hc; rw [h] at hc; exact absurd hc.symm c1
    have hl : (48 :: 120 :: hexN 16 u).getLast? = some (hexd (u % 16)) := by
      rw [hexN]
      rw [show 48 :: 120 :: (hexN 15 (u / 16) ++ [hexd (u % 16)]) = (48 :: 120 :: hexN 15 (u / 16)) ++ [hexd (u % 16)] from rfl]
      exact List.getLast?_concat ..
    unfold floatOf?
    rw [if_neg (by intro e; injection e with e _; exact absurd e (by decide)), if_neg (by intro e; injection e with e _; exact absurd e (by decide)),
      if_neg (by intro e; injection e with e _; exact absurd e (by decide)), if_neg (by intro e; injection e with e _; exact absurd e (by decide)),
      if_neg (by rw [hl]; intro e; have := Option.some.inj e; rcases hexd_ne _ (Nat.mod_lt u (by omega : 0 < 16)) with h | h
                 · exact h.1 this
                 · rw [this] at h; exact absurd h (by decide))]
    simp only []
    rw [if_pos (hexN_len 16 u), unhexN_hexN 16 u (by exact Nat.lt_of_lt_of_le hu (by decide))]
    simp only []
    rw [if_pos ⟨hn, c2, c3, hw⟩]
theorem fprint_floatOf {l : B} {u : Nat} (h : floatOf? l = some u) : u < 18446744073709551616 ∧ fcanon u = u ∧ fprint u = l := by
  unfold floatOf? at h
  split at h
  · rename_i h1; have e := Option.some.inj h; subst e; subst h1; exact ⟨by decide, by decide +kernel, by rfl⟩
  split at h
  · rename_i h1; have e := Option.some.inj h; subst e; subst h1; exact ⟨by decide, by decide +kernel, by rfl⟩
  split at h
  · rename_i h1; have e := Option.some.inj h; subst e; subst h1; exact ⟨by decide, by decide +kernel, by rfl⟩
  split at h
  · rename_i h1; have e := Option.some.inj h; subst e; subst h1; exact ⟨by decide, by decide +kernel, by rfl⟩
  rename_i k1 k2 k3 k4
  split at h
  · rename_i hl
    split at h
    · rename_i n hi
      split at h
      · rename_i hb
        have e := Option.some.inj h; subst e
        obtain ⟨h1, h2, h3⟩ := ffromInt_facts hb
        have hlt := rungOf_lt hb
        have hw := fwhole_ffromInt hb
        have hn : isNaN (ffromInt n) = false := notNaN_of (by rw [h2]; exact hlt)
        have hc := fcanon_of hn
        refine ⟨h1, hc, ?_⟩
        unfold fprint
        dsimp only
        rw [hc, if_neg (by intro e; rw [e] at hw; cases hw), if_neg (by intro e; rw [e] at hw; cases hw),
          if_neg (by intro e; rw [e] at hw; cases hw)]
        have hnz : ffromInt n ≠ fnegz := by
          intro e
          rw [e, show fwhole fnegz = some 0 from by decide +kernel] at hw
          have := Option.some.inj hw; subst this
          exact absurd e (by decide)
        rw [if_neg hnz, hw]
        simp only []
        rw [(itoa_of_intOf hi).1]
        have hne : l ≠ [] := by intro e; rw [e] at hl; cases hl
        rw [List.getLast?_eq_some_getLast hne] at hl
        have := List.dropLast_concat_getLast hne
        rw [Option.some.inj hl] at this
        exact this
      · cases h
    · cases h
  · split at h
    · split at h
      · rename_i hlen
        split at h
        · rename_i x hx
          split at h
          · rename_i hc
            have e := Option.some.inj h; subst e
            obtain ⟨e1, e2⟩ := hexN_unhexN 16 _ _ hlen hx
            have hcan := fcanon_of hc.1
            refine ⟨Nat.lt_of_lt_of_le e2 (by decide), hcan, ?_⟩
            unfold fprint
            dsimp only
            rw [hcan, if_neg (by intro e; rw [e] at hc; exact absurd hc.1 (by decide +kernel)), if_neg hc.2.1, if_neg hc.2.2.1,
              if_neg (by intro e; rw [e] at hc; exact absurd hc.2.2.2 (by decide +kernel)), hc.2.2.2]
            simp only []
            rw [e1]
          · cases h
        · cases h
      · cases h
    · cases h
end Go.Proofs.YtcnnpedmccjdkaaGreatDoor
