/- Numerals, hex digits, values: printed and read. No program in sight. -/
import Derived.Test.YtcnnpedmccjdkaaGreatDoorFloat2
set_option linter.unusedSimpArgs false
set_option linter.unusedVariables false
namespace Go.Proofs.YtcnnpedmccjdkaaGreatDoor
theorem digit_iff (c : UInt8) : digit c = true ↔ 48 ≤ c.toNat ∧ c.toNat ≤ 57 := by
  unfold digit; simp only [Bool.and_eq_true, decide_eq_true_eq, UInt8.le_iff_toNat_le]; rfl
theorem ofNat_toNat {n : Nat} (h : n < 256) : (UInt8.ofNat n).toNat = n := by simp [Nat.mod_eq_of_lt h]
theorem ofNat_of {c : UInt8} {n : Nat} (h : c.toNat = n) : UInt8.ofNat n = c := by subst h; simp
theorem digitsVal_snoc (l : B) (c : UInt8) : ∀ a, digitsVal a (l ++ [c]) = (digitsVal a l).bind fun b => if digit c then some (10 * b + (c.toNat - 48)) else none := by
  induction l with
  | nil => intro a; simp [digitsVal]
  | cons x t ih => intro a; simp only [List.cons_append, digitsVal]; split
                   · exact ih _
                   · rfl
theorem dec_small {u : Nat} (h : u < 10) : Lib.decDigits u = [UInt8.ofNat (48 + u)] := by rw [Lib.decDigits, dif_pos h]
theorem dec_big {u : Nat} (h : ¬ u < 10) : Lib.decDigits u = Lib.decDigits (u / 10) ++ [UInt8.ofNat (48 + u % 10)] := by rw [Lib.decDigits, dif_neg h]
theorem dec_val (u : Nat) : digitsVal 0 (Lib.decDigits u) = some u := by
  induction u using Nat.strongRecOn with
  | _ u ih =>
    by_cases h : u < 10
    · rw [dec_small h]
      have e := ofNat_toNat (show 48 + u < 256 by omega)
      have hd : digit (UInt8.ofNat (48 + u)) = true := (digit_iff _).2 (by rw [e]; omega)
      simp only [digitsVal, hd, if_true, e]
      congr 1; omega
    · rw [dec_big h, digitsVal_snoc, ih _ (by omega)]
      have e := ofNat_toNat (show 48 + u % 10 < 256 by omega)
      have hd : digit (UInt8.ofNat (48 + u % 10)) = true := (digit_iff _).2 (by rw [e]; omega)
      simp only [Option.bind_some, hd, if_true, e]
      congr 1; omega
theorem dec_head (u : Nat) (h : 0 < u) : ∃ c t, Lib.decDigits u = c :: t ∧ 49 ≤ c.toNat ∧ c.toNat ≤ 57 := by
  induction u using Nat.strongRecOn with
  | _ u ih =>
    by_cases h1 : u < 10
    · exact ⟨_, _, dec_small h1, by rw [ofNat_toNat (by omega)]; omega, by rw [ofNat_toNat (by omega)]; omega⟩
    · obtain ⟨c, t, e, h2, h3⟩ := ih (u / 10) (by omega) (by omega)
      exact ⟨c, _, by rw [dec_big h1, e]; rfl, h2, h3⟩
theorem natOf_cons {c : UInt8} {t : B} (h : c.toNat ≠ 48) : natOf? (c :: t) = digitsVal 0 (c :: t) := by
  have hc : c ≠ 48 := fun e => h (by rw [e]; rfl)
  unfold natOf?
  split
  · rename_i h1; cases h1
  · rename_i h1; injection h1 with h1 _; exact absurd h1 hc
  · rename_i h1; injection h1 with h1 _; exact absurd h1 hc
  · rfl
theorem natOf_dec (u : Nat) : natOf? (Lib.decDigits u) = some u := by
  rcases Nat.eq_zero_or_pos u with rfl | h
  · rw [dec_small (by omega)]; rfl
  · obtain ⟨c, t, e, h2, h3⟩ := dec_head u h
    have := dec_val u
    rw [e] at this ⊢
    rw [natOf_cons (by omega)]; exact this
theorem digitsVal_dec (l : B) : ∀ n, digitsVal 0 l = some n → (∀ c t, l = c :: t → 49 ≤ c.toNat) → l ≠ [] → 0 < n ∧ Lib.decDigits n = l := by
  induction hk : l.length generalizing l with
  | zero => intro n _ _ h; exact absurd (List.eq_nil_of_length_eq_zero hk) h
  | succ k ih =>
    intro n h hh hne
    obtain ⟨l', c, rfl⟩ : ∃ l' c, l = l' ++ [c] := ⟨l.dropLast, l.getLast hne, (List.dropLast_concat_getLast hne).symm⟩
    rw [digitsVal_snoc] at h
    obtain ⟨b, hb, h⟩ := Option.bind_eq_some_iff.1 h
    split at h
    · rename_i hd
      have hd := (digit_iff c).1 hd
      have e := Option.some.inj h
      by_cases hl : l' = []
      · subst hl
        have hb0 : b = 0 := by simp [digitsVal] at hb; exact hb.symm
        have h49 := hh c [] rfl
        have hn : n < 10 := by omega
        refine ⟨by omega, ?_⟩
        rw [dec_small hn, ofNat_of (show c.toNat = 48 + n by omega)]; rfl
      · have hlen : l'.length = k := by simp at hk; exact hk
        obtain ⟨b0, e2⟩ := ih l' hlen b hb (fun c' t' e' => hh c' (t' ++ [c]) (by rw [e']; rfl)) hl
        have hn : ¬ n < 10 := by omega
        refine ⟨by omega, ?_⟩
        rw [dec_big hn, show n / 10 = b by omega, e2, ofNat_of (show c.toNat = 48 + n % 10 by omega)]
    · cases h
theorem dec_of_natOf {l : B} {n : Nat} (h : natOf? l = some n) : Lib.decDigits n = l := by
  unfold natOf? at h
  split at h
  · cases h
  · have := Option.some.inj h; subst this; rw [dec_small (by omega)]; rfl
  · cases h
  · rename_i h1 h2 h3
    have hne : l ≠ [] := fun e => h1 e
    obtain ⟨c, t, rfl⟩ : ∃ c t, l = c :: t := by cases l with
      | nil => exact absurd rfl hne
      | cons c t => exact ⟨c, t, rfl⟩
    refine (digitsVal_dec _ n h (fun c' t' e => ?_) hne).2
    injection e with e1 e2
    subst e1
    have hd : digit c = true := by
      unfold digitsVal at h; split at h
      · assumption
      · cases h
    have hd := (digit_iff c).1 hd
    have hc : c.toNat ≠ 48 := fun e => by
      have hc : c = 48 := by rw [← UInt8.toNat_inj]; exact e
      exact h3 t (by rw [hc])
    omega
theorem intOf_itoa {n : Int} (h0 : -9223372036854775808 ≤ n) (h1 : n ≤ 9223372036854775807) : intOf? (Lib.itoa n) = some n := by
  by_cases hn : n < 0
  · obtain ⟨u, rfl⟩ : ∃ u : Nat, n = -((u : Int) + 1) := ⟨(-n - 1).toNat, by omega⟩
    unfold Lib.itoa
    rw [if_pos hn, show (-((u : Int) + 1)).natAbs = u + 1 by omega]
    simp only [intOf?, natOf_dec]
    rw [if_pos (by omega)]
  · obtain ⟨u, rfl⟩ : ∃ u : Nat, n = u := ⟨n.toNat, by omega⟩
    rw [Lib.itoa_nonneg]
    have hh : ∃ c t, Lib.decDigits u = c :: t ∧ 48 ≤ c.toNat := by
      rcases Nat.eq_zero_or_pos u with rfl | h
      · exact ⟨_, _, dec_small (by omega), by decide⟩
      · obtain ⟨c, t, e, h2, _⟩ := dec_head u h; exact ⟨c, t, e, by omega⟩
    obtain ⟨c, t, e, h2⟩ := hh
    have hd := natOf_dec u
    rw [e] at hd ⊢
    unfold intOf?
    split
    · rename_i h3; injection h3 with h3 _; rw [h3] at h2; exact absurd h2 (by decide)
    · rw [hd]; exact if_pos (by omega)
theorem itoa_of_intOf {l : B} {n : Int} (h : intOf? l = some n) : Lib.itoa n = l ∧ -9223372036854775808 ≤ n ∧ n ≤ 9223372036854775807 := by
  unfold intOf? at h
  split at h
  · split at h
    · rename_i h1
      split at h
      · have e := Option.some.inj h; subst e
        have := dec_of_natOf h1
        refine ⟨?_, by omega, by omega⟩
        unfold Lib.itoa
        rw [if_pos (by omega), ← this]; congr 2
      · cases h
    · cases h
  · split at h
    · rename_i h1
      split at h
      · have e := Option.some.inj h; subst e
        exact ⟨by rw [Lib.itoa_nonneg]; exact dec_of_natOf h1, by omega, by omega⟩
      · cases h
    · cases h
/-- What strconv.Atoi makes of a numeral. -/
theorem pu10_val (l : B) : ∀ a n, digitsVal a l = some n → n < 18446744073709551616 → Lib.parseUint10 a l = .ok n := by
  induction l with
  | nil => intro a n h _; simp [digitsVal] at h; simp [Lib.parseUint10, h]
  | cons c t ih =>
    intro a n h hn
    unfold digitsVal at h
    split at h
    · rename_i hd
      have hd := (digit_iff c).1 hd
      have hge : 10 * a + (c.toNat - 48) ≤ n := by
        have : ∀ (t : B) (a n : Nat), digitsVal a t = some n → a ≤ n := by
          intro t
          induction t with
          | nil => intro a n h; simp [digitsVal] at h; omega
          | cons x t ih => intro a n h; unfold digitsVal at h; split at h
                           · have := ih _ _ h; omega
                           · cases h
        exact this _ _ _ h
      unfold Lib.parseUint10
      rw [if_pos hd, if_neg (by omega), if_neg (by omega), Nat.mul_comm a 10]
      exact ih _ _ h hn
    · cases h
theorem atoi_itoa {n : Int} (h0 : -9223372036854775808 ≤ n) (h1 : n ≤ 9223372036854775807) : Lib.atoiAll (Lib.itoa n) = .ok n := by
  have hpm : ∀ u : Nat, u < 18446744073709551616 → Lib.parseMag (Lib.decDigits u) = .ok u := fun u hu => by
    unfold Lib.parseMag
    rw [if_neg, pu10_val _ 0 u (dec_val u) hu]
    intro e
    have := Lib.nDigits_pos u
    rw [← Lib.decDigits_length, e] at this; simp at this
  by_cases hn : n < 0
  · unfold Lib.itoa
    rw [if_pos hn]
    unfold Lib.atoiAll
    have h45 : (45 : UInt8).toNat = 45 := rfl
    simp only [h45]
    rw [if_pos (.inr trivial), hpm _ (by omega)]
    simp only []
    rw [if_neg (by simp), if_neg (by omega)]
    simp; omega
  · obtain ⟨u, rfl⟩ : ∃ u : Nat, n = u := ⟨n.toNat, by omega⟩
    rw [Lib.itoa_nonneg]
    have hh : ∃ c t, Lib.decDigits u = c :: t ∧ 48 ≤ c.toNat := by
      rcases Nat.eq_zero_or_pos u with rfl | h
      · exact ⟨_, _, dec_small (by omega), by decide⟩
      · obtain ⟨c, t, e, h2, _⟩ := dec_head u h; exact ⟨c, t, e, by omega⟩
    obtain ⟨c, t, e, h2⟩ := hh
    have hp := hpm u (by omega)
    rw [e] at hp ⊢
    unfold Lib.atoiAll
    simp only []
    rw [if_neg (by omega), hp]
    simp only []
    rw [if_neg (by omega), if_neg (by omega), if_neg (by omega)]
/-! ### hex -/
theorem unhexd_hexd (d : Nat) (h : d < 16) : unhexd (hexd d) = some d := by
  have : ∀ d : Fin 16, unhexd (hexd d.val) = some d.val := by decide +kernel
  exact this ⟨d, h⟩
theorem hexd_unhexd (c : UInt8) (d : Nat) (h : unhexd c = some d) : d < 16 ∧ hexd d = c := by
  have : ∀ c : Fin 256, ∀ d, unhexd (UInt8.ofNat c.val) = some d → d < 16 ∧ hexd d = UInt8.ofNat c.val := by
    intro c d h
    have h2 : ∀ c : Fin 256, (match unhexd (UInt8.ofNat c.val) with | some d => decide (d < 16 ∧ hexd d = UInt8.ofNat c.val) | none => true) = true := by decide +kernel
    have := h2 c
    rw [h] at this
    exact of_decide_eq_true this
  have h3 := this ⟨c.toNat, UInt8.toNat_lt c⟩ d (by simpa using h)
  simpa using h3
theorem unhexN_snoc (l : B) (c : UInt8) : ∀ a, unhexN a (l ++ [c]) = (unhexN a l).bind fun b => (unhexd c).map fun x => 16 * b + x := by
  induction l with
  | nil => intro a; simp only [List.nil_append, unhexN]; cases unhexd c <;> rfl
  | cons x t ih => intro a; simp only [List.cons_append, unhexN]; cases unhexd x with
                   | none => rfl
                   | some d => exact ih _
theorem unhexN_hexN (k u : Nat) (h : u < 16 ^ k) : unhexN 0 (hexN k u) = some u := by
  induction k generalizing u with
  | zero => simp at h; subst h; rfl
  | succ k ih =>
    rw [hexN, unhexN_snoc, ih _ (by rw [Nat.pow_succ] at h; omega), Option.bind_some, unhexd_hexd _ (Nat.mod_lt _ (by omega))]
    simp only [Option.map_some]; congr 1; omega
theorem hexN_len (k u : Nat) : (hexN k u).length = k := by
  induction k generalizing u with
  | zero => rfl
  | succ k ih => simp [hexN, ih]
theorem hexN_unhexN (k : Nat) : ∀ (l : B) (u : Nat), l.length = k → unhexN 0 l = some u → hexN k u = l ∧ u < 16 ^ k := by
  induction k with
  | zero => intro l u hl h; rw [List.eq_nil_of_length_eq_zero hl] at h ⊢; simp [unhexN] at h; subst h; exact ⟨rfl, by omega⟩
  | succ k ih =>
    intro l u hl h
    have hne : l ≠ [] := by intro e; rw [e] at hl; simp at hl
    obtain ⟨l', c, rfl⟩ : ∃ l' c, l = l' ++ [c] := ⟨l.dropLast, l.getLast hne, (List.dropLast_concat_getLast hne).symm⟩
    rw [unhexN_snoc] at h
    obtain ⟨b, hb, h⟩ := Option.bind_eq_some_iff.1 h
    obtain ⟨d, hd, h⟩ := Option.map_eq_some_iff.1 h
    obtain ⟨h16, hc⟩ := hexd_unhexd c d hd
    obtain ⟨e, hlt⟩ := ih l' b (by simp at hl; exact hl) hb
    subst h
    refine ⟨?_, by rw [Nat.pow_succ]; omega⟩
    rw [hexN, show (16 * b + d) / 16 = b by omega, show (16 * b + d) % 16 = d by omega, e, hc]
theorem unhexS_hexS (l : B) : unhexS (hexS l) = some l := by
  induction l with
  | nil => rfl
  | cons c t ih =>
    have hc := UInt8.toNat_lt c
    simp only [hexS, unhexS]
    rw [unhexd_hexd _ (by omega), unhexd_hexd _ (Nat.mod_lt _ (by omega)), ih]
    simp only []
    rw [show 16 * (c.toNat / 16) + c.toNat % 16 = c.toNat by omega]; simp
theorem hexS_unhexS : ∀ (l b : B), unhexS l = some b → hexS b = l
  | [], b, h => by simp [unhexS] at h; subst h; rfl
  | [x], b, h => by simp [unhexS] at h
  | x :: y :: t, b, h => by
    unfold unhexS at h
    split at h
    · rename_i d1 d2 r h1 h2 h3
      have e := Option.some.inj h; subst e
      obtain ⟨a1, a2⟩ := hexd_unhexd _ _ h1
      obtain ⟨b1, b2⟩ := hexd_unhexd _ _ h2
      have := hexS_unhexS t r h3
      simp only [hexS]
      rw [ofNat_toNat (by omega), show (16 * d1 + d2) / 16 = d1 by omega, show (16 * d1 + d2) % 16 = d2 by omega, a2, b2, this]
    · cases h
theorem hexS_length (l : B) : (hexS l).length = 2 * l.length := by
  induction l with
  | nil => rfl
  | cons c t ih => simp [hexS, ih]; omega
end Go.Proofs.YtcnnpedmccjdkaaGreatDoor
