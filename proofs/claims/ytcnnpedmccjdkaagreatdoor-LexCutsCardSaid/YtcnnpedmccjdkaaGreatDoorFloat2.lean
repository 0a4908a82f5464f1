/- Which floats are whole, infinite, by the machine's comparisons. No program in sight. -/
import Derived.Test.YtcnnpedmccjdkaaGreatDoorFloat
set_option linter.unusedSimpArgs false
set_option linter.unusedVariables false
namespace Go.Proofs.YtcnnpedmccjdkaaGreatDoor
open Ieee
theorem fV_zero {r : Nat} (h : r < 4503599627370496) : fV r = r := by
  unfold fV fmag fplc; simp [h]
theorem fV_big {r : Nat} (h : ¬ r < 4503599627370496) : fV r = (4503599627370496 + r % 4503599627370496) * 2 ^ (r / 4503599627370496 - 1) := by
  unfold fV fmag fplc; simp [h]
theorem pow_split {a b : Nat} (h : a ≤ b) : 2 ^ b = 2 ^ (b - a) * 2 ^ a := by rw [← Nat.pow_add]; congr 1; omega
theorem small_mod {v k : Nat} (h0 : 0 < v) (h : v < 2 ^ k) : ¬ v % 2 ^ k = 0 := by rw [Nat.mod_eq_of_lt h]; omega
theorem fwhole_eq {u : Nat} (hu : u < 18446744073709551616) (hr : u % 9223372036854775808 < finf) :
    fwhole u = if fV (u % 9223372036854775808) ≤ 9007199254740992 * 2 ^ fE ∧ fV (u % 9223372036854775808) % 2 ^ fE = 0 then
      some (sg (fneg u) (fV (u % 9223372036854775808) / 2 ^ fE)) else none := by
  have hs : (u / 9223372036854775808 = 1) = (fneg u = true) := by
    unfold fneg; simp; omega
  have he : u / 4503599627370496 % 2048 = (u % 9223372036854775808) / 4503599627370496 := by omega
  have hm : u % 4503599627370496 = (u % 9223372036854775808) % 4503599627370496 := by omega
  unfold fwhole
  simp only [he, hm, hs]
  generalize u % 9223372036854775808 = r at *
  generalize fneg u = s at *
  clear he hm hs hu
  have hsg : ∀ t : Nat, (if s = true then -(t : Int) else (t : Int)) = sg s t := fun t => by unfold sg; rfl
  simp only [hsg]
  unfold finf at hr
  by_cases h0 : r < 4503599627370496
  · rw [fV_zero h0]
    have hE : 4503599627370496 < 2 ^ fE := Nat.lt_of_lt_of_le (show 4503599627370496 < 2 ^ 53 by decide) (Nat.pow_le_pow_right (by omega) (show 53 ≤ fE by decide))
    by_cases hz : r = 0
    · subst hz; simp; unfold sg; split <;> rfl
    · have e0 : r / 4503599627370496 = 0 := by omega
      have e1 : r % 4503599627370496 = r := by omega
      rw [e0, e1, if_neg (by omega), if_pos (by omega), if_neg]
      intro ⟨_, h⟩
      exact small_mod (by omega) (by omega) h
  · rw [fV_big h0]
    have hn1 : 4503599627370496 ≤ 4503599627370496 + r % 4503599627370496 := by omega
    have hn2 : 4503599627370496 + r % 4503599627370496 < 9007199254740992 := by omega
    rw [if_neg (by omega)]
    generalize he : r / 4503599627370496 = e at *
    have he1 : 1 ≤ e := by omega
    generalize hm : r % 4503599627370496 = m at *
    generalize hN : 4503599627370496 + m = N at *
    have hN' : m + 4503599627370496 = N := by omega
    by_cases h1 : e < 1023
    · rw [if_pos (.inl h1), if_neg]
      intro ⟨_, h⟩
      refine small_mod ?_ ?_ h
      · exact Nat.mul_pos (by omega) (pow_pos2 _)
      · rw [pow_split (show e - 1 ≤ fE by rw [fE_eq]; omega)]
        refine Nat.mul_lt_mul_of_pos_right (Nat.lt_of_lt_of_le hn2 ?_) (pow_pos2 _)
        rw [show 9007199254740992 = 2 ^ 53 from by decide]
        exact Nat.pow_le_pow_right (by omega) (by rw [fE_eq]; omega)
    · by_cases h2 : 1076 < e
      · rw [if_pos (.inr (.inl h2)), if_neg]
        intro ⟨h, _⟩
        have a1 : 4503599627370496 * 2 ^ (e - 1) ≤ N * 2 ^ (e - 1) := Nat.mul_le_mul_right _ hn1
        have a2 : 4503599627370496 * 2 ^ (fE + 2) ≤ 4503599627370496 * 2 ^ (e - 1) := Nat.mul_le_mul_left _ (Nat.pow_le_pow_right (by omega) (by rw [fE_eq]; omega))
        rw [Nat.pow_add, ← Nat.mul_assoc, Nat.mul_comm _ (2 ^ 2), ← Nat.mul_assoc] at a2
        have a3 := Nat.le_trans a2 (Nat.le_trans a1 h)
        have a4 := Nat.le_of_mul_le_mul_right a3 (pow_pos2 fE)
        omega
      · by_cases h3 : e ≤ 1075
        · rw [if_neg (by omega), if_pos h3, hN']
          have hp : 2 ^ fE = 2 ^ (1075 - e) * 2 ^ (e - 1) := by
            rw [pow_split (show e - 1 ≤ fE by rw [fE_eq]; omega)]; congr 2; rw [fE_eq]; omega
          rw [hp, Nat.mul_mod_mul_right, Nat.mul_div_mul_right _ _ (pow_pos2 _)]
          by_cases h4 : N % 2 ^ (1075 - e) = 0
          · rw [if_pos h4, if_pos]
            refine ⟨?_, by rw [h4, Nat.zero_mul]⟩
            rw [← Nat.mul_assoc]
            refine Nat.mul_le_mul_right _ ?_
            exact Nat.le_trans (Nat.le_of_lt hn2) (Nat.le_mul_of_pos_right _ (pow_pos2 _))
          · rw [if_neg h4, if_neg]
            intro ⟨_, h⟩
            rcases Nat.mul_eq_zero.1 h with h | h
            · exact h4 h
            · exact absurd h (Nat.ne_of_gt (pow_pos2 _))
        · obtain rfl : e = 1076 := by omega
          have hp : N * 2 ^ (1076 - 1) = 2 * N * 2 ^ fE := by
            rw [show 1076 - 1 = fE + 1 from by rw [fE_eq], Nat.pow_succ', ← Nat.mul_assoc, Nat.mul_comm N 2]
          rw [hp, Nat.mul_mod_left, Nat.mul_div_cancel _ (pow_pos2 _), if_neg (show ¬ (1076 ≤ 1075) by omega)]
          by_cases h4 : 0 < m
          · rw [if_pos (.inr (.inr ⟨rfl, h4⟩)), if_neg]
            intro ⟨h, _⟩
            have := Nat.le_of_mul_le_mul_right h (pow_pos2 fE)
            omega
          · rw [if_neg (by omega), if_pos, hN']
            exact ⟨Nat.mul_le_mul_right _ (by omega), rfl⟩
theorem fwhole_none {u : Nat} (hr : ¬ u % 9223372036854775808 < finf) : fwhole u = none := by
  unfold finf at hr
  unfold fwhole
  dsimp only
  rw [if_neg (by omega), if_pos (by omega)]

/-! ### the machine's tests -/
theorem cmp_lt {x y : Int} : compare x y = .lt ↔ x < y := by
  simp only [compare, compareOfLessAndEq]; split <;> (try split) <;> simp <;> omega
theorem cmp_eq {x y : Int} : compare x y = .eq ↔ x = y := by
  simp only [compare, compareOfLessAndEq]; split <;> (try split) <;> simp <;> omega
theorem cmp_gt {x y : Int} : compare x y = .gt ↔ y < x := by
  simp only [compare, compareOfLessAndEq]; split <;> (try split) <;> simp <;> omega
def fpos53 : Nat := 4845873199050653696
def fneg53 : Nat := 14069245235905429504
def ftop : Nat := 9218868437227405311
theorem V53 : fV (fpos53 % 9223372036854775808) = 9007199254740992 * 2 ^ fE := by
  rw [show fpos53 % 9223372036854775808 = rungOf 9007199254740992 from by decide +kernel]
  exact fV_rungOf (by omega)
theorem Vn53 : fV (fneg53 % 9223372036854775808) = 9007199254740992 * 2 ^ fE := by
  rw [show fneg53 % 9223372036854775808 = rungOf 9007199254740992 from by decide +kernel]
  exact fV_rungOf (by omega)
def fge (u v : Nat) : Bool := double.order u v == some .gt || double.order u v == some .eq
def fle (u v : Nat) : Bool := double.order u v == some .lt || double.order u v == some .eq
theorem fge_fin {u : Nat} (hr : u % 9223372036854775808 < finf) : fge u fneg53 = decide (-((9007199254740992 * 2 ^ fE : Nat) : Int) ≤ sg (fneg u) (fV (u % 9223372036854775808))) := by
  unfold fge
  rw [order_fin hr (by decide), Vn53, show fneg fneg53 = true from by decide]
  rw [Bool.eq_iff_iff]
  simp only [Bool.or_eq_true, beq_iff_eq, Option.some.injEq, cmp_gt, cmp_eq, decide_eq_true_eq]
  show (-((9007199254740992 * 2 ^ fE : Nat) : Int) < _ ∨ _ = -((9007199254740992 * 2 ^ fE : Nat) : Int)) ↔ _
  generalize ((9007199254740992 * 2 ^ fE : Nat) : Int) = a
  omega
theorem fle_fin {u : Nat} (hr : u % 9223372036854775808 < finf) : fle u fpos53 = decide (sg (fneg u) (fV (u % 9223372036854775808)) ≤ ((9007199254740992 * 2 ^ fE : Nat) : Int)) := by
  unfold fle
  rw [order_fin hr (by decide), V53, show fneg fpos53 = false from by decide]
  rw [Bool.eq_iff_iff]
  simp only [Bool.or_eq_true, beq_iff_eq, Option.some.injEq, cmp_lt, cmp_eq, decide_eq_true_eq]
  show (_ < ((9007199254740992 * 2 ^ fE : Nat) : Int) ∨ _ = ((9007199254740992 * 2 ^ fE : Nat) : Int)) ↔ _
  generalize ((9007199254740992 * 2 ^ fE : Nat) : Int) = a
  omega
theorem range_fin {u : Nat} (hr : u % 9223372036854775808 < finf) : (fge u fneg53 && fle u fpos53) = decide (fV (u % 9223372036854775808) ≤ 9007199254740992 * 2 ^ fE) := by
  rw [fge_fin hr, fle_fin hr]
  rw [Bool.eq_iff_iff]
  simp only [Bool.and_eq_true, decide_eq_true_eq]
  generalize 9007199254740992 * 2 ^ fE = a
  generalize fV _ = v
  unfold sg
  split <;> omega
theorem range_not {u : Nat} (hr : ¬ u % 9223372036854775808 < finf) : (fge u fneg53 && fle u fpos53) = false := by
  by_cases h : u % 9223372036854775808 = finf
  · unfold fge fle Format.order
    rw [read_inf h, read_fin (show fneg53 % 9223372036854775808 < finf by decide), read_fin (show fpos53 % 9223372036854775808 < finf by decide)]
    simp only [Datum.order]
    cases fneg u <;> rfl
  · unfold fge
    rw [order_nan u _ (by unfold isNaN; simp; omega)]; rfl
/-- The float that math.Trunc makes of one that is a number. -/
def ftrunc (u : Nat) : Nat := double.write ((double.read u).integral .zero)
theorem trunc_t {u : Nat} (hr : u % 9223372036854775808 < finf) :
    (double.read u).integral .zero = .number (fneg u) (fV (u % 9223372036854775808) / 2 ^ fE) 0 := by
  rw [read_fin hr]
  simp only [Datum.integral, cut_zero, Nat.shiftLeft_eq]
  congr 1
  unfold fV
  generalize fmag (u % 9223372036854775808) = m
  generalize fplc (u % 9223372036854775808) = k
  rcases Nat.le_total k fE with h | h
  · have e1 : (-1074 + (k : Int)).toNat = 0 := by rw [fE_eq] at h; omega
    have e2 : (-(-1074 + (k : Int))).toNat = fE - k := by rw [fE_eq] at h ⊢; omega
    rw [e1, e2, pow_split h, Nat.mul_div_mul_right _ _ (pow_pos2 _), Nat.pow_zero, Nat.mul_one]
  · have e1 : (-1074 + (k : Int)).toNat = k - fE := by rw [fE_eq] at h ⊢; omega
    have e2 : (-(-1074 + (k : Int))).toNat = 0 := by rw [fE_eq] at h; omega
    rw [e1, e2, pow_split h, ← Nat.mul_assoc, Nat.mul_div_cancel _ (pow_pos2 _), Nat.pow_zero, Nat.div_one]
theorem div_le_of {v a : Nat} (h : v ≤ a * 2 ^ fE) : v / 2 ^ fE ≤ a := by
  have := Nat.div_le_div_right (c := 2 ^ fE) h
  rwa [Nat.mul_div_cancel _ (pow_pos2 _)] at this
theorem trunc_eq {u : Nat} (hr : u % 9223372036854775808 < finf) (h : fV (u % 9223372036854775808) ≤ 9007199254740992 * 2 ^ fE) :
    (double.order (ftrunc u) u == some .eq) = decide (fV (u % 9223372036854775808) % 2 ^ fE = 0) := by
  have ht := div_le_of h
  have hw : ftrunc u = (if fneg u then 9223372036854775808 else 0) + rungOf (fV (u % 9223372036854775808) / 2 ^ fE) := by
    unfold ftrunc; rw [trunc_t hr]; exact nearest_eq _ ht
  have hl := rungOf_lt ht
  have hl' : rungOf (fV (u % 9223372036854775808) / 2 ^ fE) < 9223372036854775808 := by unfold finf at hl; omega
  have hm : ftrunc u % 9223372036854775808 = rungOf (fV (u % 9223372036854775808) / 2 ^ fE) := by rw [hw]; split <;> omega
  have hn : fneg (ftrunc u) = fneg u := by
    rw [hw]; unfold fneg at *; cases hb : (u / 9223372036854775808 % 2 == 1) <;> simp <;> omega
  rw [order_fin (by rw [hm]; exact hl) hr, hm, hn, fV_rungOf ht, Bool.eq_iff_iff]
  simp only [beq_iff_eq, Option.some.injEq, cmp_eq, decide_eq_true_eq]
  have hdm := Nat.div_add_mod (fV (u % 9223372036854775808)) (2 ^ fE)
  rw [Nat.mul_comm] at hdm
  generalize fV (u % 9223372036854775808) / 2 ^ fE * 2 ^ fE = q at *
  generalize fV (u % 9223372036854775808) % 2 ^ fE = z at *
  generalize fV (u % 9223372036854775808) = v at *
  unfold sg
  split <;> omega
theorem toInt_some {u : Nat} {n : Int} (hu : u < 18446744073709551616) (h : fwhole u = some n) :
    fge u fneg53 = true ∧ fle u fpos53 = true ∧ (double.order (ftrunc u) u == some .eq) = true ∧ (double.read u).toInt .zero = some n ∧ n.natAbs ≤ 9007199254740992 ∧ (∃ s m k, double.read u = .number s m k) := by
  by_cases hr : u % 9223372036854775808 < finf
  · rw [fwhole_eq hu hr] at h
    split at h
    · rename_i hc
      have h1 := range_fin hr
      rw [decide_eq_true hc.1, Bool.and_eq_true] at h1
      refine ⟨h1.1, h1.2, by rw [trunc_eq hr hc.1, decide_eq_true hc.2], ?_, ?_, ?_⟩
      · unfold Datum.toInt; rw [trunc_t hr]; simp only [signed_eq, Nat.pow_zero, Nat.mul_one]; exact h
      · have := div_le_of hc.1
        have e := Option.some.inj h
        rw [← e]; clear e h
        generalize fV (u % 9223372036854775808) / 2 ^ fE = t at *
        unfold sg; split <;> omega
      · rw [read_fin hr]; exact ⟨_, _, _, rfl⟩
    · cases h
  · rw [fwhole_none hr] at h; cases h
theorem toInt_none {u : Nat} (hu : u < 18446744073709551616) (h : fwhole u = none) :
    (fge u fneg53 && fle u fpos53) = false ∨ ((fge u fneg53 && fle u fpos53) = true ∧ (double.order (ftrunc u) u == some .eq) = false ∧ (∃ s m k, double.read u = .number s m k)) := by
  by_cases hr : u % 9223372036854775808 < finf
  · rw [fwhole_eq hu hr] at h
    split at h
    · cases h
    · rename_i hc
      by_cases h1 : fV (u % 9223372036854775808) ≤ 9007199254740992 * 2 ^ fE
      · refine .inr ⟨by rw [range_fin hr, decide_eq_true h1], ?_, ?_⟩
        · rw [trunc_eq hr h1]; exact decide_eq_false fun h2 => hc ⟨h1, h2⟩
        · rw [read_fin hr]; exact ⟨_, _, _, rfl⟩
      · left; rw [range_fin hr]; exact decide_eq_false h1
  · exact .inl (range_not hr)
def fT : Nat := 2045
theorem fT_eq : fT = 2045 := rfl
theorem fV_top : fV (ftop % 9223372036854775808) = 9007199254740991 * 2 ^ fT := by
  unfold fV; rw [show fmag (ftop % 9223372036854775808) = 9007199254740991 from by decide +kernel, show fplc (ftop % 9223372036854775808) = fT from by decide +kernel]
theorem fV_le_top {r : Nat} (h : r < finf) : fV r ≤ 9007199254740991 * 2 ^ fT := by
  unfold fV
  refine Nat.mul_le_mul ?_ (Nat.pow_le_pow_right (by omega) ?_)
  · unfold fmag; split <;> omega
  · rw [fT_eq]; unfold fplc; unfold finf at h; split <;> omega
theorem isInf_pos {u : Nat} (hu : u < 18446744073709551616) : (double.order u ftop == some .gt) = decide (u = finf) := by
  by_cases hr : u % 9223372036854775808 < finf
  · rw [order_fin hr (by decide), fV_top, show fneg ftop = false from by decide]
    have h := fV_le_top hr
    rw [decide_eq_false (by intro e; rw [e] at hr; exact absurd hr (by decide))]
    rw [Bool.eq_false_iff]
    simp only [ne_eq, beq_iff_eq, Option.some.injEq, cmp_gt]
    generalize 9007199254740991 * 2 ^ fT = a at *
    cases fneg u <;> simp [sg] <;> omega
  · by_cases h : u % 9223372036854775808 = finf
    · unfold Format.order
      rw [read_inf h, read_fin (show ftop % 9223372036854775808 < finf by decide)]
      simp only [Datum.order, fneg]
      rw [Bool.eq_iff_iff]
      unfold finf at *
      by_cases h2 : u / 9223372036854775808 % 2 = 1
      · simp [h2]; omega
      · simp [h2]; omega
    · rw [order_nan u _ (by unfold isNaN; simp; omega)]
      rw [decide_eq_false (by intro e; rw [e] at h; exact h (by decide))]; rfl
end Go.Proofs.YtcnnpedmccjdkaaGreatDoor
