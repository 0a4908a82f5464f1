/- Floats of 64 bits by their words: how they compare, which are whole, which whole numbers they are. No program in sight. -/
import Derived.Test.YtcnnpedmccjdkaaGreatDoorSpec
import GoSem.Core.Float
set_option linter.unusedSimpArgs false
set_option linter.unusedVariables false
namespace Go.Proofs.YtcnnpedmccjdkaaGreatDoor
open Ieee
def fmag (r : Nat) : Nat := if r < 4503599627370496 then r else 4503599627370496 + r % 4503599627370496
def fplc (r : Nat) : Nat := if r < 4503599627370496 then 0 else r / 4503599627370496 - 1
/-- A magnitude in units of the least one. -/
def fV (r : Nat) : Nat := fmag r * 2 ^ fplc r
def sg (s : Bool) (x : Nat) : Int := if s then -(x : Int) else (x : Int)
def fneg (u : Nat) : Bool := u / 9223372036854775808 % 2 == 1
theorem d_least : double.leastPlace = -1074 := by rfl
theorem d_binade : double.binade = 4503599627370496 := by rfl
theorem d_inf : double.infRung = finf := by rfl
theorem d_sign : double.signWeight = 9223372036854775808 := by rfl
theorem read_fin {u : Nat} (h : u % 9223372036854775808 < finf) :
    double.read u = .number (fneg u) (fmag (u % 9223372036854775808)) (-1074 + (fplc (u % 9223372036854775808) : Nat)) := by
  unfold Format.read
  simp only [d_least, d_binade, d_inf, d_sign]
  unfold fmag fplc fneg
  by_cases h1 : u % 9223372036854775808 < 4503599627370496
  · simp [h1]
  · simp [h1, h]
theorem read_inf {u : Nat} (h : u % 9223372036854775808 = finf) : double.read u = .infinity (fneg u) := by
  unfold Format.read
  simp only [d_least, d_binade, d_inf, d_sign]
  have h1 : ¬ finf < 4503599627370496 := by decide
  rw [h, if_neg h1, if_neg (by omega), if_pos rfl]; rfl
theorem read_nan {u : Nat} (h : finf < u % 9223372036854775808) : double.read u = .nan (fneg u) (u % 9223372036854775808 - finf) := by
  unfold Format.read
  simp only [d_least, d_binade, d_inf, d_sign]
  have h1 : ¬ u % 9223372036854775808 < 4503599627370496 := by unfold finf at h; omega
  rw [if_neg h1, if_neg (by omega), if_neg (by omega)]; rfl
theorem signed_eq (s : Bool) (m k : Nat) : signed s m k = sg s (m * 2 ^ k) := by
  unfold signed sg; rw [Nat.shiftLeft_eq]
theorem sg_mul (s : Bool) (m c : Nat) : sg s (m * c) = sg s m * c := by
  unfold sg; split
  · rw [Int.neg_mul, Int.natCast_mul]
  · rw [Int.natCast_mul]
theorem compare_mul (x y : Int) {c : Int} (h : 0 < c) : compare (x * c) (y * c) = compare x y := by
  have e : (x * c < y * c) ↔ x < y := ⟨fun k => Int.lt_of_mul_lt_mul_right k (Int.le_of_lt h), fun k => Int.mul_lt_mul_of_pos_right k h⟩
  have e2 : (x * c = y * c) ↔ x = y := ⟨fun k => Int.eq_of_mul_eq_mul_right (by omega) k, fun k => by rw [k]⟩
  simp only [compare, compareOfLessAndEq, e, e2]
theorem pow_pos2 (k : Nat) : 0 < 2 ^ k := Nat.pow_pos (by omega)
theorem order_num (s : Bool) (m a : Nat) (t : Bool) (n b : Nat) :
    Datum.order (.number s m (-1074 + (a : Int))) (.number t n (-1074 + (b : Int))) = some (compare (sg s (m * 2 ^ a)) (sg t (n * 2 ^ b))) := by
  simp only [Datum.order, signed_eq]
  rcases Nat.le_total a b with h | h
  · have e1 : (-1074 + (a : Int) - min (-1074 + (a : Int)) (-1074 + (b : Int))).toNat = 0 := by omega
    have e2 : (-1074 + (b : Int) - min (-1074 + (a : Int)) (-1074 + (b : Int))).toNat = b - a := by omega
    rw [e1, e2, Nat.pow_zero, Nat.mul_one]
    have e3 : n * 2 ^ b = n * 2 ^ (b - a) * 2 ^ a := by rw [Nat.mul_assoc, ← Nat.pow_add]; congr 2; omega
    rw [e3, sg_mul s m (2 ^ a), sg_mul t _ (2 ^ a), compare_mul _ _ (Int.natCast_pos.2 (pow_pos2 a))]
  · have e1 : (-1074 + (a : Int) - min (-1074 + (a : Int)) (-1074 + (b : Int))).toNat = a - b := by omega
    have e2 : (-1074 + (b : Int) - min (-1074 + (a : Int)) (-1074 + (b : Int))).toNat = 0 := by omega
    rw [e1, e2, Nat.pow_zero, Nat.mul_one]
    have e3 : m * 2 ^ a = m * 2 ^ (a - b) * 2 ^ b := by rw [Nat.mul_assoc, ← Nat.pow_add]; congr 2; omega
    rw [e3, sg_mul t n (2 ^ b), sg_mul s _ (2 ^ b), compare_mul _ _ (Int.natCast_pos.2 (pow_pos2 b))]
/-- How two words that are finite compare. -/
theorem order_fin {u v : Nat} (hu : u % 9223372036854775808 < finf) (hv : v % 9223372036854775808 < finf) :
    double.order u v = some (compare (sg (fneg u) (fV (u % 9223372036854775808))) (sg (fneg v) (fV (v % 9223372036854775808)))) := by
  unfold Format.order
  rw [read_fin hu, read_fin hv, order_num]; rfl
theorem compare_self (x : Int) : compare x x = .eq := by simp [compare, compareOfLessAndEq]
theorem order_self (u : Nat) : double.order u u = if isNaN u then none else some .eq := by
  unfold isNaN
  by_cases h : u % 9223372036854775808 < finf
  · rw [order_fin h h, compare_self]; simp; omega
  · by_cases h2 : u % 9223372036854775808 = finf
    · unfold Format.order; rw [read_inf h2, h2]; simp [Datum.order]
    · unfold Format.order; rw [read_nan (by omega)]; simp [Datum.order]; omega
theorem order_nan (u v : Nat) (h : isNaN u = true) : double.order u v = none := by
  unfold isNaN at h; simp at h
  unfold Format.order; rw [read_nan h]; simp [Datum.order]

/-! ### whole numbers -/
theorem cut_zero (s : Bool) (n k : Nat) : Toward.cut .zero s n k = n / 2 ^ k := by
  unfold Toward.cut
  simp only [Nat.shiftLeft_eq, Nat.one_mul]
  by_cases h : k ≤ n.log2 + 2
  · rw [Nat.min_eq_left h]; simp
  · rw [Nat.min_eq_right (by omega)]
    have h1 : n < 2 ^ (n.log2 + 1) := Nat.lt_log2_self
    have h2 : n < 2 ^ (n.log2 + 2) := Nat.lt_of_lt_of_le h1 (Nat.pow_le_pow_right (by omega) (by omega))
    have h3 : n < 2 ^ k := Nat.lt_of_lt_of_le h2 (Nat.pow_le_pow_right (by omega) (by omega))
    rw [Nat.div_eq_of_lt h2, Nat.div_eq_of_lt h3]; rfl
def rungOf (t : Nat) : Nat := if t = 0 then 0 else (t.log2 + 1022) * 4503599627370496 + t * 4503599627370496 / 2 ^ t.log2
theorem log2_le {t : Nat} (h0 : t ≠ 0) (h : t ≤ 9007199254740992) : t.log2 ≤ 53 := by
  have : t < 2 ^ 54 := Nat.lt_of_le_of_lt h (by decide)
  have := (Nat.log2_lt h0).2 this
  omega
theorem log2_53 {t : Nat} (h0 : t ≠ 0) (h : t ≤ 9007199254740992) (hl : t.log2 = 53) : t = 9007199254740992 := by
  have := Nat.log2_self_le h0
  rw [hl] at this
  have e : 2 ^ 53 = 9007199254740992 := by decide
  omega
theorem kept_bounds {t : Nat} (h0 : t ≠ 0) (hl : t.log2 ≤ 52) : t * 4503599627370496 / 2 ^ t.log2 = t * 2 ^ (52 - t.log2) ∧ 4503599627370496 ≤ t * 2 ^ (52 - t.log2) ∧ t * 2 ^ (52 - t.log2) < 9007199254740992 := by
  have e : 4503599627370496 = 2 ^ (52 - t.log2) * 2 ^ t.log2 := by rw [← Nat.pow_add, Nat.sub_add_cancel hl]
  have h1 := Nat.log2_self_le h0
  have h2 : t < 2 ^ (t.log2 + 1) := Nat.lt_log2_self
  refine ⟨?_, ?_, ?_⟩
  · conv => lhs; rw [e, ← Nat.mul_assoc]
    exact Nat.mul_div_cancel _ (pow_pos2 _)
  · have := Nat.mul_le_mul_left (2 ^ (52 - t.log2)) h1
    rw [← e, Nat.mul_comm] at this; exact this
  · have := Nat.mul_lt_mul_of_pos_left h2 (pow_pos2 (52 - t.log2))
    rw [Nat.pow_succ, ← Nat.mul_assoc, ← e, Nat.mul_comm] at this
    omega
theorem nearest_eq (s : Bool) {t : Nat} (h : t ≤ 9007199254740992) : double.nearest s t 0 = (if s then 9223372036854775808 else 0) + rungOf t := by
  unfold Format.nearest rungOf Format.word
  rw [d_sign, d_least, d_binade, d_inf]
  by_cases h0 : t = 0
  · simp [h0]
  · rw [if_neg h0, if_neg h0]
    have hfr : double.fractionBits = 52 := rfl
    rw [hfr]
    by_cases hl : t.log2 ≤ 52
    · have hm : max ((0 : Int) + (t.log2 : Nat) - (52 : Nat)) (-1074) = (t.log2 : Int) - 52 := by omega
      rw [hm]
      obtain ⟨k1, k2, k3⟩ := kept_bounds h0 hl
      have e1 : ((0 : Int) - ((t.log2 : Int) - 52)).toNat = 52 - t.log2 := by omega
      have e2 : (((t.log2 : Int) - 52) - 0).toNat = 0 := by omega
      have e3 : (((t.log2 : Int) - 52) - -1074).toNat = t.log2 + 1022 := by omega
      dsimp only
      rw [e1, e2, e3, k1, Nat.shiftLeft_eq]
      have hc : Toward.cut .even s (t * 2 ^ (52 - t.log2)) 0 = t * 2 ^ (52 - t.log2) := by
        unfold Toward.cut; simp [Nat.mod_one]
      rw [hc]
      have hmin : min ((t.log2 + 1022) * 4503599627370496 + t * 2 ^ (52 - t.log2)) finf = (t.log2 + 1022) * 4503599627370496 + t * 2 ^ (52 - t.log2) := by
        apply Nat.min_eq_left; unfold finf; omega
      rw [hmin]
      cases s <;> simp
    · have hl53 := log2_le h0 h
      have e53 : t.log2 = 53 := by omega
      obtain rfl := log2_53 h0 h e53
      cases s <;> decide +kernel
theorem rungOf_lt {t : Nat} (h : t ≤ 9007199254740992) : rungOf t < finf := by
  unfold rungOf
  by_cases h0 : t = 0
  · rw [if_pos h0]; decide
  · rw [if_neg h0]
    by_cases hl : t.log2 ≤ 52
    · obtain ⟨k1, k2, k3⟩ := kept_bounds h0 hl
      rw [k1]; unfold finf; omega
    · have hl53 := log2_le h0 h
      obtain rfl := log2_53 h0 h (by omega)
      decide +kernel
/-- The place of the units, counted from the least one. -/
def fE : Nat := 1074
theorem fE_eq : fE = 1074 := rfl
theorem aux_53 (k : Nat) : 4503599627370496 * 2 ^ (k + 1) = 9007199254740992 * 2 ^ k := by
  rw [show 9007199254740992 = 4503599627370496 * 2 from rfl, Nat.mul_assoc, ← Nat.pow_succ']
theorem fV_rungOf {t : Nat} (h : t ≤ 9007199254740992) : fV (rungOf t) = t * 2 ^ fE := by
  by_cases h0 : t = 0
  · subst h0; rw [Nat.zero_mul]; rfl
  · by_cases hl : t.log2 ≤ 52
    · obtain ⟨k1, k2, k3⟩ := kept_bounds h0 hl
      have hr : rungOf t = (t.log2 + 1022) * 4503599627370496 + t * 2 ^ (52 - t.log2) := by unfold rungOf; rw [if_neg h0, k1]
      have aux : ∀ y, 4503599627370496 ≤ y → y < 9007199254740992 → ((t.log2 + 1022) * 4503599627370496 + y) / 4503599627370496 = t.log2 + 1023 ∧
          ((t.log2 + 1022) * 4503599627370496 + y) % 4503599627370496 = y - 4503599627370496 ∧ ¬ (t.log2 + 1022) * 4503599627370496 + y < 4503599627370496 ∧ 4503599627370496 + (y - 4503599627370496) = y := fun y _ _ => by omega
      obtain ⟨e1, e2, hn, e4⟩ := aux _ k2 k3
      rw [← hr] at e1 e2 hn
      unfold fV fmag fplc
      rw [if_neg hn, if_neg hn, e1, e2]
      rw [e4, Nat.mul_assoc, ← Nat.pow_add, show 52 - t.log2 + (t.log2 + 1023 - 1) = fE by rw [fE_eq]; omega]
    · have hl53 := log2_le h0 h
      obtain rfl := log2_53 h0 h (by omega)
      rw [show rungOf 9007199254740992 = 4845873199050653696 from by decide +kernel]
      unfold fV
      rw [show fmag 4845873199050653696 = 4503599627370496 from by decide +kernel, show fplc 4845873199050653696 = fE + 1 from by decide +kernel]
      exact aux_53 fE
theorem ffromInt_eq {n : Int} (h : n.natAbs ≤ 9007199254740992) : double.nearest (n < 0) n.natAbs 0 = ffromInt n := by
  rw [nearest_eq _ h]
  unfold ffromInt rungOf
  by_cases h0 : n = 0
  · subst h0; rfl
  · rw [if_neg h0]
    have hne : ¬ n.natAbs = 0 := Int.natAbs_ne_zero.2 h0
    rw [if_neg hne]
    by_cases hn : n < 0
    · simp only [hn, decide_true, if_true]; rw [Nat.add_assoc]
    · simp only [hn, decide_false, Bool.false_eq_true, if_false]; rw [Nat.add_assoc]
end Go.Proofs.YtcnnpedmccjdkaaGreatDoor
