/- Plain laws: what the reference's readers of numbers go by. -/
import Derived.Test.YtcnnpedmccjdkaaGreatDoorRFrom
set_option linter.unusedSimpArgs false
set_option linter.unusedVariables false
namespace Go.Proofs.YtcnnpedmccjdkaaGreatDoor
open Go.RowKit
def hexIx (c : UInt8) : Nat := (unhexd c).getD 16
theorem hexIx_le (c : UInt8) : hexIx c ≤ 16 := by
  have h : ∀ n : Fin 256, hexIx (UInt8.ofNat n.val) ≤ 16 := by decide +kernel
  have := h ⟨c.toNat, UInt8.toNat_lt c⟩
  simpa using this
theorem hexIx_get (c : UInt8) (d : Nat) (hd : d < 16) : (hexd d = c) ↔ d = hexIx c := by
  have h : ∀ n : Fin 256, ∀ d : Fin 16, (hexd d.val = UInt8.ofNat n.val) ↔ d.val = hexIx (UInt8.ofNat n.val) := by decide +kernel
  have := h ⟨c.toNat, UInt8.toNat_lt c⟩ ⟨d, hd⟩
  simpa using this
theorem unhexd_ix (c : UInt8) : unhexd c = if hexIx c < 16 then some (hexIx c) else none := by
  have h : ∀ n : Fin 256, unhexd (UInt8.ofNat n.val) = if hexIx (UInt8.ofNat n.val) < 16 then some (hexIx (UInt8.ofNat n.val)) else none := by decide +kernel
  have := h ⟨c.toNat, UInt8.toNat_lt c⟩
  simpa using this
theorem unhexN_cons (a : Nat) (c : UInt8) (t : B) : unhexN a (c :: t) = if hexIx c < 16 then unhexN (16 * a + hexIx c) t else none := by
  show (match unhexd c with | some x => unhexN (16 * a + x) t | none => none) = _
  rw [unhexd_ix]
  by_cases h : hexIx c < 16
  · rw [if_pos h, if_pos h]
  · rw [if_neg h, if_neg h]
theorem floatOf_hexs {t : B} {x : Nat} (h : floatOf? (48 :: 120 :: t) = some x) : unhexN 0 t = some x ∧ t.length = 16 := by
  unfold floatOf? at h
  rw [if_neg (by simp), if_neg (by simp), if_neg (by simp), if_neg (by simp)] at h
  have hi : (48 :: 120 :: t).getLast? = some 46 → intOf? (48 :: 120 :: t).dropLast = none := by
    intro hl
    cases t with
    | nil => simp at hl
    | cons a t => rfl
  by_cases hl : (48 :: 120 :: t).getLast? = some 46
  · rw [if_pos hl, hi hl] at h; cases h
  · rw [if_neg hl] at h
    change (if t.length = 16 then match unhexN 0 t with
        | some u => if isNaN u = false ∧ u ≠ finf ∧ u ≠ fninf ∧ fwhole u = none then some u else none
        | none => none
      else none) = some x at h
    by_cases hlen : t.length = 16
    · rw [if_pos hlen] at h
      cases hu : unhexN 0 t with
      | none => rw [hu] at h; cases h
      | some u =>
        rw [hu] at h
        change (if isNaN u = false ∧ u ≠ finf ∧ u ≠ fninf ∧ fwhole u = none then some u else none) = some x at h
        by_cases hc : isNaN u = false ∧ u ≠ finf ∧ u ≠ fninf ∧ fwhole u = none
        · rw [if_pos hc] at h; exact ⟨h, hlen⟩
        · rw [if_neg hc] at h; cases h
    · rw [if_neg hlen] at h; cases h
theorem floatOf_dots {l : B} {x : Nat} (h : floatOf? l = some x) (h1 : l ≠ [110, 97, 110]) (h2 : l ≠ [105, 110, 102]) (h3 : l ≠ [45, 105, 110, 102]) (h4 : l ≠ [45, 48, 46])
    (hx : ¬ (l.length = 18 ∧ l.take 2 = [48, 120])) : ∃ n : Int, n.natAbs ≤ 9007199254740992 ∧ l = Lib.itoa n ++ [46] ∧ x = ffromInt n := by
  unfold floatOf? at h
  rw [if_neg h1, if_neg h2, if_neg h3, if_neg h4] at h
  split at h
  · rename_i hl
    split at h
    · rename_i n hn
      split at h
      · rename_i hb
        cases h
        refine ⟨n, hb, ?_, rfl⟩
        rw [(itoa_of_intOf hn).1]
        have hne : l ≠ [] := by intro e; rw [e] at hl; cases hl
        rw [List.getLast?_eq_some_getLast hne] at hl
        have := List.dropLast_concat_getLast hne
        rw [Option.some.inj hl] at this
        exact this.symm
      · cases h
    · cases h
  · split at h
    · rename_i t
      split at h
      · rename_i hlen
        exact absurd ⟨by simp [hlen], rfl⟩ hx
      · cases h
    · cases h
theorem itoa_sign (n : Int) : Lib.itoa n = (if n < 0 then [45] else []) ++ Lib.decDigits n.natAbs := by
  unfold Lib.itoa
  split
  · rfl
  · rw [List.nil_append]; congr 1; omega
theorem dec_digits (n : Nat) : ∀ c ∈ Lib.decDigits n, 48 ≤ c.toNat ∧ c.toNat ≤ 57 := by
  induction n using Nat.strongRecOn with
  | _ n ih =>
    by_cases h : n < 10
    · rw [dec_small h]; intro c hc; rw [List.mem_singleton.1 hc, ofNat_toNat (by omega)]; omega
    · rw [dec_big h]; intro c hc
      rcases List.mem_append.1 hc with hc | hc
      · exact ih _ (by omega) c hc
      · rw [List.mem_singleton.1 hc, ofNat_toNat (by omega)]; omega
theorem dec_len_le (n : Nat) (k : Nat) (hk : 1 ≤ k) (h : n < 10 ^ k) : (Lib.decDigits n).length ≤ k := by
  induction k generalizing n with
  | zero => omega
  | succ k ih =>
    by_cases h10 : n < 10
    · rw [dec_small h10]; simp
    · rw [dec_big h10, List.length_append, List.length_singleton]
      rcases Nat.eq_zero_or_pos k with rfl | hk0
      · simp at h; omega
      · have := ih (n / 10) hk0 (by rw [Nat.pow_succ] at h; omega)
        omega
theorem dec_ne (n : Nat) : Lib.decDigits n ≠ [] := by
  intro e
  have := Lib.nDigits_pos n
  rw [← Lib.decDigits_length, e] at this; simp at this
theorem dec_head_ne (n : Nat) : ∀ c t, Lib.decDigits n = c :: t → c ≠ 45 := by
  intro c t h e
  have := dec_digits n c (by rw [h]; simp)
  rw [e] at this; exact absurd this.1 (by decide)
/-- The sign and the digits of a text. -/
def bodyOf : B → B
  | 45 :: t => t
  | l => l
def negOf : B → Bool
  | 45 :: _ => true
  | _ => false
theorem bodyOf_itoa (n : Int) : bodyOf (Lib.itoa n) = Lib.decDigits n.natAbs ∧ negOf (Lib.itoa n) = decide (n < 0) := by
  rw [itoa_sign]
  by_cases h : n < 0
  · rw [if_pos h]; exact ⟨rfl, by simp [negOf, h]⟩
  · rw [if_neg h, List.nil_append]
    cases hd : Lib.decDigits n.natAbs with
    | nil => exact absurd hd (dec_ne _)
    | cons c t =>
      have hc := dec_head_ne _ c t hd
      constructor
      · unfold bodyOf; split
        · rename_i e; injection e with e _; exact absurd e hc
        · rfl
      · unfold negOf; split
        · rename_i e; injection e with e _; exact absurd e hc
        · simp [h]
theorem digitsVal_take {d : B} {k v : Nat} (hk : k < d.length) (hv : digitsVal 0 (d.take k) = some v) :
    (48 ≤ d[k].toNat ∧ d[k].toNat ≤ 57 → digitsVal 0 (d.take (k + 1)) = some (10 * v + (d[k].toNat - 48))) ∧ (¬ (48 ≤ d[k].toNat ∧ d[k].toNat ≤ 57) → digitsVal 0 d = none) := by
  have hs : d.take (k + 1) = d.take k ++ [d[k]] := List.take_succ_eq_append_getElem hk
  refine ⟨fun h => ?_, fun h => ?_⟩
  · rw [hs, digitsVal_snoc, hv]
    show (if digit d[k] then _ else _) = _
    rw [if_pos ((digit_iff _).2 h)]
  · have key : ∀ (t : B) (a : Nat), digitsVal a (d.take (k + 1) ++ t) = none := by
      intro t
      have h0 : digitsVal 0 (d.take (k + 1)) = none := by
        rw [hs, digitsVal_snoc, hv]
        show (if digit d[k] then _ else _) = _
        rw [if_neg (fun e => h ((digit_iff _).1 e))]
      have mono : ∀ (x : B) (a : Nat), digitsVal 0 x = none → digitsVal a (x ++ t) = none := by
        intro x
        have gen : ∀ (x : B) (a b : Nat), digitsVal a x = none → digitsVal b (x ++ t) = none := by
          intro x
          induction x with
          | nil => intro a b h; cases h
          | cons c x ih =>
            intro a b h
            unfold digitsVal at h ⊢
            simp only [List.cons_append]
            split
            · rename_i hd; rw [if_pos hd] at h; exact ih _ _ h
            · rfl
        intro a h; exact gen x 0 a h
      exact fun a => mono _ a h0
    have := key (d.drop (k + 1)) 0
    rwa [List.take_append_drop] at this
theorem digitsVal_lt {d : B} {v : Nat} (h : digitsVal 0 d = some v) : v < 10 ^ d.length := by
  have gen : ∀ (d : B) (a v : Nat), digitsVal a d = some v → v < (a + 1) * 10 ^ d.length := by
    intro d
    induction d with
    | nil => intro a v h; cases h; simp
    | cons c d ih =>
      intro a v h
      unfold digitsVal at h
      split at h
      · rename_i hd
        have hd := (digit_iff c).1 hd
        have := ih _ _ h
        rw [List.length_cons, Nat.pow_succ, Nat.mul_comm (10 ^ d.length) 10, ← Nat.mul_assoc]
        refine Nat.lt_of_lt_of_le this (Nat.mul_le_mul_right _ ?_)
        omega
      · cases h
  have := gen d 0 v h
  simpa using this
theorem dec_val2 (n : Nat) : digitsVal 0 (Lib.decDigits n) = some n := dec_val n
end Go.Proofs.YtcnnpedmccjdkaaGreatDoor
