/- Plain laws of the tokens of joined texts. -/
import Derived.Test.YtcnnpedmccjdkaaGreatDoorLexE
set_option linter.unusedSimpArgs false
set_option linter.unusedVariables false
namespace Go.Proofs.YtcnnpedmccjdkaaGreatDoor
open Go.RowKit
/-- The tokens of a text that begins at a place, without fuel. -/
def lexG (l : B) (at_ : Nat) : Except Nat (List Tok) := lexGo (l.length + 1) l at_
theorem lexGo_fuel : ∀ (f : Nat) (l : B) (at_ f' : Nat), l.length < f → l.length < f' → lexGo f l at_ = lexGo f' l at_
  | 0, l, at_, f', h, _ => absurd h (by omega)
  | f + 1, l, at_, 0, _, h => absurd h (by omega)
  | f + 1, l, at_, f' + 1, h, h' => by
    cases l with
    | nil => rfl
    | cons c t =>
      simp only [List.length_cons] at h h'
      show (if c = 32 then lexGo f t (at_ + 1) else _) = (if c = 32 then lexGo f' t (at_ + 1) else _)
      split
      · exact lexGo_fuel f t _ f' (by omega) (by omega)
      · cases hx : lexTok (c :: t) with
        | none => rfl
        | some xn =>
          obtain ⟨x, n⟩ := xn
          have hn := lexTok_len hx
          simp only [List.length_cons] at hn
          show pre _ (lexGo f ((c :: t).drop n) (at_ + n)) = pre _ (lexGo f' ((c :: t).drop n) (at_ + n))
          rw [lexGo_fuel f ((c :: t).drop n) _ f' (by rw [List.length_drop]; simp; omega) (by rw [List.length_drop]; simp; omega)]
theorem lexG_nil (at_ : Nat) : lexG [] at_ = .ok [] := rfl
theorem lexG_sp (t : B) (at_ : Nat) : lexG (32 :: t) at_ = lexG t (at_ + 1) := rfl
theorem lexG_none {c : UInt8} {t : B} (at_ : Nat) (hc : c ≠ 32) (h : lexTok (c :: t) = none) : lexG (c :: t) at_ = .error at_ := by
  show (if c = 32 then lexGo _ t (at_ + 1) else (match lexTok (c :: t) with | none => .error at_ | some (x, n) => pre [{ x with at_ := at_ }] (lexGo (c :: t).length ((c :: t).drop n) (at_ + n)))) = _
  rw [if_neg hc, h]
theorem lexG_tok {c : UInt8} {t : B} (at_ : Nat) {x : Tok} {n : Nat} (hc : c ≠ 32) (h : lexTok (c :: t) = some (x, n)) :
    lexG (c :: t) at_ = pre [{ x with at_ := at_ }] (lexG ((c :: t).drop n) (at_ + n)) := by
  show (if c = 32 then lexGo _ t (at_ + 1) else (match lexTok (c :: t) with | none => .error at_ | some (x, n) => pre [{ x with at_ := at_ }] (lexGo (c :: t).length ((c :: t).drop n) (at_ + n)))) = _
  rw [if_neg hc, h]
  have hn := lexTok_len h
  show pre _ (lexGo (c :: t).length ((c :: t).drop n) (at_ + n)) = _
  unfold lexG
  rw [lexGo_fuel (c :: t).length _ _ (((c :: t).drop n).length + 1) (by rw [List.length_drop]; simp only [List.length_cons]; omega) (by omega)]
theorem takeWhile_sp {p : UInt8 → Bool} (hp : p 32 = false) (t r : B) : (t ++ 32 :: r).takeWhile p = t.takeWhile p := by
  induction t with
  | nil => simp [hp]
  | cons c t ih => simp only [List.cons_append, List.takeWhile_cons, ih]
theorem hp_sp {l : B} (hl : l ≠ []) (r : B) (j : Nat) (hj : j < 6) : Lib.hasPrefix (l ++ 32 :: r) (opsL.getD j []) = Lib.hasPrefix l (opsL.getD j []) := by
  cases l with
  | nil => exact absurd rfl hl
  | cons c t =>
    cases t with
    | nil =>
      rcases (show j = 0 ∨ j = 1 ∨ j = 2 ∨ j = 3 ∨ j = 4 ∨ j = 5 by omega) with rfl | rfl | rfl | rfl | rfl | rfl <;> simp [opsL, Lib.hasPrefix, List.isPrefixOf]
    | cons d u =>
      rcases (show j = 0 ∨ j = 1 ∨ j = 2 ∨ j = 3 ∨ j = 4 ∨ j = 5 by omega) with rfl | rfl | rfl | rfl | rfl | rfl <;> simp [opsL, Lib.hasPrefix, List.isPrefixOf]
theorem noOps_or (l : B) : ∀ n, noOps l n ∨ ∃ k, k < n ∧ noOps l k ∧ Lib.hasPrefix l (opsL.getD k []) = true
  | 0 => .inl fun j hj => absurd hj (by omega)
  | n + 1 => by
    rcases noOps_or l n with h | ⟨k, h1, h2, h3⟩
    · cases hp : Lib.hasPrefix l (opsL.getD n [])
      · exact .inl (noOps_succ h hp)
      · exact .inr ⟨n, by omega, h, hp⟩
    · exact .inr ⟨k, by omega, h2, h3⟩
theorem lexTok_sp {l : B} (hl : l ≠ []) (r : B) : lexTok (l ++ 32 :: r) = lexTok l := by
  have hno : ∀ k, k ≤ 6 → noOps l k → noOps (l ++ 32 :: r) k := fun k hk h j hj => by rw [hp_sp hl r j (by omega)]; exact h j hj
  rcases noOps_or l 6 with h | ⟨k, hk, h, hp⟩
  · cases l with
    | nil => exact absurd rfl hl
    | cons c t =>
      rw [lexTok_else h]
      have h2 : noOps (c :: (t ++ 32 :: r)) 6 := hno 6 (by omega) h
      rw [List.cons_append, lexTok_else h2]
      unfold lexTokE
      rw [takeWhile_sp (p := small) (by decide) t r, ← List.cons_append, takeWhile_sp (p := wordy) (by decide) (c :: t) r]
  · rw [lexTok_op hk h hp, lexTok_op hk (hno k (by omega) h) (by rw [hp_sp hl r k hk]; exact hp)]
/-- The tokens of two texts with a blank between. -/
theorem lexG_join (r : B) : ∀ (n : Nat) (l : B), l.length = n → ∀ (at_ : Nat) (x : List Tok), lexG l at_ = .ok x → lexG (l ++ 32 :: r) at_ = pre x (lexG r (at_ + l.length + 1)) := by
  intro n
  induction n using Nat.strongRecOn with
  | ind n ih =>
    intro l hl at_ x h
    cases l with
    | nil =>
      rw [lexG_nil] at h
      cases h
      rw [List.nil_append, lexG_sp]
      show _ = pre [] _
      cases lexG r (at_ + 0 + 1) <;> rfl
    | cons c t =>
      simp only [List.length_cons] at hl
      by_cases hc : c = 32
      · subst hc
        rw [lexG_sp] at h
        rw [List.cons_append, lexG_sp, ih t.length (by omega) t rfl _ x h]
        congr 2
        simp only [List.length_cons]; omega
      · cases ht : lexTok (c :: t) with
        | none => rw [lexG_none _ hc ht] at h; cases h
        | some kn =>
          obtain ⟨k, m⟩ := kn
          have hm := lexTok_len ht
          simp only [List.length_cons] at hm
          rw [lexG_tok _ hc ht] at h
          cases hr : lexG ((c :: t).drop m) (at_ + m) with
          | error e => rw [hr] at h; cases h
          | ok y =>
            rw [hr] at h
            cases h
            have ht2 : lexTok (c :: (t ++ 32 :: r)) = some (k, m) := by
              have := lexTok_sp (l := c :: t) (by simp) r
              rw [ht] at this; exact this
            rw [List.cons_append, lexG_tok _ hc ht2]
            have hdrop : (c :: (t ++ 32 :: r)).drop m = (c :: t).drop m ++ 32 :: r := by
              rw [← List.cons_append, List.drop_append_of_le_length (by simp; omega)]
            rw [hdrop, ih ((c :: t).drop m).length (by rw [List.length_drop]; simp; omega) _ rfl _ y hr, pre_pre]
            congr 2
            rw [List.length_drop]; simp only [List.length_cons]; omega
def bump (d : Nat) (t : Tok) : Tok := { t with at_ := t.at_ + d }
def shiftR (d : Nat) : Except Nat (List Tok) → Except Nat (List Tok)
  | .ok ts => .ok (ts.map (bump d))
  | .error e => .error (e + d)
theorem shiftR_pre (d : Nat) (a : List Tok) (r : Except Nat (List Tok)) : shiftR d (pre a r) = pre (a.map (bump d)) (shiftR d r) := by cases r <;> simp [pre, shiftR]
theorem lexG_shift (d : Nat) : ∀ (n : Nat) (l : B), l.length = n → ∀ at_ : Nat, lexG l (at_ + d) = shiftR d (lexG l at_) := by
  intro n
  induction n using Nat.strongRecOn with
  | ind n ih =>
    intro l hl at_
    cases l with
    | nil => rfl
    | cons c t =>
      simp only [List.length_cons] at hl
      by_cases hc : c = 32
      · subst hc
        rw [lexG_sp, lexG_sp, ← ih t.length (by omega) t rfl (at_ + 1)]
        congr 1; omega
      · cases ht : lexTok (c :: t) with
        | none => rw [lexG_none _ hc ht, lexG_none _ hc ht]; rfl
        | some kn =>
          obtain ⟨k, m⟩ := kn
          have hm := lexTok_len ht
          simp only [List.length_cons] at hm
          rw [lexG_tok _ hc ht, lexG_tok _ hc ht, shiftR_pre, ← ih ((c :: t).drop m).length (by rw [List.length_drop]; simp; omega) _ rfl]
          rw [show at_ + d + m = at_ + m + d by omega]
          congr 1 <;> simp [bump]
theorem lexS_G {l : B} (h : l.length ≤ 2000) : lexS l = lexG l 0 := if_neg (by omega)
theorem lexS_join {a b : B} {x y : List Tok} (ha : a.length ≤ 900) (hb : b.length ≤ 900) (hx : lexS a = .ok x) (hy : lexS b = .ok y) : lexS (a ++ 32 :: b) = .ok (x ++ y.map (bump (a.length + 1))) := by
  rw [lexS_G (by omega)] at hx hy
  rw [lexS_G (by simp; omega), lexG_join b _ a rfl 0 x hx]
  rw [show 0 + a.length + 1 = 0 + (a.length + 1) by omega, lexG_shift _ _ b rfl, hy]
  rfl
end Go.Proofs.YtcnnpedmccjdkaaGreatDoor
