/- Plain laws: the text of a token stands at its place. -/
import Derived.Test.YtcnnpedmccjdkaaGreatDoorBlankP
import Derived.Test.YtcnnpedmccjdkaaGreatDoorText3
set_option linter.unusedSimpArgs false
set_option linter.unusedVariables false
namespace Go.Proofs.YtcnnpedmccjdkaaGreatDoor
open Go.RowKit
/-- The text of a token, as far as it is looked at. -/
def textOf (t : Tok) : B :=
  if t.kind = 0 then 36 :: t.text else if t.kind = 3 then t.text else if t.kind = 1 then vprint t.val else if t.kind = 4 then [40] else if t.kind = 5 then [41] else []
theorem vzero_wf : vright vzero = true ∧ vwf vzero := ⟨rfl, by decide, by decide, by decide⟩
theorem lexTok_text {l : B} {x : Tok} {n : Nat} (h : lexTok l = some (x, n)) : (∃ r, l = textOf x ++ r) ∧ vright x.val = true ∧ vwf x.val ∧ x.text.length ≤ l.length := by
  unfold lexTok at h
  split at h
  case h_9 =>
    rename_i t
    split at h
    · cases h
      refine ⟨⟨t.dropWhile small, ?_⟩, vzero_wf.1, vzero_wf.2, ?_⟩
      · show 36 :: t = 36 :: (t.takeWhile small ++ t.dropWhile small)
        rw [List.takeWhile_append_dropWhile]
      · have := (List.takeWhile_prefix small (l := t)).length_le
        simp only [List.length_cons]; omega
    · cases h
  case h_10 =>
    split at h
    · cases h
    · obtain ⟨y, hy, he⟩ := Option.map_eq_some_iff.1 h
      cases he
      unfold lexWord at hy
      split at hy
      · cases hy
        exact ⟨⟨l.dropWhile wordy, (List.takeWhile_append_dropWhile (p := wordy)).symm⟩, vzero_wf.1, vzero_wf.2, (List.takeWhile_prefix wordy).length_le⟩
      · obtain ⟨v, hv, he⟩ := Option.map_eq_some_iff.1 hy
        cases he
        obtain ⟨h1, h2, h3⟩ := vprint_vparse hv
        refine ⟨⟨l.dropWhile wordy, ?_⟩, h1, h2, by simp⟩
        show l = vprint v ++ _
        rw [h3, List.takeWhile_append_dropWhile]
  all_goals (cases h; exact ⟨⟨_, rfl⟩, vzero_wf.1, vzero_wf.2, by simp⟩)
/-- Where the tokens stand in a text that begins at a. -/
def stands (l : B) (a : Nat) (t : Tok) : Prop :=
  ∃ p : Nat, t.at_ = ((a + p : Nat) : Int) ∧ (∃ c r, l.drop p = c :: r ∧ c ≠ 32) ∧ (∃ r, l.drop p = textOf t ++ r) ∧ vright t.val = true ∧ vwf t.val ∧ t.text.length ≤ l.length
theorem stands_drop {l : B} {a d : Nat} {t : Tok} (h : stands (l.drop d) (a + d) t) : stands l a t := by
  obtain ⟨p, h1, ⟨c, r, h2, h3⟩, ⟨r', h4⟩, h5, h6, h7⟩ := h
  rw [List.drop_drop] at h2 h4
  exact ⟨d + p, by omega, ⟨c, r, h2, h3⟩, ⟨r', h4⟩, h5, h6, by rw [List.length_drop] at h7; omega⟩
theorem lexG_stands : ∀ (n : Nat) (l : B), l.length = n → ∀ (a : Nat) (ts : List Tok), lexG l a = .ok ts → ∀ t ∈ ts, stands l a t := by
  intro n
  induction n using Nat.strongRecOn with
  | ind n ih =>
    intro l hl a ts h
    cases l with
    | nil => cases h; simp
    | cons c t =>
      simp only [List.length_cons] at hl
      by_cases hc : c = 32
      · subst hc
        rw [lexG_sp] at h
        intro x hx
        exact stands_drop (d := 1) (ih t.length (by omega) t rfl _ ts h x hx)
      · cases ht : lexTok (c :: t) with
        | none => rw [lexG_none _ hc ht] at h; cases h
        | some kn =>
          obtain ⟨k, m⟩ := kn
          have hm := lexTok_len ht
          simp only [List.length_cons] at hm
          rw [lexG_tok _ hc ht] at h
          cases hr : lexG ((c :: t).drop m) (a + m) with
          | error e => rw [hr] at h; cases h
          | ok y =>
            rw [hr] at h; cases h
            intro x hx
            rcases List.mem_append.1 hx with hx | hx
            · rw [List.mem_singleton.1 hx]
              obtain ⟨⟨r, h1⟩, h2, h3, h4⟩ := lexTok_text ht
              exact ⟨0, by simp, ⟨c, t, rfl, hc⟩, ⟨r, h1⟩, h2, h3, h4⟩
            · exact stands_drop (d := m) (ih _ (by rw [List.length_drop]; simp; omega) _ rfl _ y hr x hx)
theorem lexS_stands {l : B} {ts : List Tok} (h : lexS l = .ok ts) : (∀ t ∈ ts, stands l 0 t) ∧ incr 0 ts ∧ ts.length ≤ l.length ∧ l.length ≤ 2000 := by
  obtain ⟨h1, h2⟩ := lexS_count2 h
  rw [lexS_G h2] at h
  exact ⟨lexG_stands _ _ rfl 0 ts h, lexG_incr _ _ rfl 0 ts h, h1, h2⟩
theorem incr_at : ∀ {ts : List Tok} {a : Nat}, incr a ts → ∀ {k : Nat} {t u : Tok}, ts[k]? = some t → ts[k + 1]? = some u → (∀ x ∈ ts, 0 ≤ x.at_) → t.at_ < u.at_
  | [], _, _, _, _, _, h, _, _ => by simp at h
  | x :: r, a, h, 0, t, u, h1, h2, hn => by
    simp at h1 h2
    subst h1
    cases r with
    | nil => simp at h2
    | cons y r =>
      simp at h2
      subst h2
      have := h.2.1
      have := hn x (by simp)
      omega
  | x :: r, a, h, k + 1, t, u, h1, h2, hn => incr_at h.2 (k := k) (by simpa using h1) (by simpa using h2) (fun y hy => hn y (by simp [hy]))
end Go.Proofs.YtcnnpedmccjdkaaGreatDoor
