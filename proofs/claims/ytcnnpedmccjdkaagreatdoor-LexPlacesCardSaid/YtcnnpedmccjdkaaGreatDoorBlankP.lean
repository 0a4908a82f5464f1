/- Plain laws: blanks put between tokens change nothing but places. -/
import Derived.Test.YtcnnpedmccjdkaaGreatDoorCount
set_option linter.unusedSimpArgs false
set_option linter.unusedVariables false
namespace Go.Proofs.YtcnnpedmccjdkaaGreatDoor
open Go.RowKit
theorem takeWhile_take {p : UInt8 → Bool} (l : B) : l.take (l.takeWhile p).length = l.takeWhile p := by
  induction l with
  | nil => rfl
  | cons c t ih =>
    by_cases h : p c = true
    · rw [List.takeWhile_cons_of_pos h, List.length_cons, List.take_succ_cons, ih]
    · rw [List.takeWhile_cons_of_neg h]; rfl
theorem takeWhile_next {p : UInt8 → Bool} (l : B) : ∀ d, (l.drop (l.takeWhile p).length).head? = some d → p d = false := by
  induction l with
  | nil => intro d h; simp at h
  | cons c t ih =>
    intro d h
    by_cases hc : p c = true
    · rw [List.takeWhile_cons_of_pos hc, List.length_cons, List.drop_succ_cons] at h; exact ih d h
    · rw [List.takeWhile_cons_of_neg hc] at h
      simp at h; subst h; simpa using hc
theorem takeWhile_app {p : UInt8 → Bool} (x R : B) (hx : ∀ c ∈ x, p c = true) (hR : ∀ d, R.head? = some d → p d = false) : (x ++ R).takeWhile p = x := by
  rw [List.takeWhile_append_of_pos hx]
  cases R with
  | nil => simp
  | cons d u => rw [List.takeWhile_cons_of_neg (by simp [hR d rfl])]; simp
theorem mem_takeWhile {p : UInt8 → Bool} (l : B) : ∀ c ∈ l.takeWhile p, p c = true := by
  induction l with
  | nil => simp
  | cons a t ih =>
    intro c hc
    by_cases h : p a = true
    · rw [List.takeWhile_cons_of_pos h] at hc
      rcases List.mem_cons.1 hc with rfl | hc
      · exact h
      · exact ih c hc
    · rw [List.takeWhile_cons_of_neg h] at hc; simp at hc
/-- What may follow a token in place of what followed it. -/
def follows (l : B) (n : Nat) (R : B) : Prop := ∀ d, R.head? = some d → (l.drop n).head? = some d ∨ d = 32
theorem hp_stab {l R : B} {n : Nat} (hn : 1 ≤ n) (hl : n ≤ l.length) (hR : follows l n R) (j : Nat) (hj : j < 6) (h : Lib.hasPrefix (l.take n ++ R) (opsL.getD j []) = true) : Lib.hasPrefix l (opsL.getD j []) = true := by
  cases l with
  | nil => simp at hl; omega
  | cons c t =>
    obtain ⟨m, rfl⟩ : ∃ m, n = m + 1 := ⟨n - 1, by omega⟩
    rw [List.take_succ_cons] at h
    have hd : ∀ d u, t.take m ++ R = d :: u → d = 61 → ∃ v, t = 61 :: v := by
      intro d u e hd
      subst hd
      cases m with
      | zero =>
        rw [List.take_zero, List.nil_append] at e
        rcases hR 61 (by rw [e]; rfl) with h1 | h1
        · rw [List.drop_succ_cons, List.drop_zero] at h1
          cases t with
          | nil => simp at h1
          | cons a v => simp at h1; exact ⟨v, by rw [h1]⟩
        · exact absurd h1 (by decide)
      | succ m =>
        cases t with
        | nil => simp at hl
        | cons a v => rw [List.take_succ_cons, List.cons_append] at e; injection e with e1 _; exact ⟨v, by rw [e1]⟩
    rcases (show j = 0 ∨ j = 1 ∨ j = 2 ∨ j = 3 ∨ j = 4 ∨ j = 5 by omega) with rfl | rfl | rfl | rfl | rfl | rfl
    · obtain ⟨u, e⟩ := hp_iff.1 h; injection e with e1 e2 <;> exact hp_iff.2 ⟨t, by first | (rw [e1]; done) | (rw [e1]; rfl)⟩
    · obtain ⟨u, e⟩ := hp_iff.1 h; injection e with e1 e2; obtain ⟨v, hv⟩ := hd _ _ e2 rfl; exact hp_iff.2 ⟨v, by rw [e1, hv]; rfl⟩
    · obtain ⟨u, e⟩ := hp_iff.1 h; injection e with e1 e2; obtain ⟨v, hv⟩ := hd _ _ e2 rfl; exact hp_iff.2 ⟨v, by rw [e1, hv]; rfl⟩
    · obtain ⟨u, e⟩ := hp_iff.1 h; injection e with e1 e2; obtain ⟨v, hv⟩ := hd _ _ e2 rfl; exact hp_iff.2 ⟨v, by rw [e1, hv]; rfl⟩
    · obtain ⟨u, e⟩ := hp_iff.1 h; injection e with e1 e2 <;> exact hp_iff.2 ⟨t, by first | (rw [e1]; done) | (rw [e1]; rfl)⟩
    · obtain ⟨u, e⟩ := hp_iff.1 h; injection e with e1 e2 <;> exact hp_iff.2 ⟨t, by first | (rw [e1]; done) | (rw [e1]; rfl)⟩
theorem noOps_stab {l R : B} {n k : Nat} (hn : 1 ≤ n) (hl : n ≤ l.length) (hR : follows l n R) (hk : k ≤ 6) (h : noOps l k) : noOps (l.take n ++ R) k := fun j hj => by
  cases hp : Lib.hasPrefix (l.take n ++ R) (opsL.getD j []) with
  | false => rfl
  | true => have h1 := hp_stab hn hl hR j (by omega) hp; rw [h j hj] at h1; cases h1
theorem lexTok_stab {l R : B} {x : Tok} {n : Nat} (h : lexTok l = some (x, n)) (hR : follows l n R) : lexTok (l.take n ++ R) = some (x, n) := by
  have hn := lexTok_len h
  rcases noOps_or l 6 with ho | ⟨k, hk, ho, hp⟩
  · have ho2 := noOps_stab (k := 6) hn.1 hn.2 hR (by omega) ho
    cases l with
    | nil => simp at hn; omega
    | cons c t =>
      obtain ⟨m, rfl⟩ : ∃ m, n = m + 1 := ⟨n - 1, by omega⟩
      rw [lexTok_else ho] at h
      rw [List.take_succ_cons, List.cons_append] at ho2 ⊢
      rw [lexTok_else ho2]
      unfold lexTokE at h ⊢
      by_cases c1 : c = 40
      · rw [if_pos c1] at h ⊢; exact h
      by_cases c2 : c = 41
      · rw [if_neg c1, if_pos c2] at h ⊢; exact h
      by_cases c3 : c = 36
      · rw [if_neg c1, if_neg c2, if_pos c3] at h ⊢
        have hm : m = (t.takeWhile small).length := by
          split at h
          · injection h with h; injection h with _ h; omega
          · cases h
        have hw : (t.take m ++ R).takeWhile small = t.takeWhile small := by
          rw [hm, takeWhile_take]
          refine takeWhile_app _ _ (mem_takeWhile t) fun d hd => ?_
          rcases hR d hd with h1 | h1
          · rw [List.drop_succ_cons, hm] at h1; exact takeWhile_next t d h1
          · subst h1; decide
        rw [hw]; exact h
      · rw [if_neg c1, if_neg c2, if_neg c3] at h ⊢
        split at h
        · cases h
        · rename_i hne
          obtain ⟨y, hy, e⟩ := Option.map_eq_some_iff.1 h
          injection e with e1 e2
          have hw : (c :: (t.take m ++ R)).takeWhile wordy = (c :: t).takeWhile wordy := by
            rw [← List.cons_append, ← List.take_succ_cons, ← e2, takeWhile_take]
            refine takeWhile_app _ _ (mem_takeWhile _) fun d hd => ?_
            rcases hR d hd with h1 | h1
            · rw [← e2] at h1; exact takeWhile_next (c :: t) d h1
            · subst h1; decide
          rw [hw, if_neg hne]; exact h
  · have ho2 := noOps_stab (k := k) hn.1 hn.2 hR (by omega) ho
    have h1 := lexTok_op hk ho hp
    rw [h] at h1
    injection h1 with h1
    injection h1 with h1 h2
    subst h1 h2
    refine lexTok_op hk ho2 ?_
    obtain ⟨u, e⟩ := hp_iff.1 hp
    refine hp_iff.2 ⟨R, ?_⟩
    rw [e, List.take_append_of_le_length (Nat.le_refl _), List.take_length]
/-- A text with k blanks before each of the places P. -/
def ins (k : Nat) (s : B) : List Nat → Nat → B
  | [], last => s.drop last
  | p :: ps, last => (s.drop last).take (p - last) ++ (List.replicate k 32 ++ ins k s ps p)
def places (ts : List Tok) : List Nat := ts.map fun t => t.at_.toNat
/-- The tokens stand one behind the other, from a place on. -/
def incr : Nat → List Tok → Prop
  | _, [] => True
  | a, t :: r => (a : Int) ≤ t.at_ ∧ incr (t.at_.toNat + 1) r
theorem incr_mono {a b : Nat} (hab : b ≤ a) : ∀ {ts : List Tok}, incr a ts → incr b ts
  | [], _ => trivial
  | t :: r, ⟨h1, h2⟩ => ⟨by omega, h2⟩
theorem lexG_incr : ∀ (n : Nat) (l : B), l.length = n → ∀ (a : Nat) (ts : List Tok), lexG l a = .ok ts → incr a ts := by
  intro n
  induction n using Nat.strongRecOn with
  | ind n ih =>
    intro l hl a ts h
    cases l with
    | nil => cases h; trivial
    | cons c t =>
      simp only [List.length_cons] at hl
      by_cases hc : c = 32
      · subst hc
        rw [lexG_sp] at h
        exact incr_mono (by omega) (ih t.length (by omega) t rfl _ ts h)
      · cases ht : lexTok (c :: t) with
        | none => rw [lexG_none _ hc ht] at h; cases h
        | some kn =>
          obtain ⟨k, m⟩ := kn
          have hm := lexTok_len ht
          simp only [List.length_cons] at hm
          rw [lexG_tok _ hc ht] at h
          cases hr : lexG ((c :: t).drop m) (a + m) with
          | error e => rw [hr] at h; cases h
          | ok y =>
            rw [hr] at h; cases h
            refine ⟨Int.le_refl _, ?_⟩
            exact incr_mono (by simp; omega) (ih _ (by rw [List.length_drop]; simp; omega) _ rfl _ y hr)
theorem ins_shift (k : Nat) (s : B) (a n : Nat) (ts : List Tok) (h : incr (a + n) ts) : ins k s (places ts) a = (s.drop a).take n ++ ins k s (places ts) (a + n) := by
  cases ts with
  | nil =>
    show s.drop a = _ ++ s.drop (a + n)
    rw [← List.drop_drop, List.take_append_drop]
  | cons t r =>
    have h1 := h.1
    show (s.drop a).take (t.at_.toNat - a) ++ _ = (s.drop a).take n ++ ((s.drop (a + n)).take (t.at_.toNat - (a + n)) ++ _)
    rw [← List.append_assoc ((s.drop a).take n)]
    congr 1
    rw [← List.drop_drop, show t.at_.toNat - a = n + (t.at_.toNat - (a + n)) by omega, List.take_add]
theorem ins_head (k : Nat) (s : B) (a : Nat) (ha : a ≤ s.length) (ts : List Tok) (h : incr a ts) (hlt : ∀ t ∈ ts, t.at_ < s.length) : ∀ d, (ins k s (places ts) a).head? = some d → (s.drop a).head? = some d ∨ d = 32 := by
  have key : ∀ (r : List Tok), incr (a + 1) r → (∀ t ∈ r, t.at_ < s.length) → ∀ d, (ins k s (places r) a).head? = some d → (s.drop a).head? = some d := by
    intro r hr hl d hd
    rw [ins_shift k s a 1 r hr] at hd
    cases hs : s.drop a with
    | nil =>
      have : s.length ≤ a := by
        have := congrArg List.length hs
        rw [List.length_drop] at this; simp at this; omega
      cases r with
      | nil => rw [hs] at hd; simp [places, ins] at hd; rw [List.getElem?_eq_none (by omega)] at hd; cases hd
      | cons t u => have h1 := hr.1; have h2 := hl t (by simp); omega
    | cons c u => rw [hs] at hd; simpa using hd
  cases ts with
  | nil => intro d hd; exact .inl hd
  | cons t r =>
    intro d hd
    by_cases hta : t.at_.toNat = a
    · have h1 : ins k s (places (t :: r)) a = List.replicate k 32 ++ ins k s (places r) a := by
        show (s.drop a).take (t.at_.toNat - a) ++ (List.replicate k 32 ++ ins k s (places r) t.at_.toNat) = _
        rw [hta, Nat.sub_self, List.take_zero, List.nil_append]
      rw [h1] at hd
      cases k with
      | zero => exact .inl (key r (hta ▸ h.2) (fun x hx => hlt x (by simp [hx])) d hd)
      | succ k => simp [List.replicate_succ] at hd; exact .inr hd.symm
    · exact .inl (key (t :: r) ⟨by have := h.1; omega, h.2⟩ hlt d hd)
def clr (t : Tok) : Tok := { t with at_ := 0 }
theorem lexG_sps (M : B) : ∀ (k q : Nat), lexG (List.replicate k 32 ++ M) q = lexG M (q + k)
  | 0, q => rfl
  | k + 1, q => by
    rw [List.replicate_succ, List.cons_append, lexG_sp, lexG_sps M k]
    congr 1; omega
theorem lexG_ins (k : Nat) (s : B) : ∀ (n a : Nat), s.length - a = n → a ≤ s.length → ∀ (ts : List Tok), lexG (s.drop a) a = .ok ts → (∀ t ∈ ts, t.at_ < s.length) → ∀ q : Nat,
    ∃ ts', lexG (ins k s (places ts) a) q = .ok ts' ∧ ts'.map clr = ts.map clr := by
  intro n
  induction n using Nat.strongRecOn with
  | ind n ih =>
    intro a hn ha ts h hlt q
    cases hs : s.drop a with
    | nil =>
      rw [hs] at h
      cases h
      exact ⟨[], by show lexG (s.drop a) q = _; rw [hs]; rfl, rfl⟩
    | cons c t =>
      have hal : a < s.length := by
        have := congrArg List.length hs
        rw [List.length_drop] at this; simp at this; omega
      have hinc := lexG_incr _ _ rfl a ts h
      rw [hs] at h
      by_cases hc : c = 32
      · subst hc
        rw [lexG_sp] at h
        have ht : s.drop (a + 1) = t := by rw [← List.drop_drop, hs]; rfl
        rw [← ht] at h
        have hinc1 := lexG_incr _ _ rfl (a + 1) ts h
        obtain ⟨ts', h1, h2⟩ := ih (s.length - (a + 1)) (by omega) (a + 1) rfl (by omega) ts h hlt (q + 1)
        refine ⟨ts', ?_, h2⟩
        rw [ins_shift k s a 1 ts hinc1, hs]
        exact h1
      · cases htok : lexTok (c :: t) with
        | none => rw [lexG_none _ hc htok] at h; cases h
        | some xm =>
          obtain ⟨x, m⟩ := xm
          have hm := lexTok_len htok
          rw [lexG_tok _ hc htok] at h
          have hdm : (c :: t).drop m = s.drop (a + m) := by rw [← List.drop_drop, hs]
          have hlen : (c :: t).length = s.length - a := by rw [← hs, List.length_drop]
          rw [hdm] at h
          cases hr : lexG (s.drop (a + m)) (a + m) with
          | error e => rw [hr] at h; cases h
          | ok y =>
            rw [hr] at h
            cases h
            have hlty : ∀ t ∈ y, t.at_ < s.length := fun z hz => hlt z (by simp [hz])
            have hincy := lexG_incr _ _ rfl (a + m) y hr
            obtain ⟨y', h1, h2⟩ := ih (s.length - (a + m)) (by omega) (a + m) rfl (by omega) y hr hlty (q + k + m)
            have hR : follows (c :: t) m (ins k s (places y) (a + m)) := fun d hd => by
              rw [hdm]; exact ins_head k s (a + m) (by omega) y hincy hlty d hd
            have hst := lexTok_stab htok hR
            refine ⟨{ x with at_ := ((q + k : Nat) : Int) } :: y', ?_, ?_⟩
            · have hi : ins k s (places ([{ x with at_ := (a : Int) }] ++ y)) a = List.replicate k 32 ++ ((c :: t).take m ++ ins k s (places y) (a + m)) := by
                show (s.drop a).take ((a : Int).toNat - a) ++ (List.replicate k 32 ++ ins k s (places y) (a : Int).toNat) = _
                rw [Int.toNat_natCast, Nat.sub_self, List.take_zero, List.nil_append, ins_shift k s a m y hincy, hs]
              rw [hi, lexG_sps]
              obtain ⟨m', rfl⟩ : ∃ m', m = m' + 1 := ⟨m - 1, by omega⟩
              rw [List.take_succ_cons, List.cons_append] at hst ⊢
              rw [lexG_tok _ hc hst]
              have hdr : (c :: (t.take m' ++ ins k s (places y) (a + (m' + 1)))).drop (m' + 1) = ins k s (places y) (a + (m' + 1)) := by
                rw [List.drop_succ_cons, List.drop_append_of_le_length (by simp at hm ⊢; omega), List.drop_take, Nat.sub_self, List.take_zero, List.nil_append]
              rw [hdr, h1]
              rfl
            · simp [h2, clr]
theorem ins_len (k : Nat) (s : B) : ∀ (ts : List Tok) (a : Nat), incr a ts → a ≤ s.length → (∀ t ∈ ts, t.at_ < s.length) → (ins k s (places ts) a).length = s.length - a + k * ts.length
  | [], a, _, ha, _ => by show (s.drop a).length = _; simp
  | t :: r, a, h, ha, hl => by
    have h1 := h.1
    have h2 := hl t (by simp)
    have ih := ins_len k s r t.at_.toNat (incr_mono (by omega) h.2) (by omega) (fun x hx => hl x (by simp [hx]))
    show ((s.drop a).take (t.at_.toNat - a) ++ (List.replicate k 32 ++ ins k s (places r) t.at_.toNat)).length = _
    rw [List.length_append, List.length_append, ih, List.length_take, List.length_drop, List.length_replicate, List.length_cons, Nat.mul_succ]
    omega
/-- Blanks between the tokens. -/
theorem lexS_blanks {l : B} {ts : List Tok} (k : Nat) (hk : k ≤ 2) (hl : l.length ≤ 600) (h : lexS l = .ok ts) (hn : ts.length ≤ l.length) : ∃ ts', lexS (ins k l (places ts) 0) = .ok ts' ∧ ts'.map clr = ts.map clr := by
  have hat : ∀ t ∈ ts, t.at_ < l.length := fun t ht => (lexS_at2 h t ht).2
  rw [lexS_G (by omega)] at h
  have hi := lexG_incr _ _ rfl 0 ts h
  obtain ⟨ts', h1, h2⟩ := lexG_ins k l _ 0 rfl (by omega) ts (by rw [List.drop_zero]; exact h) hat 0
  refine ⟨ts', ?_, h2⟩
  rw [lexS_G, h1]
  rw [ins_len k l ts 0 hi (by omega) hat]
  have : k * ts.length ≤ 2 * ts.length := Nat.mul_le_mul_right _ hk
  omega
end Go.Proofs.YtcnnpedmccjdkaaGreatDoor
