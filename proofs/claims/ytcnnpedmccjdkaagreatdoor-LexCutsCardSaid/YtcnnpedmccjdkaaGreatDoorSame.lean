/- Layer 16: two lists of tokens compared. -/
import Derived.Test.YtcnnpedmccjdkaaGreatDoorLawC
set_option linter.unusedSimpArgs false
set_option linter.unusedVariables false
namespace Go.Proofs.YtcnnpedmccjdkaaGreatDoor
open Go.RowKit
/-- A slice that reads as these tokens. -/
def readsT (w : World) (v : Value) (ts : List Tok) : Prop :=
  (v = .slice none 0 0 ∧ ts = []) ∨ ∃ g cap, v = .slice (some ⟨g, 0, none⟩) ts.length cap ∧ g < w.heap.size ∧ ∀ j u, (toksCells ts)[j]? = some u → w.cell? ⟨g, j, none⟩ = some u
theorem readsT_own {w : World} {base : Nat} {e : TypeId} {v : Value} {ts : List Tok} (h : w.ownsRow base e 8 v ts.length (toksCells ts)) : readsT w v ts := by
  rcases h.2 with ⟨h1, h2⟩ | ⟨g, cap, cur, hv, hb, hh, _⟩
  · exact .inl ⟨h1, List.eq_nil_of_length_eq_zero h2⟩
  · refine .inr ⟨g, cap, hv, (Array.getElem?_eq_some_iff.1 hh).1, fun j u hu => ?_⟩
    have := h.cells (g := g) (by rw [hv]; rfl) j u hu
    rw [Addr.add] at this
    split at this
    · rename_i hj; subst hj; exact this
    · simpa using this
theorem readsT_ext {w w' : World} {v : Value} {ts : List Tok} (h : readsT w v ts) (he : Ext w w') : readsT w' v ts := by
  rcases h with h | ⟨g, cap, hv, hg, hc⟩
  · exact .inl h
  · exact .inr ⟨g, cap, hv, Nat.lt_of_lt_of_le hg he.le, fun j u hu => he.cell (hc j u hu)⟩
theorem toksCells_at : ∀ (ts : List Tok) (k : Nat) (t : Tok) (i : Nat), ts[k]? = some t → i < 8 → (toksCells ts)[k * 8 + i]? = (tokCells t)[i]?
  | [], k, t, i, h, _ => by simp at h
  | x :: r, 0, t, i, h, hi => by
    simp at h; subst h
    show (tokCells x ++ toksCells r)[0 * 8 + i]? = _
    rw [List.getElem?_append_left (by simp [tokCells]; omega)]
    congr 1; omega
  | x :: r, k + 1, t, i, h, hi => by
    show (tokCells x ++ toksCells r)[(k + 1) * 8 + i]? = _
    rw [List.getElem?_append_right (by simp [tokCells]; omega)]
    rw [show (k + 1) * 8 + i - (tokCells x).length = k * 8 + i by simp [tokCells]; omega]
    exact toksCells_at r k t i (by simpa using h) hi
/-- The eight cells of a token in a slice. -/
def tokAt (w : World) (g k : Nat) (t : Tok) : Prop :=
  w.cell? ⟨g, k * 8, none⟩ = some (.int .i64 t.kind) ∧ w.cell? ⟨g, k * 8 + 1, none⟩ = some (.int .i64 t.at_) ∧ w.cell? ⟨g, k * 8 + 2, none⟩ = some (.string (bs t.text)) ∧ w.cell? ⟨g, k * 8 + 3, none⟩ = some (.int .i64 t.op) ∧
  w.cell? ⟨g, k * 8 + 4, none⟩ = some (.int .i64 t.val.kind) ∧ w.cell? ⟨g, k * 8 + 5, none⟩ = some (.int .i64 t.val.n) ∧ w.cell? ⟨g, k * 8 + 6, none⟩ = some (.string (bs t.val.s)) ∧ w.cell? ⟨g, k * 8 + 7, none⟩ = some (.int .u64 t.val.f)
theorem tokAt_of {w : World} {g : Nat} {ts : List Tok} (hc : ∀ j u, (toksCells ts)[j]? = some u → w.cell? ⟨g, j, none⟩ = some u) (k : Nat) (t : Tok) (ht : ts[k]? = some t) : tokAt w g k t :=
  have h : ∀ i, i < 8 → ∀ u, (tokCells t)[i]? = some u → w.cell? ⟨g, k * 8 + i, none⟩ = some u := fun i hi u hu => hc _ u ((toksCells_at ts k t i ht hi).trans hu)
  ⟨h 0 (by decide) _ rfl, h 1 (by decide) _ rfl, h 2 (by decide) _ rfl, h 3 (by decide) _ rfl, h 4 (by decide) _ rfl, h 5 (by decide) _ rfl, h 6 (by decide) _ rfl, h 7 (by decide) _ rfl⟩
theorem readsT_len {w : World} {v : Value} {ts : List Tok} (h : readsT w v ts) : ∃ a cap, v = .slice a ts.length cap := by
  rcases h with ⟨h1, h2⟩ | ⟨g, cap, hv, _⟩
  · subst h2; exact ⟨_, _, h1⟩
  · exact ⟨_, _, hv⟩
set_option maxRecDepth 100000 in
set_option maxHeartbeats 1000000 in
theorem Same_any (va vb : Value) (x y : List Tok) (w : World) (ha : readsT w va x) (hb : readsT w vb y) (hx : x.length ≤ 100000) (hy : y.length ≤ 100000) :
    Calls Tryz.prog 16 #[va, vb] w fun e w' => e = .returned (.bool (decide (x = y))) ∧ Ext w w' := by
  have HA := Lib.hid ha
  have HB := Lib.hid hb
  by_cases hl : x.length = y.length
  · obtain ⟨aa, ca, rfl⟩ := readsT_len ha
    obtain ⟨ab, cb, rfl⟩ := readsT_len hb
    clear ha hb
    have hl2 : (y.length : Int) = x.length := by omega
    go_enter Tryz.func16, Tryz.ntmps16
    go_wp2
    go_loopw [13] (fun vi wr => ∃ k : Nat, k ≤ x.length ∧ vi = .int .i64 (k : Int) ∧ x.take k = y.take k ∧ Ext w wr) (fun vi _ => x.length - (intOf vi).toNat)
    case atStart => exact ⟨0, by omega, rfl, by simp, Ext.refl _⟩
    case round =>
      obtain ⟨k, hk, rfl, ht, he⟩ := hrel
      have HT := Lib.hid ht
      clear ht
      by_cases hlt : k < x.length
      · have hb1 : (0 : Int) ≤ (k : Int) := by omega
        have hb2 : (k : Int) < (x.length : Int) := by omega
        obtain ⟨s, hs⟩ : ∃ s, x[k]? = some s := ⟨_, List.getElem?_eq_getElem hlt⟩
        obtain ⟨t, ht⟩ : ∃ t, y[k]? = some t := ⟨_, List.getElem?_eq_getElem (by omega)⟩
        rcases HA.out with ⟨h1, h2⟩ | ⟨g, cap, hv, _, hc⟩
        · subst h2; simp at hlt
        rcases HB.out with ⟨h1, h2⟩ | ⟨g', cap', hv', _, hc'⟩
        · subst h2; simp at ht
        injection hv with e1 e2 e3
        injection hv' with e4 e5 e6
        subst e1 e4
        obtain ⟨k0, k1, k2, k3, k4, k5, k6, k7⟩ := tokAt_of hc k s hs
        obtain ⟨j0, j1, j2, j3, j4, j5, j6, j7⟩ := tokAt_of hc' k t ht
        replace k0 := he.cell k0
        replace k1 := he.cell k1
        replace k2 := he.cell k2
        replace k3 := he.cell k3
        replace k4 := he.cell k4
        replace k5 := he.cell k5
        replace k6 := he.cell k6
        replace k7 := he.cell k7
        replace j0 := he.cell j0
        replace j1 := he.cell j1
        replace j2 := he.cell j2
        replace j3 := he.cell j3
        replace j4 := he.cell j4
        replace j5 := he.cell j5
        replace j6 := he.cell j6
        replace j7 := he.cell j7
        have HS : Hid (x.take (k + 1) = y.take (k + 1) ↔ s = t) := by
          show _ ↔ _
          rw [List.take_add_one, List.take_add_one, hs, ht, HT.out]
          simp
        have HQ : Hid (x = y → s = t) := by intro h; subst h; rw [hs] at ht; exact Option.some.inj ht
        have hq := fun w => (eql_tok s.kind t.kind s.at_ t.at_ (bs s.text) (bs t.text) s.op t.op s.val.kind t.val.kind s.val.n t.val.n (bs s.val.s) (bs t.val.s) s.val.f t.val.f w).2
        rw [eqTok_iff s t] at hq
        clear hc hc' hs ht e2 e3 e5 e6
        go_wp2
        go_quiet (fail)
        clear hq
        cases hd : decide (s = t)
        · have hne : Hid (¬ x = y) := fun h => (of_decide_eq_false hd) (HQ.out h)
          clear hd
          go_wp2
          go_ret
          exact ⟨ret_bool (decide_eq_false hne.out).symm, he.drewN' _⟩
        · have HT2 := Lib.hid (HS.out.2 (of_decide_eq_true hd))
          clear hd
          go_wp2
          go_roundw
          case rel => exact ⟨k + 1, by omega, by simp, HT2.out, he.drewN' _⟩
          case measure => (try simp only [intOf]); (try simp); omega
      · have hkk : k = x.length := by omega
        subst hkk
        go_wp2
        go_ret
        refine ⟨ret_bool ?_, he⟩
        have h := HT.out
        rw [List.take_of_length_le (Nat.le_refl _), List.take_of_length_le (by omega)] at h
        simp [h]
  · obtain ⟨aa, ca, rfl⟩ := readsT_len ha
    obtain ⟨ab, cb, rfl⟩ := readsT_len hb
    clear ha hb
    have q1 : ((x.length : Int) == (y.length : Int)) = false := by simp; omega
    have q2 : ((x.length : Int) != (y.length : Int)) = true := by simp; omega
    go_enter Tryz.func16, Tryz.ntmps16
    go_wp2
    go_ret
    exact ⟨ret_bool (by simp; intro h; exact hl (by rw [h])), Ext.refl _⟩
end Go.Proofs.YtcnnpedmccjdkaaGreatDoor
