/- The reference's floats: Parse, texts with a point. -/
import Derived.Test.YtcnnpedmccjdkaaGreatDoorRParseF
import Derived.Test.YtcnnpedmccjdkaaGreatDoorRNum
set_option linter.unusedSimpArgs false
set_option linter.unusedVariables false
namespace Go.Proofs.YtcnnpedmccjdkaaGreatDoor
open Go.RowKit
theorem pow17 : (10 : Nat) ^ 17 = 100000000000000000 := by decide
theorem dot_len {l : B} {n : Int} (hn : n.natAbs ≤ 9007199254740992) (h : l = Lib.itoa n ++ [46]) : 2 ≤ l.length ∧ l.length ≤ 18 := by
  have h1 := dec_len_le n.natAbs 16 (by omega) (Nat.lt_of_le_of_lt hn (by decide))
  have h2 := List.length_pos_iff.2 (dec_ne n.natAbs)
  rw [h, itoa_sign]
  split <;> simp <;> omega
/-- What the loop has found. -/
def DotVal (l : B) (k : Nat) (a : Int) : Prop := ∃ v : Nat, a = v ∧ digitsVal 0 (l.take k) = some v
theorem DotVal.step {l : B} {k : Nat} {a : Int} (h : DotVal l k a) (hk : k < l.length) (hk17 : l.length ≤ 17) :
    ((48 ≤ l[k].toNat ∧ l[k].toNat ≤ 57) → DotVal l (k + 1) (10 * a + ((l[k].toNat : Int) - 48)) ∧ 10 * a + ((l[k].toNat : Int) - 48) < 100000000000000000) ∧ (¬ (48 ≤ l[k].toNat ∧ l[k].toNat ≤ 57) → digitsVal 0 l = none) := by
  obtain ⟨v, rfl, hv⟩ := h
  obtain ⟨h1, h2⟩ := digitsVal_take hk hv
  refine ⟨fun hd => ?_, h2⟩
  have h3 := h1 hd
  refine ⟨⟨_, by omega, h3⟩, ?_⟩
  have h4 := digitsVal_lt h3
  have h5 : 10 ^ (l.take (k + 1)).length ≤ 10 ^ 17 := Nat.pow_le_pow_right (by omega) (by rw [List.length_take]; omega)
  rw [pow17] at h5
  omega
/-- A text with a point, by its sign and its digits. -/
structure DotText (l d e : B) (neg : Bool) : Prop where
  hd : l = d ++ [46]
  he : bodyOf d = e
  hneg : negOf d = neg
theorem DotText.num {l d e : B} {neg : Bool} (h : DotText l d e neg) {n : Int} (hl : l = Lib.itoa n ++ [46]) : e = Lib.decDigits n.natAbs ∧ neg = decide (n < 0) := by
  have h1 := h.hd
  rw [hl] at h1
  have h2 : Lib.itoa n = d := List.append_cancel_right h1
  obtain ⟨h3, h4⟩ := bodyOf_itoa n
  rw [h2] at h3 h4
  exact ⟨h.he.symm.trans h3, h.hneg.symm.trans h4⟩
set_option maxRecDepth 100000 in
set_option maxHeartbeats 2000000 in
theorem rfParse_dot1 (s : ByteArray) (h1 : L s ≠ [110, 97, 110]) (h2 : L s ≠ [105, 110, 102]) (h3 : L s ≠ [45, 105, 110, 102]) (h4 : L s ≠ [45, 48, 46]) (hs : s.size ≤ 9223372036854775807)
    (h18 : s.size ≠ 18) (w : World) :
    Calls Tryz.prog 52 #[.string s] w (RfPost (L s) w) := by
  have d1 := str_ne h1
  have d2 := str_ne h2
  have d3 := str_ne h3
  have d4 := str_ne h4
  have HX : Hid (∀ x, floatOf? (L s) = some x → ∃ n : Int, n.natAbs ≤ 9007199254740992 ∧ L s = Lib.itoa n ++ [46] ∧ x = ffromInt n) := fun x hx => floatOf_dots hx h1 h2 h3 h4 (fun h => h18 (by rw [← size_L]; exact h.1))
  clear h1 h2 h3 h4
  have q18 : ((s.size : Int) == 18) = false := by simp; omega
  clear h18
  by_cases c1 : s.size < 2
  · have HN : Hid (floatOf? (L s) = none) := none_of fun x hx => by
      obtain ⟨n, hn, hl, _⟩ := HX.out x hx
      have := dot_len hn hl
      rw [size_L] at this; omega
    clear HX
    go_enter Tryz.func52, Tryz.ntmps52
    go_wp2
    go_ret2
    exact rfPost_none0 HN.out (Ext.refl _)
  have q1 : decide ((s.size : Int) < 2) = false := by simp; omega
  by_cases c2 : 18 < s.size
  · have HN : Hid (floatOf? (L s) = none) := none_of fun x hx => by
      obtain ⟨n, hn, hl, _⟩ := HX.out x hx
      have := dot_len hn hl
      rw [size_L] at this; omega
    clear HX
    go_enter Tryz.func52, Tryz.ntmps52
    go_wp2
    go_ret2
    exact rfPost_none0 HN.out (Ext.refl _)
  have q2 : decide (18 < (s.size : Int)) = false := by simp; omega
  have hlast : s.size - 1 < s.size := by omega
  have hb1 : (0 : Int) ≤ (s.size : Int) - 1 := by omega
  have hls : L s = (L s).take (s.size - 1) ++ [s[s.size - 1]] := by
    have := take_L s (s.size - 1) hlast
    rw [show s.size - 1 + 1 = s.size by omega, List.take_of_length_le (by rw [size_L]; omega)] at this
    exact this
  obtain ⟨c, hc⟩ : ∃ c, s[s.size - 1] = c := ⟨_, rfl⟩
  rw [hc] at hls
  by_cases c3 : c = 46
  rotate_left
  · have q3 : ((c.toNat : Int) != 46) = true := by
      have : c.toNat ≠ 46 := fun e => c3 (UInt8.toNat_inj.1 e)
      simp; omega
    have HN : Hid (floatOf? (L s) = none) := none_of fun x hx => by
      obtain ⟨n, hn, hl, _⟩ := HX.out x hx
      rw [hls] at hl
      have := congrArg List.getLast? hl
      simp at this; exact c3 this
    clear HX c3 hls c1 c2
    go_enter Tryz.func52, Tryz.ntmps52
    go_wp2
    go_ret2
    exact rfPost_none0 HN.out (Ext.refl _)
  subst c3
  obtain ⟨D, hD⟩ : ∃ D, s.extract 0 (s.size - 1) = D := ⟨_, rfl⟩
  have hLD : L D = (L s).take (s.size - 1) := by rw [← hD, L_extract]; rfl
  have hDs : D.size = s.size - 1 := by rw [← hD, ByteArray.size_extract]; omega
  have hD0 : 0 < D.size := by omega
  have hD17 : D.size ≤ 17 := by omega
  rw [← hLD] at hls
  have hdd := drop_L D 0 hD0
  rw [List.drop_zero] at hdd
  have q4 : ((46 : Int) != 46) = false := by decide
  clear c1 c2 hLD hDs
  by_cases h45 : D[0] = 45
  · have q0 : ((D[0].toNat : Int) == 45) = true := by rw [h45]; rfl
    obtain ⟨E, hE⟩ : ∃ E, D.extract 1 D.size = E := ⟨_, rfl⟩
    have HT : Hid (DotText (L s) (L D) (L E) true) := ⟨hls, by rw [← hE, L_tail, hdd, h45]; rfl, by rw [hdd, h45]; rfl⟩
    have hEs : E.size ≤ 17 := by rw [← hE, ByteArray.size_extract]; omega
    clear h45 hls hdd
    go_enter Tryz.func52, Tryz.ntmps52
    go_wp2
    go_loop [9, 10] (fun vn vi => ∃ (k : Nat) (a : Int), k ≤ E.size ∧ vi = .int .i64 (k : Int) ∧ vn = .int .i64 a ∧ 0 ≤ a ∧ a < 100000000000000000 ∧ Hid (DotVal (L E) k a)) (fun _ vi => E.size - (intOf vi).toNat)
    case atStart => exact ⟨0, 0, by omega, rfl, rfl, by omega, by omega, ⟨0, rfl, rfl⟩⟩
    case round =>
      obtain ⟨k, a, hk, rfl, rfl, ha0, ha1, hr⟩ := hrel
      by_cases hlt : k < E.size
      · have hb1 : (0 : Int) ≤ (k : Int) := by omega
        have hb2 : (k : Int) < (E.size : Int) := by omega
        have hkl : k < (L E).length := by rw [size_L]; exact hlt
        have hget : (L E)[k] = E[k] := by have := get_L E k hlt; rw [List.getElem?_eq_getElem hkl] at this; exact Option.some.inj this
        have hst := hr.out.step hkl (by rw [size_L]; exact hEs)
        rw [hget] at hst
        have hc256 := UInt8.toNat_lt E[k]
        obtain ⟨c, hcc⟩ : ∃ c : Int, (E[k].toNat : Int) = c := ⟨_, rfl⟩
        rw [hcc] at hst
        have HS : Hid ((48 ≤ c ∧ c ≤ 57 → DotVal (L E) (k + 1) (10 * a + (c - 48)) ∧ 10 * a + (c - 48) < 100000000000000000) ∧ (¬ (48 ≤ c ∧ c ≤ 57) → digitsVal 0 (L E) = none)) := ⟨fun h => hst.1 (by omega), fun h => hst.2 (by omega)⟩
        have hc0 : 0 ≤ c := by omega
        have hc1 : c < 256 := by omega
        clear hst hget hr hc256
        by_cases hdig : 48 ≤ c ∧ c ≤ 57
        · have h1 := HS.out.1 hdig
          have h3 : 10 * a + (c - 48) < 100000000000000000 := h1.2
          have HV : Hid (DotVal (L E) (k + 1) (10 * a + (c - 48))) := h1.1
          obtain ⟨hd0, hd1⟩ := hdig
          clear h1
          go_wp2
          go_round
          case rel => exact ⟨k + 1, 10 * a + (c - 48), by omega, by simp, by (first | with_reducible rfl | (congr 1; omega)), by omega, by omega, HV⟩
          case measure => (try simp only [intOf]); (try simp); omega
        · have hno := HS.out.2 hdig
          have HN : Hid (floatOf? (L s) = none) := none_of fun x hx => by
            obtain ⟨n, hn, hl, _⟩ := HX.out x hx
            have h5 := (HT.out.num hl).1
            rw [h5, dec_val2] at hno; cases hno
          clear hno
          go_wp2
          all_goals first
            | (go_ret2; exact rfPost_none0 HN.out (Ext.refl _))
            | (exfalso; omega)
      · have hkk : k = E.size := by omega
        subst hkk
        have hva : Hid (∃ v : Nat, a = v ∧ digitsVal 0 (L E) = some v) := by
          obtain ⟨v, h1, h2⟩ := hr.out
          rw [List.take_of_length_le (by rw [size_L]; omega)] at h2
          exact ⟨v, h1, h2⟩
        have HXN : Hid (∀ x, floatOf? (L s) = some x → (-a).natAbs ≤ 9007199254740992 ∧ x = ffromInt (-a)) := fun x hx => by
          obtain ⟨n, hn, hl, rfl⟩ := HX.out x hx
          obtain ⟨h5, h6⟩ := HT.out.num hl
          obtain ⟨v, rfl, h7⟩ := hva.out
          rw [h5, dec_val2] at h7
          have h8 := Option.some.inj h7
          have h9 : (-(v : Int)) = n := by simp at h6; omega
          rw [h9]; exact ⟨hn, rfl⟩
        clear hr hva
        obtain ⟨n, hna⟩ : ∃ n : Int, -a = n := ⟨_, rfl⟩
        rw [hna] at HXN
        have hn0 : -9223372036854775808 ≤ n := by omega
        have hn1 : n ≤ 9223372036854775807 := by omega
        have HFI := Lib.hid (rFrom_any n hn0 hn1)
        by_cases hb : n.natAbs ≤ 9007199254740992
        · obtain ⟨u0, u1, u2⟩ := ffromInt_facts hb
          have hcn : fcanon (ffromInt n) = ffromInt n := fcanon_of (notNaN_of (by rw [u1]; exact rungOf_lt hb))
          have f1 : fFromV n = ffromInt n := if_pos hb
          have f2 : fFromOk n = true := decide_eq_true hb
          rw [f1, f2] at HFI
          have HPP := Lib.hid (rfPrint_any (ffromInt n) u0)
          have HU := Lib.hid u0
          have HC := Lib.hid hcn
          clear u0 u1 u2 hcn f1 f2 hb
          obtain ⟨u, hu⟩ : ∃ u, ffromInt n = u := ⟨_, rfl⟩
          have HXU : Hid (∀ x, floatOf? (L s) = some x → x = u) := fun x hx => by rw [← hu]; exact (HXN.out x hx).2
          rw [hu] at HFI HPP HU HC
          clear hu HXN
          by_cases hp : fprint u = L s
          · obtain ⟨e6, e7⟩ := cmp_eq_of (a := bs (fprint u)) (b := s) (by rw [L_bs]; exact hp)
            have HN : Hid (floatOf? (L s) = some u) := by
              show _ = _
              rw [← hp]; exact floatOf_fprint HU.out HC.out
            clear hp
            go_wp2_with (first
              | (go_at_call 72; refine (HFI.out _).mono ?_; rintro e w' ⟨rfl, rfl⟩)
              | (go_at_call 37; refine (HPP.out _).mono ?_; rintro e w1 ⟨rfl, he1⟩))
            go_ret2
            exact rfPost_some HN.out he1
          · obtain ⟨e6, e7⟩ := cmp_ne_of (a := bs (fprint u)) (b := s) (by rw [L_bs]; exact hp)
            have HN : Hid (floatOf? (L s) = none) := none_of fun x hx => by
              have h1 := HXU.out x hx
              subst h1
              exact hp (fprint_floatOf hx).2.2
            clear hp
            go_wp2_with (first
              | (go_at_call 72; refine (HFI.out _).mono ?_; rintro e w' ⟨rfl, rfl⟩)
              | (go_at_call 37; refine (HPP.out _).mono ?_; rintro e w1 ⟨rfl, he1⟩))
            go_ret2
            exact rfPost_none0 HN.out he1
        · have f1 : fFromV n = 0 := if_neg hb
          have f2 : fFromOk n = false := decide_eq_false hb
          rw [f1, f2] at HFI
          have HN : Hid (floatOf? (L s) = none) := none_of fun x hx => hb (HXN.out x hx).1
          clear hb f1 f2 HXN
          go_wp2_with (go_at_call 72; refine (HFI.out _).mono ?_; rintro e w' ⟨rfl, rfl⟩)
          go_ret2
          exact rfPost_none0 HN.out (Ext.refl _)
  · have q0 : ((D[0].toNat : Int) == 45) = false := by
      have : D[0].toNat ≠ 45 := fun e => h45 (UInt8.toNat_inj.1 e)
      simp; omega
    have HT : Hid (DotText (L s) (L D) (L D) false) := ⟨hls, by
        rw [hdd]; unfold bodyOf; split
        · rename_i e; injection e with e _; exact absurd e h45
        · rfl, by
        rw [hdd]; unfold negOf; split
        · rename_i e; injection e with e _; exact absurd e h45
        · rfl⟩
    clear h45 hls hdd
    go_enter Tryz.func52, Tryz.ntmps52
    go_wp2
    go_loop [9, 10] (fun vn vi => ∃ (k : Nat) (a : Int), k ≤ D.size ∧ vi = .int .i64 (k : Int) ∧ vn = .int .i64 a ∧ 0 ≤ a ∧ a < 100000000000000000 ∧ Hid (DotVal (L D) k a)) (fun _ vi => D.size - (intOf vi).toNat)
    case atStart => exact ⟨0, 0, by omega, rfl, rfl, by omega, by omega, ⟨0, rfl, rfl⟩⟩
    case round =>
      obtain ⟨k, a, hk, rfl, rfl, ha0, ha1, hr⟩ := hrel
      by_cases hlt : k < D.size
      · have hb1 : (0 : Int) ≤ (k : Int) := by omega
        have hb2 : (k : Int) < (D.size : Int) := by omega
        have hkl : k < (L D).length := by rw [size_L]; exact hlt
        have hget : (L D)[k] = D[k] := by have := get_L D k hlt; rw [List.getElem?_eq_getElem hkl] at this; exact Option.some.inj this
        have hst := hr.out.step hkl (by rw [size_L]; exact hD17)
        rw [hget] at hst
        have hc256 := UInt8.toNat_lt D[k]
        obtain ⟨c, hcc⟩ : ∃ c : Int, (D[k].toNat : Int) = c := ⟨_, rfl⟩
        rw [hcc] at hst
        have HS : Hid ((48 ≤ c ∧ c ≤ 57 → DotVal (L D) (k + 1) (10 * a + (c - 48)) ∧ 10 * a + (c - 48) < 100000000000000000) ∧ (¬ (48 ≤ c ∧ c ≤ 57) → digitsVal 0 (L D) = none)) := ⟨fun h => hst.1 (by omega), fun h => hst.2 (by omega)⟩
        have hc0 : 0 ≤ c := by omega
        have hc1 : c < 256 := by omega
        clear hst hget hr hc256
        by_cases hdig : 48 ≤ c ∧ c ≤ 57
        · have h1 := HS.out.1 hdig
          have h3 : 10 * a + (c - 48) < 100000000000000000 := h1.2
          have HV : Hid (DotVal (L D) (k + 1) (10 * a + (c - 48))) := h1.1
          obtain ⟨hd0, hd1⟩ := hdig
          clear h1
          go_wp2
          go_round
          case rel => exact ⟨k + 1, 10 * a + (c - 48), by omega, by simp, by (first | with_reducible rfl | (congr 1; omega)), by omega, by omega, HV⟩
          case measure => (try simp only [intOf]); (try simp); omega
        · have hno := HS.out.2 hdig
          have HN : Hid (floatOf? (L s) = none) := none_of fun x hx => by
            obtain ⟨n, hn, hl, _⟩ := HX.out x hx
            have h5 := (HT.out.num hl).1
            rw [h5, dec_val2] at hno; cases hno
          clear hno
          go_wp2
          all_goals first
            | (go_ret2; exact rfPost_none0 HN.out (Ext.refl _))
            | (exfalso; omega)
      · have hkk : k = D.size := by omega
        subst hkk
        have hva : Hid (∃ v : Nat, a = v ∧ digitsVal 0 (L D) = some v) := by
          obtain ⟨v, h1, h2⟩ := hr.out
          rw [List.take_of_length_le (by rw [size_L]; omega)] at h2
          exact ⟨v, h1, h2⟩
        have HXN : Hid (∀ x, floatOf? (L s) = some x → a.natAbs ≤ 9007199254740992 ∧ x = ffromInt a) := fun x hx => by
          obtain ⟨n, hn, hl, rfl⟩ := HX.out x hx
          obtain ⟨h5, h6⟩ := HT.out.num hl
          obtain ⟨v, rfl, h7⟩ := hva.out
          rw [h5, dec_val2] at h7
          have h8 := Option.some.inj h7
          have h9 : (v : Int) = n := by simp at h6; omega
          rw [h9]; exact ⟨hn, rfl⟩
        clear hr hva
        obtain ⟨n, hna⟩ : ∃ n : Int, n = a := ⟨_, rfl⟩
        subst hna
        have hn0 : -9223372036854775808 ≤ n := by omega
        have hn1 : n ≤ 9223372036854775807 := by omega
        have HFI := Lib.hid (rFrom_any n hn0 hn1)
        by_cases hb : n.natAbs ≤ 9007199254740992
        · obtain ⟨u0, u1, u2⟩ := ffromInt_facts hb
          have hcn : fcanon (ffromInt n) = ffromInt n := fcanon_of (notNaN_of (by rw [u1]; exact rungOf_lt hb))
          have f1 : fFromV n = ffromInt n := if_pos hb
          have f2 : fFromOk n = true := decide_eq_true hb
          rw [f1, f2] at HFI
          have HPP := Lib.hid (rfPrint_any (ffromInt n) u0)
          have HU := Lib.hid u0
          have HC := Lib.hid hcn
          clear u0 u1 u2 hcn f1 f2 hb
          obtain ⟨u, hu⟩ : ∃ u, ffromInt n = u := ⟨_, rfl⟩
          have HXU : Hid (∀ x, floatOf? (L s) = some x → x = u) := fun x hx => by rw [← hu]; exact (HXN.out x hx).2
          rw [hu] at HFI HPP HU HC
          clear hu HXN
          by_cases hp : fprint u = L s
          · obtain ⟨e6, e7⟩ := cmp_eq_of (a := bs (fprint u)) (b := s) (by rw [L_bs]; exact hp)
            have HN : Hid (floatOf? (L s) = some u) := by
              show _ = _
              rw [← hp]; exact floatOf_fprint HU.out HC.out
            clear hp
            go_wp2_with (first
              | (go_at_call 72; refine (HFI.out _).mono ?_; rintro e w' ⟨rfl, rfl⟩)
              | (go_at_call 37; refine (HPP.out _).mono ?_; rintro e w1 ⟨rfl, he1⟩))
            go_ret2
            exact rfPost_some HN.out he1
          · obtain ⟨e6, e7⟩ := cmp_ne_of (a := bs (fprint u)) (b := s) (by rw [L_bs]; exact hp)
            have HN : Hid (floatOf? (L s) = none) := none_of fun x hx => by
              have h1 := HXU.out x hx
              subst h1
              exact hp (fprint_floatOf hx).2.2
            clear hp
            go_wp2_with (first
              | (go_at_call 72; refine (HFI.out _).mono ?_; rintro e w' ⟨rfl, rfl⟩)
              | (go_at_call 37; refine (HPP.out _).mono ?_; rintro e w1 ⟨rfl, he1⟩))
            go_ret2
            exact rfPost_none0 HN.out he1
        · have f1 : fFromV n = 0 := if_neg hb
          have f2 : fFromOk n = false := decide_eq_false hb
          rw [f1, f2] at HFI
          have HN : Hid (floatOf? (L s) = none) := none_of fun x hx => hb (HXN.out x hx).1
          clear hb f1 f2 HXN
          go_wp2_with (go_at_call 72; refine (HFI.out _).mono ?_; rintro e w' ⟨rfl, rfl⟩)
          go_ret2
          exact rfPost_none0 HN.out (Ext.refl _)
set_option maxRecDepth 100000 in
set_option maxHeartbeats 2000000 in
theorem rfParse_dot2 (s : ByteArray) (h1 : L s ≠ [110, 97, 110]) (h2 : L s ≠ [105, 110, 102]) (h3 : L s ≠ [45, 105, 110, 102]) (h4 : L s ≠ [45, 48, 46]) (hs : s.size ≤ 9223372036854775807)
    (h18 : s.size = 18) (hx0 : (L s).take 2 ≠ [48, 120]) (w : World) :
    Calls Tryz.prog 52 #[.string s] w (RfPost (L s) w) := by
  have d1 := str_ne h1
  have d2 := str_ne h2
  have d3 := str_ne h3
  have d4 := str_ne h4
  have HX : Hid (∀ x, floatOf? (L s) = some x → ∃ n : Int, n.natAbs ≤ 9007199254740992 ∧ L s = Lib.itoa n ++ [46] ∧ x = ffromInt n) := fun x hx => floatOf_dots hx h1 h2 h3 h4 (fun h => hx0 h.2)
  clear h1 h2 h3 h4
  have q18 : ((s.size : Int) == 18) = true := by simp; omega
  have q19 : ((s.extract 0 2).toList == [48, 120]) = false := str_ne (by rw [L_extract]; exact hx0)
  clear hx0
  have H18 := Lib.hid h18
  clear h18
  have c1 : ¬ s.size < 2 := by have := H18.out; omega
  have q1 : decide ((s.size : Int) < 2) = false := by simp; omega
  have c2 : ¬ 18 < s.size := by have := H18.out; omega
  have q2 : decide (18 < (s.size : Int)) = false := by simp; omega
  have hlast : s.size - 1 < s.size := by omega
  have hb1 : (0 : Int) ≤ (s.size : Int) - 1 := by omega
  have hls : L s = (L s).take (s.size - 1) ++ [s[s.size - 1]] := by
    have := take_L s (s.size - 1) hlast
    rw [show s.size - 1 + 1 = s.size by omega, List.take_of_length_le (by rw [size_L]; omega)] at this
    exact this
  obtain ⟨c, hc⟩ : ∃ c, s[s.size - 1] = c := ⟨_, rfl⟩
  rw [hc] at hls
  by_cases c3 : c = 46
  rotate_left
  · have q3 : ((c.toNat : Int) != 46) = true := by
      have : c.toNat ≠ 46 := fun e => c3 (UInt8.toNat_inj.1 e)
      simp; omega
    have HN : Hid (floatOf? (L s) = none) := none_of fun x hx => by
      obtain ⟨n, hn, hl, _⟩ := HX.out x hx
      rw [hls] at hl
      have := congrArg List.getLast? hl
      simp at this; exact c3 this
    have hge : (2 : Int) ≤ (s.size : Int) := by omega
    clear HX c3 hls c1 c2
    go_enter Tryz.func52, Tryz.ntmps52
    go_wp2
    go_ret2
    exact rfPost_none0 HN.out (Ext.refl _)
  subst c3
  obtain ⟨D, hD⟩ : ∃ D, s.extract 0 (s.size - 1) = D := ⟨_, rfl⟩
  have hLD : L D = (L s).take (s.size - 1) := by rw [← hD, L_extract]; rfl
  have hDs : D.size = s.size - 1 := by rw [← hD, ByteArray.size_extract]; omega
  have hD0 : 0 < D.size := by omega
  have hD17 : D.size ≤ 17 := by omega
  rw [← hLD] at hls
  have hdd := drop_L D 0 hD0
  rw [List.drop_zero] at hdd
  have q4 : ((46 : Int) != 46) = false := by decide
  have hge : (2 : Int) ≤ (s.size : Int) := by omega
  clear c1 c2 hLD hDs
  by_cases h45 : D[0] = 45
  · have q0 : ((D[0].toNat : Int) == 45) = true := by rw [h45]; rfl
    obtain ⟨E, hE⟩ : ∃ E, D.extract 1 D.size = E := ⟨_, rfl⟩
    have HT : Hid (DotText (L s) (L D) (L E) true) := ⟨hls, by rw [← hE, L_tail, hdd, h45]; rfl, by rw [hdd, h45]; rfl⟩
    have hEs : E.size ≤ 17 := by rw [← hE, ByteArray.size_extract]; omega
    clear h45 hls hdd
    go_enter Tryz.func52, Tryz.ntmps52
    go_wp2
    go_loop [9, 10] (fun vn vi => ∃ (k : Nat) (a : Int), k ≤ E.size ∧ vi = .int .i64 (k : Int) ∧ vn = .int .i64 a ∧ 0 ≤ a ∧ a < 100000000000000000 ∧ Hid (DotVal (L E) k a)) (fun _ vi => E.size - (intOf vi).toNat)
    case atStart => exact ⟨0, 0, by omega, rfl, rfl, by omega, by omega, ⟨0, rfl, rfl⟩⟩
    case round =>
      obtain ⟨k, a, hk, rfl, rfl, ha0, ha1, hr⟩ := hrel
      by_cases hlt : k < E.size
      · have hb1 : (0 : Int) ≤ (k : Int) := by omega
        have hb2 : (k : Int) < (E.size : Int) := by omega
        have hkl : k < (L E).length := by rw [size_L]; exact hlt
        have hget : (L E)[k] = E[k] := by have := get_L E k hlt; rw [List.getElem?_eq_getElem hkl] at this; exact Option.some.inj this
        have hst := hr.out.step hkl (by rw [size_L]; exact hEs)
        rw [hget] at hst
        have hc256 := UInt8.toNat_lt E[k]
        obtain ⟨c, hcc⟩ : ∃ c : Int, (E[k].toNat : Int) = c := ⟨_, rfl⟩
        rw [hcc] at hst
        have HS : Hid ((48 ≤ c ∧ c ≤ 57 → DotVal (L E) (k + 1) (10 * a + (c - 48)) ∧ 10 * a + (c - 48) < 100000000000000000) ∧ (¬ (48 ≤ c ∧ c ≤ 57) → digitsVal 0 (L E) = none)) := ⟨fun h => hst.1 (by omega), fun h => hst.2 (by omega)⟩
        have hc0 : 0 ≤ c := by omega
        have hc1 : c < 256 := by omega
        clear hst hget hr hc256
        by_cases hdig : 48 ≤ c ∧ c ≤ 57
        · have h1 := HS.out.1 hdig
          have h3 : 10 * a + (c - 48) < 100000000000000000 := h1.2
          have HV : Hid (DotVal (L E) (k + 1) (10 * a + (c - 48))) := h1.1
          obtain ⟨hd0, hd1⟩ := hdig
          clear h1
          go_wp2
          go_round
          case rel => exact ⟨k + 1, 10 * a + (c - 48), by omega, by simp, by (first | with_reducible rfl | (congr 1; omega)), by omega, by omega, HV⟩
          case measure => (try simp only [intOf]); (try simp); omega
        · have hno := HS.out.2 hdig
          have HN : Hid (floatOf? (L s) = none) := none_of fun x hx => by
            obtain ⟨n, hn, hl, _⟩ := HX.out x hx
            have h5 := (HT.out.num hl).1
            rw [h5, dec_val2] at hno; cases hno
          clear hno
          go_wp2
          all_goals first
            | (go_ret2; exact rfPost_none0 HN.out (Ext.refl _))
            | (exfalso; omega)
      · have hkk : k = E.size := by omega
        subst hkk
        have hva : Hid (∃ v : Nat, a = v ∧ digitsVal 0 (L E) = some v) := by
          obtain ⟨v, h1, h2⟩ := hr.out
          rw [List.take_of_length_le (by rw [size_L]; omega)] at h2
          exact ⟨v, h1, h2⟩
        have HXN : Hid (∀ x, floatOf? (L s) = some x → (-a).natAbs ≤ 9007199254740992 ∧ x = ffromInt (-a)) := fun x hx => by
          obtain ⟨n, hn, hl, rfl⟩ := HX.out x hx
          obtain ⟨h5, h6⟩ := HT.out.num hl
          obtain ⟨v, rfl, h7⟩ := hva.out
          rw [h5, dec_val2] at h7
          have h8 := Option.some.inj h7
          have h9 : (-(v : Int)) = n := by simp at h6; omega
          rw [h9]; exact ⟨hn, rfl⟩
        clear hr hva
        obtain ⟨n, hna⟩ : ∃ n : Int, -a = n := ⟨_, rfl⟩
        rw [hna] at HXN
        have hn0 : -9223372036854775808 ≤ n := by omega
        have hn1 : n ≤ 9223372036854775807 := by omega
        have HFI := Lib.hid (rFrom_any n hn0 hn1)
        by_cases hb : n.natAbs ≤ 9007199254740992
        · obtain ⟨u0, u1, u2⟩ := ffromInt_facts hb
          have hcn : fcanon (ffromInt n) = ffromInt n := fcanon_of (notNaN_of (by rw [u1]; exact rungOf_lt hb))
          have f1 : fFromV n = ffromInt n := if_pos hb
          have f2 : fFromOk n = true := decide_eq_true hb
          rw [f1, f2] at HFI
          have HPP := Lib.hid (rfPrint_any (ffromInt n) u0)
          have HU := Lib.hid u0
          have HC := Lib.hid hcn
          clear u0 u1 u2 hcn f1 f2 hb
          obtain ⟨u, hu⟩ : ∃ u, ffromInt n = u := ⟨_, rfl⟩
          have HXU : Hid (∀ x, floatOf? (L s) = some x → x = u) := fun x hx => by rw [← hu]; exact (HXN.out x hx).2
          rw [hu] at HFI HPP HU HC
          clear hu HXN
          by_cases hp : fprint u = L s
          · obtain ⟨e6, e7⟩ := cmp_eq_of (a := bs (fprint u)) (b := s) (by rw [L_bs]; exact hp)
            have HN : Hid (floatOf? (L s) = some u) := by
              show _ = _
              rw [← hp]; exact floatOf_fprint HU.out HC.out
            clear hp
            go_wp2_with (first
              | (go_at_call 72; refine (HFI.out _).mono ?_; rintro e w' ⟨rfl, rfl⟩)
              | (go_at_call 37; refine (HPP.out _).mono ?_; rintro e w1 ⟨rfl, he1⟩))
            go_ret2
            exact rfPost_some HN.out he1
          · obtain ⟨e6, e7⟩ := cmp_ne_of (a := bs (fprint u)) (b := s) (by rw [L_bs]; exact hp)
            have HN : Hid (floatOf? (L s) = none) := none_of fun x hx => by
              have h1 := HXU.out x hx
              subst h1
              exact hp (fprint_floatOf hx).2.2
            clear hp
            go_wp2_with (first
              | (go_at_call 72; refine (HFI.out _).mono ?_; rintro e w' ⟨rfl, rfl⟩)
              | (go_at_call 37; refine (HPP.out _).mono ?_; rintro e w1 ⟨rfl, he1⟩))
            go_ret2
            exact rfPost_none0 HN.out he1
        · have f1 : fFromV n = 0 := if_neg hb
          have f2 : fFromOk n = false := decide_eq_false hb
          rw [f1, f2] at HFI
          have HN : Hid (floatOf? (L s) = none) := none_of fun x hx => hb (HXN.out x hx).1
          clear hb f1 f2 HXN
          go_wp2_with (go_at_call 72; refine (HFI.out _).mono ?_; rintro e w' ⟨rfl, rfl⟩)
          go_ret2
          exact rfPost_none0 HN.out (Ext.refl _)
  · have q0 : ((D[0].toNat : Int) == 45) = false := by
      have : D[0].toNat ≠ 45 := fun e => h45 (UInt8.toNat_inj.1 e)
      simp; omega
    have HT : Hid (DotText (L s) (L D) (L D) false) := ⟨hls, by
        rw [hdd]; unfold bodyOf; split
        · rename_i e; injection e with e _; exact absurd e h45
        · rfl, by
        rw [hdd]; unfold negOf; split
        · rename_i e; injection e with e _; exact absurd e h45
        · rfl⟩
    clear h45 hls hdd
    go_enter Tryz.func52, Tryz.ntmps52
    go_wp2
    go_loop [9, 10] (fun vn vi => ∃ (k : Nat) (a : Int), k ≤ D.size ∧ vi = .int .i64 (k : Int) ∧ vn = .int .i64 a ∧ 0 ≤ a ∧ a < 100000000000000000 ∧ Hid (DotVal (L D) k a)) (fun _ vi => D.size - (intOf vi).toNat)
    case atStart => exact ⟨0, 0, by omega, rfl, rfl, by omega, by omega, ⟨0, rfl, rfl⟩⟩
    case round =>
      obtain ⟨k, a, hk, rfl, rfl, ha0, ha1, hr⟩ := hrel
      by_cases hlt : k < D.size
      · have hb1 : (0 : Int) ≤ (k : Int) := by omega
        have hb2 : (k : Int) < (D.size : Int) := by omega
        have hkl : k < (L D).length := by rw [size_L]; exact hlt
        have hget : (L D)[k] = D[k] := by have := get_L D k hlt; rw [List.getElem?_eq_getElem hkl] at this; exact Option.some.inj this
        have hst := hr.out.step hkl (by rw [size_L]; exact hD17)
        rw [hget] at hst
        have hc256 := UInt8.toNat_lt D[k]
        obtain ⟨c, hcc⟩ : ∃ c : Int, (D[k].toNat : Int) = c := ⟨_, rfl⟩
        rw [hcc] at hst
        have HS : Hid ((48 ≤ c ∧ c ≤ 57 → DotVal (L D) (k + 1) (10 * a + (c - 48)) ∧ 10 * a + (c - 48) < 100000000000000000) ∧ (¬ (48 ≤ c ∧ c ≤ 57) → digitsVal 0 (L D) = none)) := ⟨fun h => hst.1 (by omega), fun h => hst.2 (by omega)⟩
        have hc0 : 0 ≤ c := by omega
        have hc1 : c < 256 := by omega
        clear hst hget hr hc256
        by_cases hdig : 48 ≤ c ∧ c ≤ 57
        · have h1 := HS.out.1 hdig
          have h3 : 10 * a + (c - 48) < 100000000000000000 := h1.2
          have HV : Hid (DotVal (L D) (k + 1) (10 * a + (c - 48))) := h1.1
          obtain ⟨hd0, hd1⟩ := hdig
          clear h1
          go_wp2
          go_round
          case rel => exact ⟨k + 1, 10 * a + (c - 48), by omega, by simp, by (first | with_reducible rfl | (congr 1; omega)), by omega, by omega, HV⟩
          case measure => (try simp only [intOf]); (try simp); omega
        · have hno := HS.out.2 hdig
          have HN : Hid (floatOf? (L s) = none) := none_of fun x hx => by
            obtain ⟨n, hn, hl, _⟩ := HX.out x hx
            have h5 := (HT.out.num hl).1
            rw [h5, dec_val2] at hno; cases hno
          clear hno
          go_wp2
          all_goals first
            | (go_ret2; exact rfPost_none0 HN.out (Ext.refl _))
            | (exfalso; omega)
      · have hkk : k = D.size := by omega
        subst hkk
        have hva : Hid (∃ v : Nat, a = v ∧ digitsVal 0 (L D) = some v) := by
          obtain ⟨v, h1, h2⟩ := hr.out
          rw [List.take_of_length_le (by rw [size_L]; omega)] at h2
          exact ⟨v, h1, h2⟩
        have HXN : Hid (∀ x, floatOf? (L s) = some x → a.natAbs ≤ 9007199254740992 ∧ x = ffromInt a) := fun x hx => by
          obtain ⟨n, hn, hl, rfl⟩ := HX.out x hx
          obtain ⟨h5, h6⟩ := HT.out.num hl
          obtain ⟨v, rfl, h7⟩ := hva.out
          rw [h5, dec_val2] at h7
          have h8 := Option.some.inj h7
          have h9 : (v : Int) = n := by simp at h6; omega
          rw [h9]; exact ⟨hn, rfl⟩
        clear hr hva
        obtain ⟨n, hna⟩ : ∃ n : Int, n = a := ⟨_, rfl⟩
        subst hna
        have hn0 : -9223372036854775808 ≤ n := by omega
        have hn1 : n ≤ 9223372036854775807 := by omega
        have HFI := Lib.hid (rFrom_any n hn0 hn1)
        by_cases hb : n.natAbs ≤ 9007199254740992
        · obtain ⟨u0, u1, u2⟩ := ffromInt_facts hb
          have hcn : fcanon (ffromInt n) = ffromInt n := fcanon_of (notNaN_of (by rw [u1]; exact rungOf_lt hb))
          have f1 : fFromV n = ffromInt n := if_pos hb
          have f2 : fFromOk n = true := decide_eq_true hb
          rw [f1, f2] at HFI
          have HPP := Lib.hid (rfPrint_any (ffromInt n) u0)
          have HU := Lib.hid u0
          have HC := Lib.hid hcn
          clear u0 u1 u2 hcn f1 f2 hb
          obtain ⟨u, hu⟩ : ∃ u, ffromInt n = u := ⟨_, rfl⟩
          have HXU : Hid (∀ x, floatOf? (L s) = some x → x = u) := fun x hx => by rw [← hu]; exact (HXN.out x hx).2
          rw [hu] at HFI HPP HU HC
          clear hu HXN
          by_cases hp : fprint u = L s
          · obtain ⟨e6, e7⟩ := cmp_eq_of (a := bs (fprint u)) (b := s) (by rw [L_bs]; exact hp)
            have HN : Hid (floatOf? (L s) = some u) := by
              show _ = _
              rw [← hp]; exact floatOf_fprint HU.out HC.out
            clear hp
            go_wp2_with (first
              | (go_at_call 72; refine (HFI.out _).mono ?_; rintro e w' ⟨rfl, rfl⟩)
              | (go_at_call 37; refine (HPP.out _).mono ?_; rintro e w1 ⟨rfl, he1⟩))
            go_ret2
            exact rfPost_some HN.out he1
          · obtain ⟨e6, e7⟩ := cmp_ne_of (a := bs (fprint u)) (b := s) (by rw [L_bs]; exact hp)
            have HN : Hid (floatOf? (L s) = none) := none_of fun x hx => by
              have h1 := HXU.out x hx
              subst h1
              exact hp (fprint_floatOf hx).2.2
            clear hp
            go_wp2_with (first
              | (go_at_call 72; refine (HFI.out _).mono ?_; rintro e w' ⟨rfl, rfl⟩)
              | (go_at_call 37; refine (HPP.out _).mono ?_; rintro e w1 ⟨rfl, he1⟩))
            go_ret2
            exact rfPost_none0 HN.out he1
        · have f1 : fFromV n = 0 := if_neg hb
          have f2 : fFromOk n = false := decide_eq_false hb
          rw [f1, f2] at HFI
          have HN : Hid (floatOf? (L s) = none) := none_of fun x hx => hb (HXN.out x hx).1
          clear hb f1 f2 HXN
          go_wp2_with (go_at_call 72; refine (HFI.out _).mono ?_; rintro e w' ⟨rfl, rfl⟩)
          go_ret2
          exact rfPost_none0 HN.out (Ext.refl _)
set_option maxRecDepth 100000 in
set_option maxHeartbeats 1000000 in
theorem rfParse_any (s : ByteArray) (hs : s.size ≤ 9223372036854775807) (w : World) :
    Calls Tryz.prog 52 #[.string s] w (RfPost (L s) w) := by
  by_cases h1 : L s = [110, 97, 110]
  · have d := str_eq h1
    have HN : Hid (floatOf? (L s) = some 9221120237041090560) := by show _ = _; rw [h1]; rfl
    clear h1
    go_enter Tryz.func52, Tryz.ntmps52
    go_wp2
    go_ret2
    exact rfPost_some HN.out (Ext.refl _)
  by_cases h2 : L s = [105, 110, 102]
  · have d1 := str_ne h1
    have d := str_eq h2
    have HN : Hid (floatOf? (L s) = some 9218868437227405312) := by show _ = _; rw [h2]; rfl
    clear h1 h2
    go_enter Tryz.func52, Tryz.ntmps52
    go_wp2
    go_ret2
    exact rfPost_some HN.out (Ext.refl _)
  by_cases h3 : L s = [45, 105, 110, 102]
  · have d1 := str_ne h1
    have d2 := str_ne h2
    have d := str_eq h3
    have HN : Hid (floatOf? (L s) = some 18442240474082181120) := by show _ = _; rw [h3]; rfl
    clear h1 h2 h3
    go_enter Tryz.func52, Tryz.ntmps52
    go_wp2
    go_ret2
    exact rfPost_some HN.out (Ext.refl _)
  by_cases h4 : L s = [45, 48, 46]
  · have d1 := str_ne h1
    have d2 := str_ne h2
    have d3 := str_ne h3
    have d := str_eq h4
    have HN : Hid (floatOf? (L s) = some 9223372036854775808) := by show _ = _; rw [h4]; rfl
    clear h1 h2 h3 h4
    go_enter Tryz.func52, Tryz.ntmps52
    go_wp2
    go_ret2
    exact rfPost_some HN.out (Ext.refl _)
  by_cases h18 : s.size = 18
  · by_cases hx : (L s).take 2 = [48, 120]
    · refine rfParse_hex s ((L s).drop 2) ?_ h18 w
      have := List.take_append_drop 2 (L s)
      rw [hx] at this
      exact this.symm
    · exact rfParse_dot2 s h1 h2 h3 h4 hs h18 hx w
  · exact rfParse_dot1 s h1 h2 h3 h4 hs h18 w
end Go.Proofs.YtcnnpedmccjdkaaGreatDoor
