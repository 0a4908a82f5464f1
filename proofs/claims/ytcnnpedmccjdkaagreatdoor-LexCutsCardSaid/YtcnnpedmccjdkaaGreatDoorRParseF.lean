/- The reference's floats: Parse. -/
import Derived.Test.YtcnnpedmccjdkaaGreatDoorRParseP
import Derived.Test.YtcnnpedmccjdkaaGreatDoorValB
import Derived.BigQuiet

set_option linter.unusedSimpArgs false
set_option linter.unusedVariables false
namespace Go.Proofs.YtcnnpedmccjdkaaGreatDoor
open Go.RowKit
def RfPost (l : B) (w : World) (e : Ending) (w' : World) : Prop :=
  ∃ (u : Nat) (ok : Bool), u < 18446744073709551616 ∧ e = .returned (.tuple #[.int .u64 (u : Int), .bool ok]) ∧ (∀ x, floatOf? l = some x → u = x ∧ ok = true) ∧ (floatOf? l = none → ok = false) ∧ Ext w w'
theorem rfPost_some {l : B} {w w' : World} {u : Nat} (h : floatOf? l = some u) (he : Ext w w') : RfPost l w (.returned (.tuple #[.int .u64 (u : Int), .bool true])) w' :=
  ⟨u, true, (fprint_floatOf h).1, rfl, fun x hx => by rw [h] at hx; cases hx; exact ⟨rfl, rfl⟩, fun hx => (by rw [h] at hx; cases hx), he⟩
theorem rfPost_none {l : B} {w w' : World} {u : Nat} (h : floatOf? l = none) (hu : u < 18446744073709551616) (he : Ext w w') : RfPost l w (.returned (.tuple #[.int .u64 (u : Int), .bool false])) w' :=
  ⟨u, false, hu, rfl, fun x hx => (by rw [h] at hx; cases hx), fun _ => rfl, he⟩
theorem rfPost_none0 {l : B} {w w' : World} (h : floatOf? l = none) (he : Ext w w') : RfPost l w (.returned (.tuple #[.int .u64 0, .bool false])) w' := rfPost_none (u := 0) h (by decide) he
theorem none_of {α : Type} {o : Option α} (h : ∀ x, o = some x → False) : o = none := by
  cases o with
  | none => rfl
  | some x => exact (h x rfl).elim
set_option maxRecDepth 100000 in
set_option maxHeartbeats 2000000 in
theorem rfParse_hex (s : ByteArray) (t : B) (hst : L s = 48 :: 120 :: t) (h18 : s.size = 18) (w : World) :
    Calls Tryz.prog 52 #[.string s] w (RfPost (L s) w) := by
  have d1 := str_ne (s := s) (l := [110, 97, 110]) (by rw [hst]; simp)
  have d2 := str_ne (s := s) (l := [105, 110, 102]) (by rw [hst]; simp)
  have d3 := str_ne (s := s) (l := [45, 105, 110, 102]) (by rw [hst]; simp)
  have d4 := str_ne (s := s) (l := [45, 48, 46]) (by rw [hst]; simp)
  have d5 : ((s.extract 0 2).toList == [48, 120]) = true := str_eq (by rw [L_extract, hst]; rfl)
  have HF : Hid (∀ x, floatOf? (L s) = some x → unhexN 0 t = some x) := fun x h => by rw [hst] at h; exact (floatOf_hexs h).1
  have HT : Hid ((L s).drop 2 = t) := by show _ = _; rw [hst]; rfl
  have HL : Hid (s.size = 18) := h18
  clear hst
  go_enter Tryz.func52, Tryz.ntmps52
  go_wp2
  go_loopw [4, 5] (fun vu vi wr => ∃ (i a : Nat), 2 ≤ i ∧ i ≤ 18 ∧ vi = .int .i64 (i : Int) ∧ vu = .int .u64 (a : Int) ∧ Hid (a < 16 ^ (i - 2) ∧ unhexN 0 t = unhexN a ((L s).drop i)) ∧ Ext w wr) (fun _ vi _ => 18 - (intOf vi).toNat)
  case atStart => exact ⟨2, 0, by omega, by omega, rfl, rfl, ⟨by simp, by rw [HT.out]⟩, Ext.refl _⟩
  case round =>
    obtain ⟨i, a, hi0, hi1, rfl, rfl, hr, he⟩ := hrel
    obtain ⟨wo, rfl⟩ : ∃ wo : World, wo = wr := ⟨_, rfl⟩
    by_cases hlt : i < 18
    · have hb1 : (0 : Int) ≤ (i : Int) := by omega
      have hb2 : (i : Int) < 18 := by omega
      have his : i < s.size := by omega
      have hd := drop_L s i his
      obtain ⟨c, hc⟩ : ∃ c, s[i] = c := ⟨_, rfl⟩
      have hcle := hexIx_le c
      have ha : a < 1152921504606846976 := by
        have h1 := hr.out.1
        have h2 : 16 ^ (i - 2) ≤ 16 ^ 15 := Nat.pow_le_pow_right (by omega) (by omega)
        have h3 : (16 : Nat) ^ 15 = 1152921504606846976 := by decide
        omega
      have HS : Hid (unhexN 0 t = if hexIx c < 16 then unhexN (16 * a + hexIx c) ((L s).drop (i + 1)) else none) := by
        show _ = _
        rw [hr.out.2, hd, hc, unhexN_cons]
      have HA : Hid (a < 16 ^ (i - 2)) := hr.out.1
      have HX : Hid (∀ d, d < 16 → ((hexd d = c) ↔ d = hexIx c)) := hexIx_get c
      clear hr hd
      generalize hexIx c = x at *
      go_wp2
      go_loopw [6] (fun vd wr => ∃ d : Nat, d ≤ x ∧ vd = .int .u64 (d : Int) ∧ Ext w wr) (fun vd _ => 16 - (intOf vd).toNat)
      case atStart => exact ⟨0, by omega, rfl, he⟩
      case round =>
        obtain ⟨d, hdx, rfl, he2⟩ := hrel
        by_cases hd16 : d < 16
        · have q1 : decide ((d : Int) < 16) = true := by simp; omega
          have q2 : decide (d < 16) = true := by simp; omega
          have hg := hexlit d hd16
          have hd0 : (0 : Int) ≤ (d : Int) := by omega
          have hd1 : (d : Int) < 16 := by omega
          by_cases hdx2 : d = x
          · have hcd : hexd d = c := (HX.out d hd16).2 hdx2
            have q3 : (((hexd d).toNat : Int) != (c.toNat : Int)) = false := by rw [hcd]; simp
            have q4 : ((hexd d).toNat != c.toNat) = false := by rw [hcd]; simp
            have q5 : ((d : Int) == 16) = false := by simp; omega
            have HS2 : Hid (16 * a + d < 16 ^ (i + 1 - 2) ∧ unhexN 0 t = unhexN (16 * a + d) ((L s).drop (i + 1))) := by
              have h1 := HS.out
              rw [if_pos (by omega), ← hdx2] at h1
              refine ⟨?_, h1⟩
              have := HA.out
              rw [show i + 1 - 2 = (i - 2) + 1 by omega, Nat.pow_succ]
              omega
            clear hdx2 hcd
            go_wp2
            go_quiet (fail)
            go_wp2
            go_roundw
            case rel => exact ⟨i + 1, 16 * a + d, by omega, by omega, by simp, by simp, HS2, he2.drewN' _⟩
            case measure => (try simp only [intOf]); (try simp); omega
          · have hcd : ¬ hexd d = c := fun h => hdx2 ((HX.out d hd16).1 h)
            have hne : (hexd d).toNat ≠ c.toNat := fun h => hcd (UInt8.toNat_inj.1 h)
            have q3 : (((hexd d).toNat : Int) != (c.toNat : Int)) = true := by simp; omega
            have q4 : ((hexd d).toNat != c.toNat) = true := by simp; omega
            have q6 : ((hexd d).toNat == c.toNat) = false := by simp; omega
            have q7 : (((hexd d).toNat : Int) == (c.toNat : Int)) = false := by simp; omega
            clear hcd hne
            go_wp2
            go_quiet (fail)
            go_wp2
            go_roundw
            case rel => exact ⟨d + 1, by omega, by simp, he2.drewN' _⟩
            case measure => (try simp only [intOf]); (try simp); omega
        · have hd : d = 16 := by omega
          subst hd
          have hN : Hid (floatOf? (L s) = none) := none_of fun y hy => by
            have h1 := HF.out y hy
            rw [HS.out, if_neg (by omega)] at h1; cases h1
          go_wp2
          go_quiet (fail)
          go_wp2
          go_ret2
          exact rfPost_none0 hN.out (he2.drewN' _)
    · have hi : i = 18 := by omega
      subst hi
      have hta : Hid (a < 18446744073709551616 ∧ unhexN 0 t = some a) := by
        obtain ⟨h1, h2⟩ := hr.out
        rw [List.drop_of_length_le (by rw [size_L]; have := HL.out; omega)] at h2
        exact ⟨Nat.lt_of_lt_of_le h1 (by decide), h2⟩
      have hau := hta.out.1
      have HPP := Lib.hid (rfPrint_any a hau)
      have HCC := Lib.hid (rCanon_any a hau)
      have HU : Hid (∀ x, floatOf? (L s) = some x → x = a) := fun x hx => by
        have := HF.out x hx
        rw [hta.out.2] at this
        exact (Option.some.inj this).symm
      have HA := Lib.hid hau
      clear hr hau
      by_cases hp : fprint a = L s
      · obtain ⟨d6, d7⟩ := cmp_eq_of (a := bs (fprint a)) (b := s) (by rw [L_bs]; exact hp)
        by_cases hcn : fcanon a = a
        · have d8 : (((fcanon a : Nat) : Int) == (a : Int)) = true := by rw [hcn]; simp
          have d9 : (fcanon a == a) = true := by rw [hcn]; simp
          have HN : Hid (floatOf? (L s) = some a) := by
            show _ = _
            rw [← hp]; exact floatOf_fprint HA.out hcn
          clear hp hcn
          go_wp2_with (first
            | (go_at_call 37; refine (HPP.out _).mono ?_; rintro e w1 ⟨rfl, he1⟩)
            | (go_at_call 55; refine (HCC.out _).mono ?_; rintro e w' ⟨rfl, rfl⟩))
          go_ret2
          exact rfPost_some HN.out (he.trans he1)
        · have d8 : (((fcanon a : Nat) : Int) == (a : Int)) = false := by simp; omega
          have d9 : (fcanon a == a) = false := by simp; omega
          have HN : Hid (floatOf? (L s) = none) := none_of fun x hx => by
            have h1 := HU.out x hx
            subst h1
            exact hcn (fprint_floatOf hx).2.1
          clear hp hcn
          go_wp2_with (first
            | (go_at_call 37; refine (HPP.out _).mono ?_; rintro e w1 ⟨rfl, he1⟩)
            | (go_at_call 55; refine (HCC.out _).mono ?_; rintro e w' ⟨rfl, rfl⟩))
          go_ret2
          exact rfPost_none HN.out HA.out (he.trans he1)
      · obtain ⟨d6, d7⟩ := cmp_ne_of (a := bs (fprint a)) (b := s) (by rw [L_bs]; exact hp)
        have HN : Hid (floatOf? (L s) = none) := none_of fun x hx => by
          have h1 := HU.out x hx
          subst h1
          exact hp (fprint_floatOf hx).2.2
        clear hp
        go_wp2_with (first
          | (go_at_call 37; refine (HPP.out _).mono ?_; rintro e w1 ⟨rfl, he1⟩)
          | (go_at_call 55; refine (HCC.out _).mono ?_; rintro e w' ⟨rfl, rfl⟩))
        go_ret2
        exact rfPost_none HN.out HA.out (he.trans he1)
end Go.Proofs.YtcnnpedmccjdkaaGreatDoor
