/- The reference's floats: FromInt. -/
import Derived.Test.YtcnnpedmccjdkaaGreatDoorRPrint
set_option linter.unusedSimpArgs false
set_option linter.unusedVariables false
namespace Go.Proofs.YtcnnpedmccjdkaaGreatDoor
open Go.RowKit
/-- m is t, doubled i times; e counts down from 1075. -/
structure NormR (t i m e : Nat) : Prop where
  t0 : t ≠ 0
  t1 : t ≤ 9007199254740992
  m : m = t * 2 ^ i
  e : e + i = 1075
  i : i ≤ 52 - t.log2
theorem NormR.step {t i m e : Nat} (h : NormR t i m e) (hm : m < 4503599627370496) : NormR t (i + 1) (m * 2) (e - 1) ∧ 0 < m ∧ 1000 < e := by
  obtain ⟨h0, h1, h2, h3, h4⟩ := h
  have hl := log2_le h0 h1
  have hne : i ≠ 52 - t.log2 := by
    rintro rfl
    by_cases hl2 : t.log2 ≤ 52
    · have := (kept_bounds h0 hl2).2.1; omega
    · have := log2_53 h0 h1 (by omega)
      have := Nat.le_mul_of_pos_right t (pow_pos2 (52 - t.log2))
      omega
  refine ⟨⟨h0, h1, by rw [h2, Nat.pow_succ, Nat.mul_assoc], by omega, by omega⟩, ?_, by omega⟩
  rw [h2]; exact Nat.mul_pos (by omega) (pow_pos2 _)
/-- m and e are t's, but for one halving. -/
def NormF (t m e : Nat) : Prop := (rungOf t = (e - 1) * 4503599627370496 + m ∧ m < 9007199254740992) ∨ (t = 9007199254740992 ∧ m = 9007199254740992 ∧ e = 1075)
theorem NormR.fin {t i m e : Nat} (h : NormR t i m e) (hm : ¬ m < 4503599627370496) : NormF t m e := by
  obtain ⟨h0, h1, h2, h3, h4⟩ := h
  by_cases hl2 : t.log2 ≤ 52
  · left
    obtain ⟨k1, k2, k3⟩ := kept_bounds h0 hl2
    have hi : i = 52 - t.log2 := by
      apply Classical.byContradiction
      intro hne
      have : t * 2 ^ i * 2 ≤ t * 2 ^ (52 - t.log2) := by
        rw [Nat.mul_assoc, ← Nat.pow_succ]
        exact Nat.mul_le_mul_left _ (Nat.pow_le_pow_right (by omega) (by omega))
      omega
    subst hi
    rw [h2]
    refine ⟨?_, k3⟩
    unfold rungOf
    rw [if_neg h0, k1]
    congr 2; omega
  · right
    have := log2_53 h0 h1 (by have := log2_le h0 h1; omega)
    subst this
    have : i = 0 := by
      have : Nat.log2 9007199254740992 = 53 := by decide +kernel
      omega
    subst this
    exact ⟨rfl, by rw [h2], by omega⟩
theorem NormF.half {t m e : Nat} (h : NormF t m e) (hm : 9007199254740992 ≤ m) : NormF t 4503599627370496 (e + 1) ∧ e ≤ 1075 := by
  rcases h with h | ⟨rfl, rfl, rfl⟩
  · omega
  · exact ⟨.inl ⟨by decide +kernel, by decide⟩, by decide⟩
theorem NormF.rung {t m e : Nat} (h : NormF t m e) (hm : m < 9007199254740992) : rungOf t = (e - 1) * 4503599627370496 + m := by
  rcases h with h | ⟨_, rfl, _⟩
  · exact h.1
  · omega
theorem ffromInt_rung (n : Int) (h : n ≠ 0) : ffromInt n = (if n < 0 then 9223372036854775808 else 0) + rungOf n.natAbs := by
  unfold ffromInt rungOf
  rw [if_neg h, if_neg (Int.natAbs_ne_zero.2 h), Nat.add_assoc]
set_option maxRecDepth 100000 in
set_option maxHeartbeats 1000000 in
theorem rFrom_any (n : Int) (h0 : -9223372036854775808 ≤ n) (h1 : n ≤ 9223372036854775807) (w : World) :
    Calls Tryz.prog 72 #[.int .i64 n] w fun e w' =>
      e = .returned (.tuple #[.int .u64 (fFromV n : Int), .bool (fFromOk n)]) ∧ w = w' := by
  unfold fFromV fFromOk
  by_cases h : n.natAbs ≤ 9007199254740992
  · rw [if_pos h, decide_eq_true h]
    have g0 : -9007199254740992 ≤ n := by omega
    have g1 : n ≤ 9007199254740992 := by omega
    by_cases hz : n = 0
    · subst hz
      rw [show ffromInt 0 = 0 from rfl]
      clear h h0 h1 g0 g1
      go_enter Tryz.func72, Tryz.ntmps72
      go_wp2
      go_ret2
      exact ⟨rfl, rfl⟩
    have hv := ffromInt_rung n hz
    have dz : (n == 0) = false := by simp [hz]
    obtain ⟨X, hX⟩ : ∃ X, ffromInt n = X := ⟨_, rfl⟩
    rw [hX] at hv ⊢
    clear hX
    by_cases hn : n < 0
    · rw [if_pos hn] at hv
      have HV := Lib.hid hv
      have HN0 : Hid (∃ (i mn en : Nat), -n = mn ∧ (1075 : Int) = en ∧ NormR n.natAbs i mn en) := ⟨0, n.natAbs, 1075, by omega, by omega, by omega, by omega, by simp, by omega, by omega⟩
      clear hv h hz
      go_enter Tryz.func72, Tryz.ntmps72
      go_wp2
      go_loop [5, 6] (fun vm ve => ∃ (m e : Int), vm = .int .u64 m ∧ ve = .int .u64 e ∧ 0 < m ∧ m ≤ 9007199254740992 ∧ 1000 ≤ e ∧ e ≤ 1075 ∧ Hid (∃ (i mn en : Nat), m = mn ∧ e = en ∧ NormR n.natAbs i mn en)) (fun vm _ => (4503599627370496 - intOf vm).toNat)
      case atStart => exact ⟨-n, 1075, rfl, rfl, by omega, by omega, by omega, by omega, HN0⟩
      case round =>
        obtain ⟨m, e, rfl, rfl, hm0, hm, he, he2, hr⟩ := hrel
        by_cases hlt : m < 4503599627370496
        · have HR : Hid ((∃ (i mn en : Nat), m * 2 = mn ∧ e - 1 = en ∧ NormR n.natAbs i mn en) ∧ 1000 < e) := by
            obtain ⟨i, mn, en, h1, h2, h⟩ := hr.out
            have := h.step (by omega)
            exact ⟨⟨i + 1, mn * 2, en - 1, by omega, by omega, this.1⟩, by omega⟩
          have he0 : 1000 < e := HR.out.2
          clear hr
          go_wp2
          go_round
          case rel => exact ⟨m * 2, e - 1, rfl, rfl, by omega, by omega, by omega, by omega, HR.out.1⟩
          case measure => (try simp only [intOf]); omega
        · have HF : Hid (∃ (mn en : Nat), m = mn ∧ e = en ∧ NormF n.natAbs mn en) := by
            obtain ⟨i, mn, en, h1, h2, h⟩ := hr.out
            exact ⟨mn, en, h1, h2, h.fin (by omega)⟩
          clear hr
          go_wp2
          go_loop [5, 6] (fun vm ve => ∃ (m e : Int), vm = .int .u64 m ∧ ve = .int .u64 e ∧ m ≤ 9007199254740992 ∧ 4503599627370496 ≤ m ∧ 1000 ≤ e ∧ e ≤ 1076 ∧ Hid (∃ (mn en : Nat), m = mn ∧ e = en ∧ NormF n.natAbs mn en)) (fun vm _ => (intOf vm).toNat)
          case atStart => exact ⟨m, e, rfl, rfl, hm, by omega, he, by omega, HF⟩
          case round =>
            obtain ⟨m, e, rfl, rfl, hm, hm2, he, he2, hr⟩ := hrel
            by_cases hlt : 9007199254740992 ≤ m
            · obtain rfl : m = 9007199254740992 := by omega
              have HR : Hid ((∃ (mn en : Nat), (4503599627370496 : Int) = mn ∧ e + 1 = en ∧ NormF n.natAbs mn en) ∧ e ≤ 1075) := by
                obtain ⟨mn, en, h1, h2, h⟩ := hr.out
                have := h.half (by omega)
                exact ⟨⟨4503599627370496, en + 1, by omega, by omega, this.1⟩, by omega⟩
              have he3 := HR.out.2
              clear hr
              go_wp2
              go_round
              case rel => exact ⟨_, e + 1, rfl, rfl, by omega, by omega, by omega, by omega, HR.out.1⟩
              case measure => (try simp only [intOf]); omega
            · have HR : Hid ((rungOf n.natAbs : Int) = (e - 1) * 4503599627370496 + m) := by
                obtain ⟨mn, en, h1, h2, h⟩ := hr.out
                have := h.rung (by omega)
                show _ = _
                omega
              clear hr
              go_wp2
              go_ret2
              refine ⟨?_, rfl⟩
              have h := HR.out
              have hX := HV.out
              refine ret_val ?_; simp; omega
    · rw [if_neg hn] at hv
      have HV := Lib.hid hv
      have HN0 : Hid (∃ (i mn en : Nat), n = mn ∧ (1075 : Int) = en ∧ NormR n.natAbs i mn en) := ⟨0, n.natAbs, 1075, by omega, by omega, by omega, by omega, by simp, by omega, by omega⟩
      clear hv h
      go_enter Tryz.func72, Tryz.ntmps72
      go_wp2
      go_loop [5, 6] (fun vm ve => ∃ (m e : Int), vm = .int .u64 m ∧ ve = .int .u64 e ∧ 0 < m ∧ m ≤ 9007199254740992 ∧ 1000 ≤ e ∧ e ≤ 1075 ∧ Hid (∃ (i mn en : Nat), m = mn ∧ e = en ∧ NormR n.natAbs i mn en)) (fun vm _ => (4503599627370496 - intOf vm).toNat)
      case atStart => exact ⟨n, 1075, rfl, rfl, by omega, by omega, by omega, by omega, HN0⟩
      case round =>
        obtain ⟨m, e, rfl, rfl, hm0, hm, he, he2, hr⟩ := hrel
        by_cases hlt : m < 4503599627370496
        · have HR : Hid ((∃ (i mn en : Nat), m * 2 = mn ∧ e - 1 = en ∧ NormR n.natAbs i mn en) ∧ 1000 < e) := by
            obtain ⟨i, mn, en, h1, h2, h⟩ := hr.out
            have := h.step (by omega)
            exact ⟨⟨i + 1, mn * 2, en - 1, by omega, by omega, this.1⟩, by omega⟩
          have he0 : 1000 < e := HR.out.2
          clear hr
          go_wp2
          go_round
          case rel => exact ⟨m * 2, e - 1, rfl, rfl, by omega, by omega, by omega, by omega, HR.out.1⟩
          case measure => (try simp only [intOf]); omega
        · have HF : Hid (∃ (mn en : Nat), m = mn ∧ e = en ∧ NormF n.natAbs mn en) := by
            obtain ⟨i, mn, en, h1, h2, h⟩ := hr.out
            exact ⟨mn, en, h1, h2, h.fin (by omega)⟩
          clear hr
          go_wp2
          go_loop [5, 6] (fun vm ve => ∃ (m e : Int), vm = .int .u64 m ∧ ve = .int .u64 e ∧ m ≤ 9007199254740992 ∧ 4503599627370496 ≤ m ∧ 1000 ≤ e ∧ e ≤ 1076 ∧ Hid (∃ (mn en : Nat), m = mn ∧ e = en ∧ NormF n.natAbs mn en)) (fun vm _ => (intOf vm).toNat)
          case atStart => exact ⟨m, e, rfl, rfl, hm, by omega, he, by omega, HF⟩
          case round =>
            obtain ⟨m, e, rfl, rfl, hm, hm2, he, he2, hr⟩ := hrel
            by_cases hlt : 9007199254740992 ≤ m
            · obtain rfl : m = 9007199254740992 := by omega
              have HR : Hid ((∃ (mn en : Nat), (4503599627370496 : Int) = mn ∧ e + 1 = en ∧ NormF n.natAbs mn en) ∧ e ≤ 1075) := by
                obtain ⟨mn, en, h1, h2, h⟩ := hr.out
                have := h.half (by omega)
                exact ⟨⟨4503599627370496, en + 1, by omega, by omega, this.1⟩, by omega⟩
              have he3 := HR.out.2
              clear hr
              go_wp2
              go_round
              case rel => exact ⟨_, e + 1, rfl, rfl, by omega, by omega, by omega, by omega, HR.out.1⟩
              case measure => (try simp only [intOf]); omega
            · have HR : Hid ((rungOf n.natAbs : Int) = (e - 1) * 4503599627370496 + m) := by
                obtain ⟨mn, en, h1, h2, h⟩ := hr.out
                have := h.rung (by omega)
                show _ = _
                omega
              clear hr
              go_wp2
              go_ret2
              refine ⟨?_, rfl⟩
              have h := HR.out
              have hX := HV.out
              refine ret_val ?_; simp; omega
  · rw [if_neg h, decide_eq_false h]
    by_cases hn : n < -9007199254740992
    · clear h
      go_enter Tryz.func72, Tryz.ntmps72
      go_wp2
      go_ret2
      exact ⟨rfl, rfl⟩
    · have g1 : 9007199254740992 < n := by omega
      clear h
      go_enter Tryz.func72, Tryz.ntmps72
      go_wp2
      go_ret2
      exact ⟨rfl, rfl⟩
end Go.Proofs.YtcnnpedmccjdkaaGreatDoor
