/- strconv.ParseUint at base 16: whatever the text it returns; of sixteen digits their number. -/
import Derived.Test.YtcnnpedmccjdkaaGreatDoorFmt
import Derived.Lib.ConvBytes
import Derived.Lib.AtoiAllMem
import Derived.Lib.AtoiErrMem
import Derived.Laws.Closers25
import Derived.Laws.Closers25b
set_option linter.unusedSimpArgs false
set_option linter.unusedVariables false
namespace Go.Proofs.YtcnnpedmccjdkaaGreatDoor
open Go.RowKit
theorem hexd_cases (d : Nat) (h : d < 16) : (48 ≤ (hexd d).toNat ∧ (hexd d).toNat ≤ 57 ∧ (hexd d).toNat = d + 48) ∨ (97 ≤ (hexd d).toNat ∧ (hexd d).toNat ≤ 102 ∧ (hexd d).toNat = d + 87) := by
  have : ∀ d : Fin 16, (48 ≤ (hexd d.val).toNat ∧ (hexd d.val).toNat ≤ 57 ∧ (hexd d.val).toNat = d.val + 48) ∨ (97 ≤ (hexd d.val).toNat ∧ (hexd d.val).toNat ≤ 102 ∧ (hexd d.val).toNat = d.val + 87) := by decide +kernel
  exact this ⟨d, h⟩
theorem hexN_get (k u : Nat) : ∀ i (h : i < k), (hexN k u)[i]'(by rw [hexN_length]; exact h) = hexd (u / 16 ^ (k - 1 - i) % 16) := by
  induction k with
  | zero => intro i h; omega
  | succ k ih =>
    intro i h
    cases i with
    | zero => simp only [hexN_succ, List.getElem_cons_zero]; congr 2
    | succ i => simp only [hexN_succ, List.getElem_cons_succ]; rw [ih i (by omega)]; congr 4; omega
/-- One digit of sixteen. -/
theorem hex_step {l : B} {v k : Nat} (hv : v < 18446744073709551616) (h : l = hexN 16 v) (hk : k < l.length) :
    k < 16 ∧ v / 16 ^ (16 - (k + 1)) = v / 16 ^ (16 - k) * 16 + v / 16 ^ (15 - k) % 16 ∧ v / 16 ^ (16 - k) < 1152921504606846976 ∧
    ((48 ≤ l[k].toNat ∧ l[k].toNat ≤ 57 ∧ l[k].toNat = v / 16 ^ (15 - k) % 16 + 48) ∨ (97 ≤ l[k].toNat ∧ l[k].toNat ≤ 102 ∧ l[k].toNat = v / 16 ^ (15 - k) % 16 + 87)) := by
  have hl : l.length = 16 := by rw [h, hexN_length]
  have hk16 : k < 16 := by omega
  refine ⟨hk16, ?_, ?_, ?_⟩
  · have e : v / 16 ^ (16 - k) = v / 16 ^ (15 - k) / 16 := by
      rw [Nat.div_div_eq_div_mul, ← Nat.pow_succ]; congr 2; omega
    rw [e, show 16 - (k + 1) = 15 - k by omega, Nat.mul_comm]
    exact (Nat.div_add_mod _ _).symm
  · have h1 : v / 16 ^ (16 - k) ≤ v / 16 ^ 1 := Nat.div_le_div_left (Nat.pow_le_pow_right (by omega) (by omega)) (by omega)
    have h2 : v / 16 ^ 1 < 1152921504606846976 := by rw [Nat.pow_one]; omega
    omega
  · subst h
    have hg := hexN_get 16 v k hk16
    rw [show 16 - 1 - k = 15 - k by omega] at hg
    rw [hg]
    exact hexd_cases _ (Nat.mod_lt _ (by omega))
theorem or_lower : ∀ c : Fin 256, 97 ≤ c.val → c.val ≤ 122 → bits .or .u8 (c.val : Int) 32 = (c.val : Int) := by decide +kernel
/-- What the number gathered is worth behind k bytes. -/
def PuRel (l : B) (k acc : Nat) : Prop := acc < 18446744073709551616 ∧ ∀ v, v < 18446744073709551616 → l = hexN 16 v → acc = v / 16 ^ (16 - k)
theorem PuRel.no {l : B} {k : Nat} (hk : k < l.length) (hd : ¬ (48 ≤ l[k].toNat ∧ l[k].toNat ≤ 57)) (hl : ¬ (97 ≤ l[k].toNat ∧ l[k].toNat ≤ 102)) :
    ∀ v, v < 18446744073709551616 → l ≠ hexN 16 v := fun v hv h => by
  obtain ⟨_, _, _, hc⟩ := hex_step hv h hk
  omega
theorem PuRel.over {l : B} {k acc : Nat} (h : PuRel l k acc) (hk : k < l.length) (ha : 1152921504606846976 ≤ acc) :
    ∀ v, v < 18446744073709551616 → l ≠ hexN 16 v := fun v hv e => by
  obtain ⟨_, _, hb, _⟩ := hex_step hv e hk
  have := h.2 v hv e
  omega
theorem PuRel.step {l : B} {k acc d : Nat} (h : PuRel l k acc) (hk : k < l.length) (ha : acc < 1152921504606846976) (hd16 : d < 16)
    (hd : (48 ≤ l[k].toNat ∧ l[k].toNat ≤ 57 ∧ l[k].toNat = d + 48) ∨ (97 ≤ l[k].toNat ∧ l[k].toNat ≤ 102 ∧ l[k].toNat = d + 87) ∨ (¬ (48 ≤ l[k].toNat ∧ l[k].toNat ≤ 57) ∧ ¬ (97 ≤ l[k].toNat ∧ l[k].toNat ≤ 102))) : PuRel l (k + 1) (acc * 16 + d) := by
  refine ⟨by omega, fun v hv e => ?_⟩
  obtain ⟨_, hs, _, hc⟩ := hex_step hv e hk
  have := h.2 v hv e
  rw [hs, ← this]
  omega
def PuErr (v : Value) : Prop := v = .nilIface ∨ v = .iface 174 (.int .i64 1) ∨ v = .iface 174 (.int .i64 2)
def PuPost (l : B) (w : World) (e : Ending) (w' : World) : Prop := ∃ (x : Int) (v : Value), 0 ≤ x ∧ x < 18446744073709551616 ∧ PuErr v ∧ e = .returned (.tuple #[.int .u64 x, v]) ∧ (∀ u, u < 18446744073709551616 → l = hexN 16 u → x = (u : Int)) ∧ Ext w w'
set_option maxHeartbeats 4000000 in
set_option maxRecDepth 100000 in
theorem pu_16 (s : ByteArray) (hmax : s.size ≤ 9223372036854775806) (w : World) :
    Calls Tryz.prog 153 #[.string s, .int .i64 16, .int .i64 64] w (PuPost (L s) w) := by
  by_cases hne : s.size = 0
  · have hemp : s.toList.isEmpty = true := by
      rw [← decide_eq_emptyBytes]
      exact decide_eq_true (by have h := List.eq_nil_of_length_eq_zero ((size_L s).trans hne); rw [← bs_L s, h]; rfl)
    go_enter Tryz.func153, Tryz.ntmps153
    go_wp2
    go_ret2
    exact ⟨0, _, by omega, by omega, .inr (.inr rfl), rfl, fun v hv h => by have := congrArg List.length h; rw [hexN_length, size_L] at this; omega, Ext.refl _⟩
  have hemp : s.toList.isEmpty = false := by
    rw [← decide_eq_emptyBytes]
    exact decide_eq_false (fun h => hne (by rw [h]; rfl))
  have hcv := Lib.run_convert_string_bytes (P := Tryz.prog) w 9 78 5 s (u := .string) Tryz.underlying9 Tryz.underlying78 Tryz.underlying5
  have hB : ∀ j, j < s.size → (Lib.bytesWorld w 5 s).cell? ⟨w.heap.size, j, none⟩ = some (.int .u8 (s.data.toList.getD j 0).toNat) := fun j hj => Lib.bytesWorld_cell w 5 s j hj
  have hX : Ext w (Lib.bytesWorld w 5 s) := by
    exact Lib.bytesWorld_below _ _ _
  obtain ⟨W1, hW1⟩ : ∃ W1, W1 = Lib.bytesWorld w 5 s := ⟨_, rfl⟩
  rw [← hW1] at hcv hB hX
  clear hW1
  obtain ⟨l, hL⟩ : ∃ l, l = L s := ⟨_, rfl⟩
  have hLn : l.length = s.size := by rw [hL, size_L]
  have hL' : s.data.toList = l := hL.symm
  rw [hL'] at hB
  rw [← hL]
  clear hL hL'
  have hmv : IntKind.u64.wrap (IntKind.u64.wrap 18446744073709551616 - 1) = 18446744073709551615 := by
    rw [IntKind.wrap_u64, IntKind.wrap_u64]
    decide
  go_enter Tryz.func153, Tryz.ntmps153
  go_wp2
  go_loop [12, 13, 101] (fun vu vn vi => ∃ (k acc : Nat) (a : Int), vu = .bool false ∧ vn = .int .u64 a ∧ vi = .int .i64 k ∧ k ≤ s.size ∧ Hid (a = (acc : Int) ∧ PuRel l k acc))
    (fun _ _ vi => s.size - (intOf vi).toNat)
  case atStart => exact ⟨0, 0, 0, rfl, rfl, rfl, by omega, rfl, by omega, fun v hv _ => by rw [Nat.div_eq_of_lt]; exact Nat.lt_of_lt_of_le hv (by decide)⟩
  case round =>
    obtain ⟨k, acc, a, rfl, rfl, rfl, hk, hh⟩ := hrel
    obtain ⟨ha, hr⟩ := hh.out
    clear hh
    have hacc := hr.1
    have a0 : 0 ≤ a := by omega
    have a1 : a < 18446744073709551616 := by omega
    have HR := Lib.hid hr
    have HA := Lib.hid ha
    clear hr
    by_cases hkn : k < s.size
    · have hc := hB k hkn
      have hkl : k < l.length := by omega
      have hget : l.getD k 0 = l[k]'hkl := by simp [List.getD, List.getElem?_eq_getElem hkl]
      rw [hget] at hc
      clear hB hget
      have hno := fun h1 h2 => PuRel.no hkl h1 h2
      have hov := fun h1 => PuRel.over HR.out hkl h1
      have hst := fun d h1 h2 h3 => PuRel.step (d := d) HR.out hkl h1 h2 h3
      have hlw := or_lower ⟨(l[k]'hkl).toNat, UInt8.toNat_lt _⟩
      have hc256 : (l[k]'hkl).toNat < 256 := UInt8.toNat_lt _
      dsimp only at hlw
      generalize (l[k]'hkl).toNat = c at *
      have HNO := Lib.hid hno
      have HOV := Lib.hid hov
      have HST := Lib.hid hst
      have HLW := Lib.hid hlw
      clear hno hov hst hlw hkl
      by_cases hdig : 48 ≤ c ∧ c ≤ 57
      · obtain ⟨hd0, hd1⟩ := hdig
        by_cases hcut : 1152921504606846976 ≤ acc
        · have icut : 1152921504606846976 ≤ a := by omega
          have HF := Lib.hid (HOV.out hcut)
          clear hcut hacc ha
          go_wp2
          go_ret2
          exact ⟨18446744073709551615, _, by decide, by decide, .inr (.inl rfl), rfl, fun v hv h => absurd h (HF.out v hv), hX⟩
        · have icut : a < 1152921504606846976 := by omega
          have HN := Lib.hid (HST.out (c - 48) (by omega) (by omega) (.inl (by omega)))
          clear hcut hacc ha
          go_wp2
          refine ⟨⟨k + 1, acc * 16 + (c - 48), a * 16 + ((c : Int) - 48), rfl, (by first | rfl | (congr 1; omega)), (by first | rfl | (congr 1; omega)), by omega, ⟨by have := HA.out; omega, HN.out⟩⟩, by simp [intOf]; omega⟩
      · have hv0 := bits_lo_u8 .or (c : Int) 32
        have hv1 := bits_hi_u8 .or (c : Int) 32
        have hu0 := bits_lo_u8 .or 95 32
        have hu1 := bits_hi_u8 .or 95 32
        have HC := Lib.hid hacc
        clear ha hacc
        go_wp2_with (go_at_call 159; refine (Tryz.internal_strconv_lower _ _).mono ?_; rintro e w' ⟨rfl, rfl⟩)
        all_goals (clear hu0 hu1; have hlw := HLW.out; have ha := HA.out; generalize bits .or .u8 (c : Int) 32 = y at *)
        all_goals first
          | (go_ret2
             first
               | (refine ⟨0, _, by omega, by omega, .inr (.inr rfl), rfl, fun v hv h => absurd h (HNO.out hdig (fun h => ?_) v hv), hX⟩; have := hlw h.1 (by omega); omega)
               | exact ⟨18446744073709551615, _, by decide, by decide, .inr (.inl rfl), rfl, fun v hv h => absurd h (HOV.out (by omega) v hv), hX⟩)
          | (refine ⟨⟨k + 1, acc * 16 + (y - 97 + 10).toNat, a * 16 + (y - 97 + 10), rfl, rfl, (by first | rfl | (congr 1; omega)), by omega, ⟨by omega, HST.out _ (by omega) (by omega) ?_⟩⟩, by simp [intOf]; omega⟩
             by_cases h2 : 97 ≤ c ∧ c ≤ 102
             · have := hlw h2.1 (by omega); exact .inr (.inl (by omega))
             · exact .inr (.inr ⟨hdig, h2⟩))
    · have hkk : k = s.size := by omega
      subst hkk
      have hfin := HR.out.2
      have HF := Lib.hid hfin
      clear hacc hfin ha
      go_wp2
      go_ret2
      refine ⟨a, _, a0, a1, .inl rfl, rfl, fun v hv h => ?_, hX⟩
      have h16 : s.size = 16 := by rw [← hLn, h, hexN_length]
      rw [HA.out, HF.out v hv h, h16]; simp
def PuPost' (l : B) (w : World) (e : Ending) (w' : World) : Prop := ∃ (x : Int) (v : Value), 0 ≤ x ∧ x < 18446744073709551616 ∧ e = .returned (.tuple #[.int .u64 x, v]) ∧ (∀ u, u < 18446744073709551616 → l = hexN 16 u → x = (u : Int)) ∧ Ext w w'
set_option maxRecDepth 100000 in
set_option maxHeartbeats 1000000 in
theorem ParseUint_16 (s : ByteArray) (hmax : s.size ≤ 140737488351232) (w : World) (g : Glob w) :
    Calls Tryz.prog 137 #[.string s, .int .i64 16, .int .i64 64] w (PuPost' (L s) w) := by
  have HG := Lib.hid g
  clear g
  go_enter Tryz.func137, Tryz.ntmps137
  go_wp2_with fail
  refine (pu_16 s (by omega) _).mono ?_
  rintro e w1 ⟨x, v, h0, h1, hv, rfl, hx, he⟩
  have HX := Lib.hid hx
  clear hx
  have g1 := HG.out.ext he
  rcases hv with rfl | rfl | rfl
  · go_wp2
    go_ret2
    exact ⟨x, _, h0, h1, rfl, HX.out, he⟩
  · obtain ⟨ev, h2, h3⟩ := g1.rngCell
    have H2 := Lib.hid h2
    clear h2 g1
    go_wp2_with (go_at_call 125; refine (Tryz.strconv_toError_range _ s _ _ ev _ (by omega) H2.out h3).mono ?_; rintro e w2 ⟨n, rfl, _, _, hb⟩)
    go_ret2
    exact ⟨x, _, h0, h1, rfl, HX.out, he.trans hb⟩
  · obtain ⟨ev, h2, h3⟩ := g1.synCell
    have H2 := Lib.hid h2
    clear h2 g1
    go_wp2_with (go_at_call 125; refine (Tryz.strconv_toError_syntax _ s _ _ ev _ (by omega) H2.out h3).mono ?_; rintro e w2 ⟨n, rfl, _, _, hb⟩)
    go_ret2
    exact ⟨x, _, h0, h1, rfl, HX.out, he.trans hb⟩
end Go.Proofs.YtcnnpedmccjdkaaGreatDoor
