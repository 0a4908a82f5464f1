/- strconv.Atoi; float: candidate and Parse. -/
import Derived.Test.YtcnnpedmccjdkaaGreatDoorFloatW
import Derived.Test.YtcnnpedmccjdkaaGreatDoorText3
set_option linter.unusedSimpArgs false
set_option linter.unusedVariables false
namespace Go.Proofs.YtcnnpedmccjdkaaGreatDoor
open Go.RowKit
theorem atoi_bounds {l : B} {n : Int} (h : Lib.atoiAll l = .ok n) : -9223372036854775808 ≤ n ∧ n ≤ 9223372036854775807 := by
  unfold Lib.atoiAll at h
  split at h
  · cases h
  · dsimp only at h
    split at h
    · cases h
    · cases h
    · rename_i u hu
      split at h
      · cases h
      · split at h
        · cases h
        · injection h with h
          subst h
          split <;> omega
def AtoiPost (l : B) (w : World) (e : Ending) (w' : World) : Prop :=
  ∃ (n : Int) (v : Value), -9223372036854775808 ≤ n ∧ n ≤ 9223372036854775807 ∧ e = .returned (.tuple #[.int .i64 n, v]) ∧
    ((v = .nilIface ∧ Lib.atoiAll l = .ok n) ∨ ((∃ b, v = .iface 177 (.pointer (some ⟨b, 0, none⟩))) ∧ ∀ m, Lib.atoiAll l ≠ .ok m)) ∧ Ext w w'
theorem Atoi_any (s : ByteArray) (hs : s.size ≤ 140737488351232) (w : World) (g : Glob w) :
    Calls Tryz.prog 108 #[.string s] w (AtoiPost (L s) w) := by
  rcases h : Lib.atoiAll (L s) with n | _ | _
  · refine (Tryz.strconv_Atoi_ok s (by omega) n h w).mono ?_
    rintro e w' ⟨rfl, hw⟩
    obtain ⟨h0, h1⟩ := atoi_bounds h
    refine ⟨n, _, h0, h1, rfl, .inl ⟨rfl, h⟩, ?_⟩
    rcases hw with rfl | ⟨t, rfl⟩
    · exact Ext.refl _
    · exact Lib.bytesWorld_below _ _ _
  · obtain ⟨tp, p, hv⟩ := g.syn
    refine (Tryz.strconv_Atoi_syntax_var s (by omega) h tp p w hv).mono ?_
    rintro e w' ⟨N, rfl, _, _, hb⟩
    exact ⟨0, _, by omega, by omega, rfl, .inr ⟨⟨N, rfl⟩, fun m e => by rw [h] at e; cases e⟩, hb⟩
  · obtain ⟨tp, p, hv⟩ := g.rng
    refine (Tryz.strconv_Atoi_range_var s (by omega) h tp p w hv).mono ?_
    rintro e w' ⟨N, rfl, _, _, hb⟩
    refine ⟨Lib.atoiSat (L s), _, ?_, ?_, rfl, .inr ⟨⟨N, rfl⟩, fun m e => by rw [h] at e; cases e⟩, hb⟩ <;> (unfold Lib.atoiSat; split <;> omega)
theorem floatOf_hex {t : B} {x : Nat} (h : floatOf? (48 :: 120 :: t) = some x) : t = hexN 16 x := by
  unfold floatOf? at h
  rw [if_neg (by intro e; injection e with e _; exact absurd e (by decide)), if_neg (by intro e; injection e with e _; exact absurd e (by decide)),
    if_neg (by intro e; injection e with e _; exact absurd e (by decide)), if_neg (by intro e; injection e with e _; exact absurd e (by decide))] at h
  split at h
  · rename_i hl
    have hn : intOf? (48 :: 120 :: t).dropLast = none := by
      cases t with
      | nil => cases hl
      | cons a t => rfl
    rw [hn] at h; cases h
  · simp only [] at h
    split at h
    · rename_i hlen
      split at h
      · rename_i y hy
        split at h
        · have e := Option.some.inj h; subst e
          exact (hexN_unhexN 16 _ _ hlen hy).1.symm
        · cases h
      · cases h
    · cases h
theorem floatOf_dot {l : B} {x : Nat} (h : floatOf? l = some x) (k1 : l ≠ [110, 97, 110]) (k2 : l ≠ [105, 110, 102]) (k3 : l ≠ [45, 105, 110, 102]) (k4 : l ≠ [45, 48, 46])
    (k5 : Lib.hasPrefix l [48, 120] = false) : ∃ n : Int, intOf? (Lib.trimSuffix l [46]) = some n ∧ n.natAbs ≤ 9007199254740992 ∧ x = ffromInt n := by
  unfold floatOf? at h
  rw [if_neg k1, if_neg k2, if_neg k3, if_neg k4] at h
  split at h
  · rename_i hl
    have ht : Lib.trimSuffix l [46] = l.dropLast := by
      have hne : l ≠ [] := by intro e; rw [e] at hl; cases hl
      rw [List.getLast?_eq_some_getLast hne] at hl
      have := List.dropLast_concat_getLast hne
      rw [Option.some.inj hl] at this
      unfold Lib.trimSuffix Lib.hasSuffix
      rw [if_pos, List.dropLast_eq_take]; rfl
      rw [← this]; simp
    rw [ht]
    split at h
    · rename_i n hn
      split at h
      · exact ⟨n, hn, by assumption, (Option.some.inj h).symm⟩
      · cases h
    · cases h
  · split at h
    · rename_i t
      exact absurd k5 (by simp [Lib.hasPrefix])
    · cases h
def FcPost (l : B) (w : World) (e : Ending) (w' : World) : Prop :=
  ∃ u : Nat, u < 18446744073709551616 ∧ e = .returned (.int .u64 u) ∧ (∀ x, floatOf? l = some x → u = x) ∧ Ext w w'
set_option maxRecDepth 100000 in
set_option maxHeartbeats 1000000 in
theorem fcand_any (s : ByteArray) (hs : s.size ≤ 140737488351232) (w : World) (g : Glob w) :
    Calls Tryz.prog 123 #[.string s] w (FcPost (L s) w) := by
  have h97 := call_frombits
  have h98 := call_bits
  by_cases c1 : L s = [110, 97, 110]
  · have d1 := str_eq c1
    have HF : Hid (∀ x, floatOf? (L s) = some x → fnan = x) := fun x h => by rw [c1] at h; exact Option.some.inj h
    clear c1 g
    go_enter Tryz.func123, Tryz.ntmps123
    go_wp2
    go_ret
    exact ⟨fnan, by decide, rfl, HF.out, Ext.refl _⟩
  have d1 := str_ne c1
  by_cases c2 : L s = [105, 110, 102]
  · have d2 := str_eq c2
    have HF : Hid (∀ x, floatOf? (L s) = some x → finf = x) := fun x h => by rw [c2] at h; exact Option.some.inj h
    clear c1 c2 g
    go_enter Tryz.func123, Tryz.ntmps123
    go_wp2
    go_ret
    exact ⟨finf, by decide, rfl, HF.out, Ext.refl _⟩
  have d2 := str_ne c2
  by_cases c3 : L s = [45, 105, 110, 102]
  · have d3 := str_eq c3
    have HF : Hid (∀ x, floatOf? (L s) = some x → fninf = x) := fun x h => by rw [c3] at h; exact Option.some.inj h
    clear c1 c2 c3 g
    go_enter Tryz.func123, Tryz.ntmps123
    go_wp2
    go_ret
    exact ⟨fninf, by decide, rfl, HF.out, Ext.refl _⟩
  have d3 := str_ne c3
  by_cases c4 : L s = [45, 48, 46]
  · have d4 := str_eq c4
    have HF : Hid (∀ x, floatOf? (L s) = some x → fnegz = x) := fun x h => by rw [c4] at h; exact Option.some.inj h
    clear c1 c2 c3 c4 g
    go_enter Tryz.func123, Tryz.ntmps123
    go_wp2
    go_ret
    exact ⟨fnegz, by decide, rfl, HF.out, Ext.refl _⟩
  have d4 := str_ne c4
  have HG := Lib.hid g
  clear g
  cases c5 : Lib.hasPrefix (L s) [48, 120] with
  | true =>
    obtain ⟨t, ht⟩ : ∃ t, L s = 48 :: 120 :: t := by
      unfold Lib.hasPrefix at c5
      obtain ⟨t, ht⟩ := List.isPrefixOf_iff_prefix.1 c5
      exact ⟨t, ht.symm⟩
    have htr : Lib.trimPrefix (L s) [48, 120] = t := by unfold Lib.trimPrefix; rw [c5, ht]; rfl
    have hsz : (bs t).size ≤ 140737488351232 := by
      have := size_L s; rw [ht] at this; rw [size_bs]; simp at this; omega
    have HP := Lib.hid (fun w g => ParseUint_16 (bs t) hsz w g)
    have HX : Hid (∀ x, floatOf? (L s) = some x → x < 18446744073709551616 ∧ t = hexN 16 x) := fun x h => ⟨(fprint_floatOf h).1, by rw [ht] at h; exact floatOf_hex h⟩
    have HC := Lib.hid (Tryz.strings_CutPrefix s (bs [48, 120]))
    have H5 := Lib.hid c5
    have HT := Lib.hid htr
    clear c1 c2 c3 c4 c5 ht htr hsz
    go_enter Tryz.func123, Tryz.ntmps123
    go_wp2_with (first
      | (go_at_call 105; refine (HC.out _).mono ?_; rintro e w' ⟨rfl, rfl⟩; rw [show (bs [48, 120]).data.toList = [48, 120] from rfl, H5.out, HT.out])
      | (go_at_call 137; refine (HP.out _ HG.out).mono ?_; rintro e w2 ⟨x, v, h0, h1, rfl, hx, he⟩; have HX2 := Lib.hid hx; clear hx))
    go_ret
    obtain ⟨y, rfl⟩ := Int.eq_ofNat_of_zero_le h0
    exact ⟨y, by omega, rfl, fun x h => by obtain ⟨a, b⟩ := HX.out x h; have := HX2.out x a b; omega, he⟩
  | false =>
    have htr : Lib.trimPrefix (L s) [48, 120] = L s := by unfold Lib.trimPrefix; rw [c5]; rfl
    obtain ⟨t, ht⟩ : ∃ t, t = Lib.trimSuffix (L s) [46] := ⟨_, rfl⟩
    have hsz : (bs t).size ≤ 140737488351232 := by
      rw [size_bs, ht]; unfold Lib.trimSuffix
      have := size_L s
      split
      · rw [List.length_take]; omega
      · omega
    have HA := Lib.hid (fun w g => Atoi_any (bs t) hsz w g)
    have HX : Hid (∀ x, floatOf? (L s) = some x → ∃ n : Int, Lib.atoiAll t = .ok n ∧ n.natAbs ≤ 9007199254740992 ∧ x = ffromInt n) := fun x h => by
      obtain ⟨n, h1, h2, h3⟩ := floatOf_dot h c1 c2 c3 c4 c5
      obtain ⟨h4, h5, h6⟩ := itoa_of_intOf h1
      exact ⟨n, by rw [ht, ← h4]; exact atoi_itoa h5 h6, h2, h3⟩
    have HC := Lib.hid (Tryz.strings_CutPrefix s (bs [48, 120]))
    have HS := Lib.hid (Tryz.strings_TrimSuffix s (bs [46]))
    have H5 := Lib.hid c5
    have HT := Lib.hid htr
    have HT2 := Lib.hid ht
    clear c1 c2 c3 c4 c5 ht htr hsz
    go_enter Tryz.func123, Tryz.ntmps123
    go_wp2_with (first
      | (go_at_call 105; refine (HC.out _).mono ?_; rintro e w' ⟨rfl, rfl⟩; rw [show (bs [48, 120]).data.toList = [48, 120] from rfl, H5.out, HT.out])
      | (go_at_call 138; refine (HS.out _ (by omega)).mono ?_; rintro e w' ⟨rfl, rfl⟩; rw [show Lib.trimSuffix s.data.toList (bs [46]).data.toList = t from HT2.out.symm])
      | (go_at_call 108; refine (HA.out _ HG.out).mono ?_; rintro e w2 ⟨n, v, h0, h1, rfl, hx, he⟩; have HX2 := Lib.hid hx; clear hx)
      | (go_at_call 139; refine (FromInt_any n h0 h1 _).mono ?_; rintro e w3 ⟨rfl, rfl⟩))
    go_ret
    refine ⟨fFromV n, ?_, rfl, fun x h => ?_, he⟩
    · unfold fFromV
      split
      · rename_i hb; exact (ffromInt_facts hb).1
      · decide
    · obtain ⟨m, a1, a2, a3⟩ := HX.out x h
      rcases HX2.out with ⟨_, b⟩ | ⟨_, b⟩
      · have b' : Lib.atoiAll t = .ok n := b
        rw [a1] at b'; injection b' with b'; subst b'
        unfold fFromV; rw [if_pos a2, a3]
      · exact absurd a1 (b m)
/-- What Parse hands back. -/
def FpPost (l : B) (w : World) (e : Ending) (w' : World) : Prop :=
  e = .returned (.tuple #[.int .u64 (((floatOf? l).getD 0 : Nat) : Int), .bool (floatOf? l).isSome]) ∧ Ext w w'
set_option maxRecDepth 100000 in
set_option maxHeartbeats 1000000 in
theorem fParse_any (s : ByteArray) (hs : s.size ≤ 140737488351232) (w : World) (g : Glob w) :
    Calls Tryz.prog 107 #[.string s] w (FpPost (L s) w) := by
  have HG := Lib.hid g
  clear g
  go_enter Tryz.func107, Tryz.ntmps107
  go_wp2_with fail
  refine (fcand_any s hs _ HG.out).mono ?_
  rintro e w1 ⟨u, hu, rfl, hx, he⟩
  have HX := Lib.hid hx
  clear hx
  have g1 := Lib.hid (HG.out.ext he)
  go_wp2_with fail
  refine (fPrint_any u hu _ g1.out).mono ?_
  rintro e w2 ⟨rfl, he2⟩
  by_cases hp : fprint u = L s
  · obtain ⟨d1, d2⟩ := cmp_eq_of (a := bs (fprint u)) (b := s) hp
    by_cases hc : fcanon u = u
    · have hf : floatOf? (L s) = some u := by rw [← hp]; exact floatOf_fprint hu hc
      have HF := Lib.hid hf
      have HC := Lib.hid (Canon_any u)
      rw [hc] at HC
      clear hp hc hf
      go_wp2_with (go_at_call 84; refine (HC.out _).mono ?_; rintro e w' ⟨rfl, rfl⟩)
      go_ret2
      exact ⟨by rw [HF.out]; rfl, he.trans he2⟩
    · have hf : floatOf? (L s) = none := by
        cases h : floatOf? (L s) with
        | none => rfl
        | some x => exact absurd (by rw [HX.out x h]; exact (fprint_floatOf h).2.1) hc
      have HF := Lib.hid hf
      have d3 : ((fcanon u : Int) == (u : Int)) = false := by simp; exact_mod_cast hc
      have d4 : ((fcanon u : Int) != (u : Int)) = true := by simp; exact_mod_cast hc
      have HC := Lib.hid (Canon_any u)
      clear hp hc hf
      go_wp2_with (go_at_call 84; refine (HC.out _).mono ?_; rintro e w' ⟨rfl, rfl⟩)
      go_ret2
      exact ⟨by rw [HF.out]; rfl, he.trans he2⟩
  · obtain ⟨d1, d2⟩ := cmp_ne_of (a := bs (fprint u)) (b := s) hp
    have hf : floatOf? (L s) = none := by
      cases h : floatOf? (L s) with
      | none => rfl
      | some x => exact absurd (by rw [HX.out x h]; exact (fprint_floatOf h).2.2) hp
    have HF := Lib.hid hf
    clear hp hf
    go_wp2_with fail
    go_ret2
    exact ⟨by rw [HF.out]; rfl, he.trans he2⟩
end Go.Proofs.YtcnnpedmccjdkaaGreatDoor
