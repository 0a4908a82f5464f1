/- The reference's values: Parse. -/
import Derived.Test.YtcnnpedmccjdkaaGreatDoorRParseD
import Derived.Test.YtcnnpedmccjdkaaGreatDoorRNum2
import Derived.Test.YtcnnpedmccjdkaaGreatDoorValE

set_option linter.unusedSimpArgs false
set_option linter.unusedVariables false
namespace Go.Proofs.YtcnnpedmccjdkaaGreatDoor
open Go.RowKit
theorem vparse_float {l : B} (h1 : l ≠ [110, 117, 108, 108]) (h2 : l ≠ [102, 97, 108, 115, 101]) (h3 : l ≠ [116, 114, 117, 101]) {u : Nat} (h : floatOf? l = some u) : vparse l = some ⟨4, 0, [], u⟩ := by
  unfold vparse; rw [if_neg h1, if_neg h2, if_neg h3, h]
theorem vparse_int {l : B} (h1 : l ≠ [110, 117, 108, 108]) (h2 : l ≠ [102, 97, 108, 115, 101]) (h3 : l ≠ [116, 114, 117, 101]) (h : floatOf? l = none) {n : Int} (hn : intOf? l = some n) : vparse l = some ⟨1, n, [], 0⟩ := by
  unfold vparse; rw [if_neg h1, if_neg h2, if_neg h3, h, hn]
def hexOf (l : B) : Option Val := match l with
  | 120 :: t => match unhexS t with
    | some b => if b.length ≤ 64 then some ⟨3, 0, b, 0⟩ else none
    | none => none
  | _ => none
theorem vparse_hex {l : B} (h1 : l ≠ [110, 117, 108, 108]) (h2 : l ≠ [102, 97, 108, 115, 101]) (h3 : l ≠ [116, 114, 117, 101]) (h : floatOf? l = none) (hn : intOf? l = none) : vparse l = hexOf l := by
  unfold vparse hexOf; rw [if_neg h1, if_neg h2, if_neg h3, h, hn]; rfl
theorem unhexS_len : ∀ {t b : B}, unhexS t = some b → t.length = 2 * b.length
  | [], b, h => by cases h; rfl
  | [_], b, h => by cases h
  | x :: y :: t, b, h => by
    unfold unhexS at h
    split at h
    · rename_i r _ _ hr
      cases h
      have := unhexS_len hr
      simp; omega
    · cases h
theorem unhexS_step (a b : UInt8) (t : B) : unhexS (a :: b :: t) = if hexIx a < 16 ∧ hexIx b < 16 then (unhexS t).map (UInt8.ofNat (16 * hexIx a + hexIx b) :: ·) else none := by
  rw [unhexS, unhexd_ix, unhexd_ix]
  by_cases h1 : hexIx a < 16 <;> by_cases h2 : hexIx b < 16 <;> simp [h1, h2]
  cases unhexS t <;> simp
theorem vpNone {l : B} {w w' : World} (h : vparse l = none) (he : Ext w w') : VpPost l w (.returned (.tuple #[encV vzero, .bool false])) w' := by
  unfold VpPost; rw [h]; exact ⟨rfl, he⟩
theorem vpSome {l : B} {w w' : World} {v : Val} (h : vparse l = some v) (he : Ext w w') : VpPost l w (.returned (.tuple #[encV v, .bool true])) w' := by
  unfold VpPost; rw [h]; exact ⟨rfl, he⟩
set_option maxRecDepth 100000 in
set_option maxHeartbeats 4000000 in
theorem rvParse_any (s : ByteArray) (hs : s.size ≤ 1000000) (w : World) :
    Calls Tryz.prog 34 #[.string s] w (VpPost (L s) w) := by
  by_cases c1 : L s = [110, 117, 108, 108]
  · have d1 := str_eq c1
    obtain ⟨_, d1n⟩ := cmp_eq_of (a := s) (b := ByteArray.mk #[110, 117, 108, 108]) c1
    have d2 := str_ne (s := s) (l := [116, 114, 117, 101]) (by rw [c1]; simp)
    have HF : Hid (vparse (L s) = some vzero) := by show _ = _; rw [c1]; rfl
    have d1m : (s.toList != [110, 117, 108, 108]) = false := by rw [bne, d1]; rfl
    clear c1
    go_enter Tryz.func34, Tryz.ntmps34
    go_wp2
    refine bodyPost_ret (v := .tuple #[.agg #[.int .i64 0, .int .i64 0, .string ⟨#[]⟩, .int .u64 0], .bool true]) (by simp [results, Tryz.results34, go_sem, *]) rfl ?_
    exact vpSome HF.out (by (repeat (first | with_reducible exact Ext.refl _ | with_reducible assumption | (with_reducible refine Ext.setCell ?_ ?_ _; rotate_left; (first | exact Nat.le_refl _ | (simp; try omega))) | with_reducible apply Ext.alloc | with_reducible apply Ext.drew | with_reducible apply Ext.drewN' | (with_reducible refine Ext.trans ?_ (by with_reducible assumption)))))
  have d1 := str_ne c1
  have d1m : (s.toList != [110, 117, 108, 108]) = true := by rw [bne, d1]; rfl
  by_cases c2 : L s = [102, 97, 108, 115, 101]
  · have d2 := str_eq c2
    have d3 := str_ne (s := s) (l := [116, 114, 117, 101]) (by rw [c2]; simp)
    have HF : Hid (vparse (L s) = some ⟨2, 0, [], 0⟩) := by show _ = _; rw [c2]; rfl
    clear c1 c2
    go_enter Tryz.func34, Tryz.ntmps34
    go_wp2
    refine bodyPost_ret (v := .tuple #[.agg #[.int .i64 2, .int .i64 0, .string ⟨#[]⟩, .int .u64 0], .bool true]) (by simp [results, Tryz.results34, go_sem, *]) rfl ?_
    exact vpSome HF.out (by (repeat (first | with_reducible exact Ext.refl _ | with_reducible assumption | (with_reducible refine Ext.setCell ?_ ?_ _; rotate_left; (first | exact Nat.le_refl _ | (simp; try omega))) | with_reducible apply Ext.alloc | with_reducible apply Ext.drew | with_reducible apply Ext.drewN' | (with_reducible refine Ext.trans ?_ (by with_reducible assumption)))))
  have d2 := str_ne c2
  by_cases c3 : L s = [116, 114, 117, 101]
  · have d3 := str_eq c3
    have HF : Hid (vparse (L s) = some ⟨2, 1, [], 0⟩) := by show _ = _; rw [c3]; rfl
    clear c1 c2 c3
    go_enter Tryz.func34, Tryz.ntmps34
    go_wp2
    refine bodyPost_ret (v := .tuple #[.agg #[.int .i64 2, .int .i64 1, .string ⟨#[]⟩, .int .u64 0], .bool true]) (by simp [results, Tryz.results34, go_sem, *]) rfl ?_
    exact vpSome HF.out (by (repeat (first | with_reducible exact Ext.refl _ | with_reducible assumption | (with_reducible refine Ext.setCell ?_ ?_ _; rotate_left; (first | exact Nat.le_refl _ | (simp; try omega))) | with_reducible apply Ext.alloc | with_reducible apply Ext.drew | with_reducible apply Ext.drewN' | (with_reducible refine Ext.trans ?_ (by with_reducible assumption)))))
  have d3 := str_ne c3
  have HPF := Lib.hid (fun w => rfParse_any s (by omega) w)
  cases hf : floatOf? (L s) with
  | some u =>
    have HV := Lib.hid (vparse_float c1 c2 c3 hf)
    have HU := Lib.hid hf
    clear c1 c2 c3 hf
    go_enter Tryz.func34, Tryz.ntmps34
    go_wp2_with (go_at_call 52; refine (HPF.out _).mono ?_; rintro e w1 ⟨u', ok, hu, rfl, h1, h2, he⟩; obtain ⟨rfl, rfl⟩ := h1 _ HU.out; clear h1 h2; obtain ⟨hc, hf⟩ := he.cells; have hlt1 : w.heap.size < w1.heap.size := by have h := he.le; simp at h; omega)
    refine bodyPost_ret (v := .tuple #[.agg #[.int .i64 4, .int .i64 0, .string ⟨#[]⟩, .int .u64 (u' : Int)], .bool true]) (by simp [results, Tryz.results34, go_sem, *]) rfl ?_
    exact vpSome HV.out (by (repeat (first | with_reducible exact Ext.refl _ | with_reducible assumption | (with_reducible refine Ext.setCell ?_ ?_ _; rotate_left; (first | exact Nat.le_refl _ | (simp; try omega))) | with_reducible apply Ext.alloc | with_reducible apply Ext.drew | with_reducible apply Ext.drewN' | (with_reducible refine Ext.trans ?_ (by with_reducible assumption)))))
  | none =>
    have HU := Lib.hid hf
    cases hn : intOf? (L s) with
    | some n =>
      have HV := Lib.hid (vparse_int c1 c2 c3 hf hn)
      have HPN := Lib.hid (fun w => rNum_some s (by omega) n hn w)
      clear c1 c2 c3 hf hn
      go_enter Tryz.func34, Tryz.ntmps34
      go_wp2_with (first
        | (go_at_call 52; refine (HPF.out _).mono ?_; rintro e w1 ⟨u', ok, hu, rfl, h1, h2, he⟩; obtain rfl := h2 HU.out; clear h1 h2; obtain ⟨hc, hf⟩ := he.cells; have hlt1 : w.heap.size < w1.heap.size := by have h := he.le; simp at h; omega)
        | (go_at_call 53; refine (HPN.out _).mono ?_; rintro e w2 ⟨rfl, he2⟩; obtain ⟨hc2, hf2⟩ := he2.cells; have hlt2 : w.heap.size < w2.heap.size := Nat.lt_of_lt_of_le hlt1 he2.le))
      refine bodyPost_ret (v := .tuple #[.agg #[.int .i64 1, .int .i64 n, .string ⟨#[]⟩, .int .u64 0], .bool true]) (by simp [results, Tryz.results34, go_sem, *]) rfl ?_
      exact vpSome HV.out (by (repeat (first | with_reducible exact Ext.refl _ | with_reducible assumption | (with_reducible refine Ext.setCell ?_ ?_ _; rotate_left; (first | exact Nat.le_refl _ | (simp; try omega))) | with_reducible apply Ext.alloc | with_reducible apply Ext.drew | with_reducible apply Ext.drewN' | (with_reducible refine Ext.trans ?_ (by with_reducible assumption)))))
    | none =>
      have HV := Lib.hid (vparse_hex c1 c2 c3 hf hn)
      have HPN := Lib.hid (fun w => rNum_none s (by omega) hn w)
      clear c1 c2 c3 hf hn
      by_cases hbad : L s = [] ∨ (∃ c t, L s = c :: t ∧ c ≠ 120) ∨ (L s).length % 2 = 0 ∨ 129 < (L s).length
      · have HN : Hid (vparse (L s) = none) := by
          show _ = _
          rw [HV.out]
          unfold hexOf
          split
          · rename_i t hl
            rw [hl] at hbad
            cases hu : unhexS t with
            | none => rfl
            | some b =>
              have := unhexS_len hu
              rcases hbad with h | ⟨c, t', h, h'⟩ | h | h
              · cases h
              · injection h with h _; exact absurd h.symm h'
              · simp at h; omega
              · simp at h
                show (if b.length ≤ 64 then _ else _) = _
                rw [if_neg (by omega)]
          · rfl
        rw [size_L] at hbad
        clear HV
        by_cases b0 : L s = []
        · have e0 : s.toList = [] := by rw [toList_L]; exact b0
          have e1 : s.toList.isEmpty = true := by simp [e0]
          clear b0 hbad
          go_enter Tryz.func34, Tryz.ntmps34
          go_wp2_with (first
            | (go_at_call 52; refine (HPF.out _).mono ?_; rintro e w1 ⟨u', ok, hu, rfl, h1, h2, he⟩; obtain rfl := h2 HU.out; clear h1 h2; obtain ⟨hc, hf⟩ := he.cells; have hlt1 : w.heap.size < w1.heap.size := by have h := he.le; simp at h; omega)
            | (go_at_call 53; refine (HPN.out _).mono ?_; rintro e w2 ⟨n', rfl, he2⟩; obtain ⟨hc2, hf2⟩ := he2.cells; have hlt2 : w.heap.size < w2.heap.size := Nat.lt_of_lt_of_le hlt1 he2.le))
          refine bodyPost_ret (v := .tuple #[.agg #[.int .i64 0, .int .i64 0, .string ⟨#[]⟩, .int .u64 0], .bool false]) (by simp [results, Tryz.results34, go_sem, *]) rfl ?_
          exact vpNone HN.out (by (repeat (first | with_reducible exact Ext.refl _ | with_reducible assumption | (with_reducible refine Ext.setCell ?_ ?_ _; rotate_left; (first | exact Nat.le_refl _ | (simp; try omega))) | with_reducible apply Ext.alloc | with_reducible apply Ext.drew | with_reducible apply Ext.drewN' | (with_reducible refine Ext.trans ?_ (by with_reducible assumption)))))
        have e0 : ¬ s.toList = [] := by rw [toList_L]; exact b0
        have e1 : s.toList.isEmpty = false := by simp [e0]
        have hpos : 0 < s.size := by rw [← size_L]; exact List.length_pos_iff.2 b0
        by_cases b1 : s[0] = 120
        · have q0 : ((s[0].toNat : Int) != 120) = false := by rw [b1]; rfl
          have hbad2 : s.size % 2 = 0 ∨ 129 < s.size := by
            rcases hbad with h | ⟨c, t', h, h'⟩ | h
            · exact absurd h b0
            · have hd := drop_L s 0 hpos
              rw [List.drop_zero, h] at hd
              injection hd with hd _
              exact absurd (hd.trans b1) h'
            · exact h
          clear hbad b0 b1
          by_cases b2 : s.size % 2 = 0
          · have q1 : ((s.size : Int) % 2 == 0) = true := by simp; omega
            clear hbad2 b2
            go_enter Tryz.func34, Tryz.ntmps34
            go_wp2_with (first
            | (go_at_call 52; refine (HPF.out _).mono ?_; rintro e w1 ⟨u', ok, hu, rfl, h1, h2, he⟩; obtain rfl := h2 HU.out; clear h1 h2; obtain ⟨hc, hf⟩ := he.cells; have hlt1 : w.heap.size < w1.heap.size := by have h := he.le; simp at h; omega)
            | (go_at_call 53; refine (HPN.out _).mono ?_; rintro e w2 ⟨n', rfl, he2⟩; obtain ⟨hc2, hf2⟩ := he2.cells; have hlt2 : w.heap.size < w2.heap.size := Nat.lt_of_lt_of_le hlt1 he2.le))
            refine bodyPost_ret (v := .tuple #[.agg #[.int .i64 0, .int .i64 0, .string ⟨#[]⟩, .int .u64 0], .bool false]) (by simp [results, Tryz.results34, go_sem, *]) rfl ?_
            exact vpNone HN.out (by (repeat (first | with_reducible exact Ext.refl _ | with_reducible assumption | (with_reducible refine Ext.setCell ?_ ?_ _; rotate_left; (first | exact Nat.le_refl _ | (simp; try omega))) | with_reducible apply Ext.alloc | with_reducible apply Ext.drew | with_reducible apply Ext.drewN' | (with_reducible refine Ext.trans ?_ (by with_reducible assumption)))))
          · have q1 : ((s.size : Int) % 2 == 0) = false := by simp; omega
            have q2 : 129 < s.size := by omega
            clear hbad2 b2
            go_enter Tryz.func34, Tryz.ntmps34
            go_wp2_with (first
            | (go_at_call 52; refine (HPF.out _).mono ?_; rintro e w1 ⟨u', ok, hu, rfl, h1, h2, he⟩; obtain rfl := h2 HU.out; clear h1 h2; obtain ⟨hc, hf⟩ := he.cells; have hlt1 : w.heap.size < w1.heap.size := by have h := he.le; simp at h; omega)
            | (go_at_call 53; refine (HPN.out _).mono ?_; rintro e w2 ⟨n', rfl, he2⟩; obtain ⟨hc2, hf2⟩ := he2.cells; have hlt2 : w.heap.size < w2.heap.size := Nat.lt_of_lt_of_le hlt1 he2.le))
            refine bodyPost_ret (v := .tuple #[.agg #[.int .i64 0, .int .i64 0, .string ⟨#[]⟩, .int .u64 0], .bool false]) (by simp [results, Tryz.results34, go_sem, *]) rfl ?_
            exact vpNone HN.out (by (repeat (first | with_reducible exact Ext.refl _ | with_reducible assumption | (with_reducible refine Ext.setCell ?_ ?_ _; rotate_left; (first | exact Nat.le_refl _ | (simp; try omega))) | with_reducible apply Ext.alloc | with_reducible apply Ext.drew | with_reducible apply Ext.drewN' | (with_reducible refine Ext.trans ?_ (by with_reducible assumption)))))
        · have q0 : ((s[0].toNat : Int) != 120) = true := by
            have : s[0].toNat ≠ 120 := fun e => b1 (UInt8.toNat_inj.1 e)
            simp; omega
          clear hbad b0 b1
          go_enter Tryz.func34, Tryz.ntmps34
          go_wp2_with (first
            | (go_at_call 52; refine (HPF.out _).mono ?_; rintro e w1 ⟨u', ok, hu, rfl, h1, h2, he⟩; obtain rfl := h2 HU.out; clear h1 h2; obtain ⟨hc, hf⟩ := he.cells; have hlt1 : w.heap.size < w1.heap.size := by have h := he.le; simp at h; omega)
            | (go_at_call 53; refine (HPN.out _).mono ?_; rintro e w2 ⟨n', rfl, he2⟩; obtain ⟨hc2, hf2⟩ := he2.cells; have hlt2 : w.heap.size < w2.heap.size := Nat.lt_of_lt_of_le hlt1 he2.le))
          refine bodyPost_ret (v := .tuple #[.agg #[.int .i64 0, .int .i64 0, .string ⟨#[]⟩, .int .u64 0], .bool false]) (by simp [results, Tryz.results34, go_sem, *]) rfl ?_
          exact vpNone HN.out (by (repeat (first | with_reducible exact Ext.refl _ | with_reducible assumption | (with_reducible refine Ext.setCell ?_ ?_ _; rotate_left; (first | exact Nat.le_refl _ | (simp; try omega))) | with_reducible apply Ext.alloc | with_reducible apply Ext.drew | with_reducible apply Ext.drewN' | (with_reducible refine Ext.trans ?_ (by with_reducible assumption)))))
      have b0 : L s ≠ [] := fun h => hbad (.inl h)
      have hpos : 0 < s.size := by rw [← size_L]; exact List.length_pos_iff.2 b0
      have hd := drop_L s 0 hpos
      rw [List.drop_zero] at hd
      have b1 : s[0] = 120 := Classical.byContradiction fun h => hbad (.inr (.inl ⟨_, _, hd, h⟩))
      have b2 : s.size % 2 = 1 := by
        have : ¬ (L s).length % 2 = 0 := fun h => hbad (.inr (.inr (.inl h)))
        rw [size_L] at this; omega
      have b3 : s.size ≤ 129 := by
        have : ¬ 129 < (L s).length := fun h => hbad (.inr (.inr (.inr h)))
        rw [size_L] at this; omega
      have e0 : ¬ s.toList = [] := by rw [toList_L]; exact b0
      have e1 : s.toList.isEmpty = false := by simp [e0]
      have q0 : ((s[0].toNat : Int) != 120) = false := by rw [b1]; rfl
      have q1 : ((s.size : Int) % 2 == 0) = false := by simp; omega
      have q2 : decide (129 < (s.size : Int)) = false := by simp; omega
      obtain ⟨t, ht⟩ : ∃ t, (L s).drop 1 = t := ⟨_, rfl⟩
      have HW : Hid (vparse (L s) = match unhexS t with
          | some b => if b.length ≤ 64 then some ⟨3, 0, b, 0⟩ else none
          | none => none) := by
        show _ = _
        rw [HV.out, hd, b1, show 0 + 1 = 1 from rfl, ht]; rfl
      have HT := Lib.hid ht
      have HB := Lib.hid b2
      clear hbad b0 hd b1 b2 HV ht
      go_enter Tryz.func34, Tryz.ntmps34
      go_wp2_with (first
            | (go_at_call 52; refine (HPF.out _).mono ?_; rintro e w1 ⟨u', ok, hu, rfl, h1, h2, he⟩; obtain rfl := h2 HU.out; clear h1 h2; obtain ⟨hc, hf⟩ := he.cells; have hlt1 : w.heap.size < w1.heap.size := by have h := he.le; simp at h; omega)
            | (go_at_call 53; refine (HPN.out _).mono ?_; rintro e w2 ⟨n', rfl, he2⟩; obtain ⟨hc2, hf2⟩ := he2.cells; have hlt2 : w.heap.size < w2.heap.size := Nat.lt_of_lt_of_le hlt1 he2.le))
      have HT2 : Hid (unhexS t = (unhexS ((L s).drop 1)).map ([] ++ ·)) := by
        show _ = _; rw [HT.out]; simp
      go_loopw [8, 9] (fun vo vi wr => ∃ (i j : Nat) (r : B), Hid (i = 2 * j + 1) ∧ i ≤ s.size ∧ vi = .int .i64 (i : Int) ∧ wr.ownsRow w2.heap.size 5 1 vo j (u8s r) ∧ Ext w2 wr ∧ Hid (unhexS t = (unhexS ((L s).drop i)).map (r ++ ·))) (fun _ vi _ => s.size - (intOf vi).toNat)
      case atStart => exact ⟨1, 0, [], rfl, by omega, rfl, own_nil, Ext.refl _, HT2⟩
      case round =>
        obtain ⟨i, j, r, hij, hi, rfl, ho, heo, hh⟩ := hrel
        obtain ⟨wo, rfl⟩ : ∃ wo : World, wo = wr := ⟨_, rfl⟩
        have HO := Lib.hid ho
        have HEO := Lib.hid heo
        clear ho heo
        by_cases hlt : i < s.size
        · have hi2 : i + 2 ≤ s.size := by have h1 := hij.out; have h2 := HB.out; omega
          have hb1 : (0 : Int) ≤ (i : Int) := by omega
          have hd1 := drop_L s i hlt
          rw [drop_L s (i + 1) (by omega)] at hd1
          have hstep := unhexS_step s[i] s[i + 1] ((L s).drop (i + 2))
          rw [show i + 1 + 1 = i + 2 from rfl] at hd1
          rw [← hd1] at hstep
          have hx16 := hexIx_le s[i]
          have hy16 := hexIx_le s[i + 1]
          obtain ⟨x, hx⟩ : ∃ x, hexIx s[i] = x := ⟨_, rfl⟩
          obtain ⟨y, hy⟩ : ∃ y, hexIx s[i + 1] = y := ⟨_, rfl⟩
          rw [hx] at hstep hx16
          rw [hy] at hstep hy16
          have HS := Lib.hid hstep
          have HXY : Hid (∀ q (hq : q < s.size), (q = i → hexIx s[q] = x) ∧ (q = i + 1 → hexIx s[q] = y)) := fun q hq => ⟨fun h => by subst h; exact hx, fun h => by subst h; exact hy⟩
          clear hd1 hstep hx hy
          go_wp2
          go_loopw [10, 11] (fun vc vk wr => ∃ (q : Nat) (cv : Int), i ≤ q ∧ q ≤ i + 2 ∧ vk = .int .i64 (q : Int) ∧ vc = .int .i64 cv ∧ 0 ≤ cv ∧ cv ≤ 255 ∧ Hid ((q = i → cv = 0) ∧ (q = i + 1 → x < 16 ∧ cv = x) ∧ (q = i + 2 → x < 16 ∧ y < 16 ∧ cv = 16 * x + y)) ∧ Hid (wr.ownsRow w2.heap.size 5 1 u8 j (u8s r)) ∧ Hid (Ext w2 wr)) (fun _ vk _ => i + 2 - (intOf vk).toNat)
          case atStart => exact ⟨i, 0, by omega, by omega, rfl, rfl, by omega, by omega, ⟨fun _ => rfl, fun h => by omega, fun h => by omega⟩, HO, HEO⟩
          case round =>
            obtain ⟨q, cv, hq0, hq1, rfl, rfl, hcv0, hcv1, hcv, HO1, HE1⟩ := hrel
            obtain ⟨wp, rfl⟩ : ∃ wp : World, wp = wr := ⟨_, rfl⟩
            by_cases hq : q < i + 2
            · have hqs : q < s.size := by omega
              have hb3 : (0 : Int) ≤ (q : Int) := by omega
              have hb4 : (q : Int) < (s.size : Int) := by omega
              have hxy := HXY.out q hqs
              have hz16 := hexIx_le s[q]
              have hget := hexIx_get s[q]
              obtain ⟨c, hc⟩ : ∃ c, s[q] = c := ⟨_, rfl⟩
              rw [hc] at hxy hz16 hget
              obtain ⟨z, hz⟩ : ∃ z, hexIx c = z := ⟨_, rfl⟩
              rw [hz] at hxy hz16
              have HX : Hid (∀ d, d < 16 → ((hexd d = c) ↔ d = z)) := fun d hd => by rw [← hz]; exact hget d hd
              have HZ : Hid ((q = i → z = x) ∧ (q = i + 1 → z = y)) := hxy
              clear hxy hget hz
              go_wp2
              go_loopw [12] (fun vd wr => ∃ d : Nat, d ≤ z ∧ vd = .int .i64 (d : Int) ∧ Hid (wr.ownsRow w2.heap.size 5 1 u8 j (u8s r)) ∧ Hid (Ext w2 wr)) (fun vd _ => 16 - (intOf vd).toNat)
              case atStart => exact ⟨0, by omega, rfl, HO1, HE1⟩
              case round =>
                obtain ⟨d, hdx, rfl, HO2, HE2⟩ := hrel
                by_cases hd16 : d < 16
                · have q1 : decide ((d : Int) < 16) = true := by simp; omega
                  have q2 : decide (d < 16) = true := by simp; omega
                  have hg := hexlit d hd16
                  have hd0 : (0 : Int) ≤ (d : Int) := by omega
                  have hd1 : (d : Int) < 16 := by omega
                  by_cases hdx2 : d = z
                  · have hcd : hexd d = c := (HX.out d hd16).2 hdx2
                    have q3 : (((hexd d).toNat : Int) != (c.toNat : Int)) = false := by rw [hcd]; simp
                    have q4 : ((hexd d).toNat != c.toNat) = false := by rw [hcd]; simp
                    have q5 : ((d : Int) == 16) = false := by simp; omega
                    have hcvd : 16 * cv + (d : Int) ≤ 255 := by
                      have h1 := hcv.out
                      have h2 := HZ.out
                      rcases (show q = i ∨ q = i + 1 by omega) with h | h
                      · have := h1.1 h; omega
                      · have := (h1.2.1 h).2; have := (h1.2.1 h).1; omega
                    have hcv2 : Hid ((q + 1 = i → 16 * cv + (d : Int) = 0) ∧ (q + 1 = i + 1 → x < 16 ∧ 16 * cv + (d : Int) = x) ∧ (q + 1 = i + 2 → x < 16 ∧ y < 16 ∧ 16 * cv + (d : Int) = 16 * x + y)) := by
                      have h1 := hcv.out
                      have h2 := HZ.out
                      refine ⟨fun h => by omega, fun h => ?_, fun h => ?_⟩
                      · have h3 := h1.1 (by omega); have h4 := h2.1 (by omega); omega
                      · have h3 := h1.2.1 (by omega); have h4 := h2.2 (by omega); omega
                    clear hdx2 hcd
                    go_wp2
                    go_quiet (fail)
                    go_wp2
                    go_roundw
                    case rel => exact ⟨q + 1, 16 * cv + (d : Int), by omega, by omega, by simp, by (first | with_reducible rfl | (congr 1; omega) | simp), by omega, hcvd, hcv2, own_ext HO2.out (Ext.drewN _ _), HE2.out.drewN' _⟩
                    case measure => (try simp only [intOf]); (try simp); omega
                  · have hcd : ¬ hexd d = c := fun h => hdx2 ((HX.out d hd16).1 h)
                    have hne : (hexd d).toNat ≠ c.toNat := fun h => hcd (UInt8.toNat_inj.1 h)
                    have q3 : (((hexd d).toNat : Int) != (c.toNat : Int)) = true := by simp; omega
                    have q4 : ((hexd d).toNat != c.toNat) = true := by simp; omega
                    have q6 : ((hexd d).toNat == c.toNat) = false := by simp; omega
                    have q7 : (((hexd d).toNat : Int) == (c.toNat : Int)) = false := by simp; omega
                    clear hcd hne
                    go_wp2
                    go_quiet (fail)
                    go_wp2
                    go_roundw
                    case rel => exact ⟨d + 1, by omega, by simp, own_ext HO2.out (Ext.drewN _ _), HE2.out.drewN' _⟩
                    case measure => (try simp only [intOf]); (try simp); omega
                · have hd : d = 16 := by omega
                  subst hd
                  have hN : Hid (vparse (L s) = none) := by
                    show _ = _
                    have hno : unhexS t = none := by
                      rw [hh.out, HS.out, if_neg]
                      · rfl
                      · intro ⟨h1, h2⟩
                        rcases (show q = i ∨ q = i + 1 by omega) with h | h
                        · have := HZ.out.1 h; omega
                        · have := HZ.out.2 h; omega
                    rw [HW.out, hno]
                  obtain ⟨hc3, hf3⟩ := HE2.out.cells
                  have hlt3 : w.heap.size < wr.heap.size := Nat.lt_of_lt_of_le hlt2 HE2.out.le
                  have HE3 := Lib.hid (((Ext.refl w).alloc (.cells #[.int .i64 0, .int .i64 0, .string ⟨#[]⟩, .int .u64 0] 36)).trans (he.trans (he2.trans HE2.out)))
                  go_wp2
                  go_quiet (fail)
                  go_wp2
                  refine bodyPost_ret (v := .tuple #[.agg #[.int .i64 0, .int .i64 0, .string ⟨#[]⟩, .int .u64 0], .bool false]) (by simp [results, Tryz.results34, go_sem, *]) rfl ?_
                  exact vpNone hN.out (by have h := HE3.out; (repeat (first | with_reducible exact Ext.refl _ | with_reducible assumption | (with_reducible refine Ext.setCell ?_ ?_ _; rotate_left; (first | exact Nat.le_refl _ | (simp; try omega))) | with_reducible apply Ext.alloc | with_reducible apply Ext.drew | with_reducible apply Ext.drewN' | (with_reducible refine Ext.trans ?_ (by with_reducible assumption)))))
            · have hq2 : q = i + 2 := by omega
              subst hq2
              obtain ⟨hx1, hy1, hcx⟩ := hcv.out.2.2 rfl
              have hbyte : Hid (cv = ((UInt8.ofNat (16 * x + y)).toNat : Int)) := by
                show _ = _
                rw [hcx, ofNat_toNat (by omega)]; omega
              have HN2 : Hid (unhexS t = (unhexS ((L s).drop (i + 2))).map ((r ++ [UInt8.ofNat (16 * x + y)]) ++ ·)) := by
                show _ = _
                rw [hh.out, HS.out, if_pos ⟨hx1, hy1⟩]
                cases unhexS ((L s).drop (i + 2)) <;> simp
              have hj : j ≤ 1000000 := by have := hij.out; omega
              clear hcv hcx hx1 hy1
              go_wp2_with (at_builtin; refine app_own (w0 := w2) (W := wp) (e := 5) (news := [Value.int .u8 _]) _ (by rfl) (by rfl) _ _ 78 (.int .u8 0) 1 1 (by rfl) (by kernel_rfl) (by kernel_rfl) (by decide) (by decide) (by decide) u8 j 1 _ (by rfl) (by rfl) (by rfl) (by simp [Value.oneCell']) HO1.out HE1.out (by omega) ?_; rintro v4 w4 ho4 he4; have HO4 := Lib.hid ho4; clear ho4)
              go_roundw
              case rel =>
                refine ⟨i + 2, j + 1, r ++ [UInt8.ofNat (16 * x + y)], by show _ = _; have := hij.out; omega, by omega, by simp, ?_, he4, HN2⟩
                rw [u8s_append]
                have h := HO4.out
                rw [hbyte.out] at h
                exact h
              case measure => (try simp only [intOf]); (try simp); omega
        · have hii : i = s.size := by omega
          subst hii
          have hr : unhexS t = some r := by
            rw [hh.out, List.drop_of_length_le (by rw [size_L]; omega)]; simp [unhexS]
          have hjr : r.length = j := by have h := HO.out.1; simpa [u8s] using h
          have HN : Hid (vparse (L s) = some ⟨3, 0, r, 0⟩) := by
            show _ = _
            rw [HW.out, hr]
            exact if_pos (by have := hij.out; omega)
          have hcv := own_string (P := Tryz.prog) (src := 78) (dst := 9) (e := 5) (by kernel_rfl) (by kernel_rfl) (by kernel_rfl) HO.out
          obtain ⟨hc3, hf3⟩ := HEO.out.cells
          have hlt3 : w.heap.size < wo.heap.size := Nat.lt_of_lt_of_le hlt2 HEO.out.le
          have HE3 := Lib.hid (((Ext.refl w).alloc (.cells #[.int .i64 0, .int .i64 0, .string ⟨#[]⟩, .int .u64 0] 36)).trans (he.trans (he2.trans HEO.out)))
          clear hr hjr hh
          go_wp2
          refine bodyPost_ret (v := .tuple #[.agg #[.int .i64 3, .int .i64 0, .string (bs r), .int .u64 0], .bool true]) (by simp [results, Tryz.results34, go_sem, *]) rfl ?_
          exact vpSome HN.out (by have h := HE3.out; (repeat (first | with_reducible exact Ext.refl _ | with_reducible assumption | (with_reducible refine Ext.setCell ?_ ?_ _; rotate_left; (first | exact Nat.le_refl _ | (simp; try omega))) | with_reducible apply Ext.alloc | with_reducible apply Ext.drew | with_reducible apply Ext.drewN' | (with_reducible refine Ext.trans ?_ (by with_reducible assumption)))))
end Go.Proofs.YtcnnpedmccjdkaaGreatDoor
