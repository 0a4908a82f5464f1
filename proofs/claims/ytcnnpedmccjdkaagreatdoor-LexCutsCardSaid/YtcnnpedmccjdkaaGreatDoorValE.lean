/- value: candidate, Parse. -/
import Derived.Test.YtcnnpedmccjdkaaGreatDoorValD
set_option linter.unusedSimpArgs false
set_option linter.unusedVariables false
namespace Go.Proofs.YtcnnpedmccjdkaaGreatDoor
open Go.RowKit
theorem floatOf_xx (t : B) : floatOf? (120 :: t) = none := by
  unfold floatOf?
  rw [if_neg (by simp), if_neg (by simp), if_neg (by simp), if_neg (by simp)]
  split
  · cases t with
    | nil => rename_i h; simp at h
    | cons a t => rw [List.dropLast_cons_cons, intOf_x]
  · rfl
theorem vparse_x (t : B) (v : Val) (h : vparse (120 :: t) = some v) : ∃ b, unhexS t = some b ∧ v = ⟨3, 0, b, 0⟩ := by
  unfold vparse at h
  rw [if_neg (by simp), if_neg (by simp), if_neg (by simp), floatOf_xx, intOf_x] at h
  change (match unhexS t with | some b => if b.length ≤ 64 then some (⟨3, 0, b, 0⟩ : Val) else none | none => none) = some v at h
  cases hu : unhexS t with
  | none => rw [hu] at h; simp at h
  | some b =>
    rw [hu] at h
    dsimp only at h
    split at h
    · exact ⟨b, rfl, (Option.some.inj h).symm⟩
    · simp at h
/-- What the later cases say. -/
theorem vparse_else {l : B} (h1 : l ≠ [102, 97, 108, 115, 101]) (h2 : l ≠ [116, 114, 117, 101]) (h3 : ∀ t, l ≠ 120 :: t) (v : Val) (h : vparse l = some v) :
    v = (match floatOf? l with | some u => ⟨4, 0, [], u⟩ | none => match Lib.atoiAll l with | .ok n => ⟨1, n, [], 0⟩ | _ => vzero) := by
  unfold vparse at h
  split at h
  · rename_i hl
    subst hl
    cases h
    rfl
  · simp only [if_neg h1, if_neg h2] at h
    cases hfl : floatOf? l with
    | some u => rw [hfl] at h; exact (Option.some.inj h).symm
    | none =>
      rw [hfl] at h
      cases hn : intOf? l with
      | some n =>
        rw [hn] at h
        obtain ⟨hi, h0, h9⟩ := itoa_of_intOf hn
        have := atoi_itoa h0 h9
        rw [hi] at this
        rw [this]
        exact (Option.some.inj h).symm
      | none =>
        rw [hn] at h
        dsimp only at h
        cases l with
        | nil => cases h
        | cons c t =>
          by_cases hc : c = 120
          · subst hc; exact absurd rfl (h3 t)
          · cases h
def CandPost (l : B) (w : World) (e : Ending) (w' : World) : Prop :=
  ∃ v : Val, e = .returned (encV v) ∧ vwf v ∧ v.s.length ≤ l.length ∧ (vprint v = l → vright v = true) ∧ (∀ v', vparse l = some v' → v' = v) ∧ Ext w w'
set_option maxRecDepth 100000 in
set_option maxHeartbeats 1000000 in
theorem vcand_any (s : ByteArray) (hs : s.size ≤ 1000000) (w : World) (g : Glob w) :
    Calls Tryz.prog 88 #[.string s] w (CandPost (L s) w) := by
  have wf2 : ∀ n : Int, -9223372036854775808 ≤ n → n ≤ 9223372036854775807 → ∀ k b, vwf ⟨k, n, b, 0⟩ := fun n h h' k b => ⟨h, h', by simp⟩
  by_cases c1 : L s = [102, 97, 108, 115, 101]
  · have d1 := str_eq c1
    have HF : Hid (∀ v', vparse (L s) = some v' → v' = ⟨2, 0, [], 0⟩) := fun x h => by rw [c1] at h; exact (Option.some.inj h).symm
    clear c1 g
    go_enter Tryz.func88, Tryz.ntmps88
    go_wp2
    refine bodyPost_ret (v := .agg #[.int .i64 2, .int .i64 0, .string ⟨#[]⟩, .int .u64 0]) (by simp [results, Tryz.results88, go_sem, *]) rfl ?_
    · exact ⟨⟨2, 0, [], 0⟩, rfl, wf2 _ (by decide) (by decide) _ _, by simp, fun _ => rfl, HF.out, by (repeat (first | exact Ext.refl _ | assumption | (refine Ext.setCell ?_ (by simp; try omega) _) | apply Ext.alloc | apply Ext.drew | apply Ext.drewN' | (refine Ext.trans ?_ (by assumption))))⟩
  have d1 := str_ne c1
  by_cases c2 : L s = [116, 114, 117, 101]
  · have d2 := str_eq c2
    have HF : Hid (∀ v', vparse (L s) = some v' → v' = ⟨2, 1, [], 0⟩) := fun x h => by rw [c2] at h; exact (Option.some.inj h).symm
    clear c1 c2 g
    go_enter Tryz.func88, Tryz.ntmps88
    go_wp2
    refine bodyPost_ret (v := .agg #[.int .i64 2, .int .i64 1, .string ⟨#[]⟩, .int .u64 0]) (by simp [results, Tryz.results88, go_sem, *]) rfl ?_
    · exact ⟨⟨2, 1, [], 0⟩, rfl, wf2 _ (by decide) (by decide) _ _, by simp, fun _ => rfl, HF.out, by (repeat (first | exact Ext.refl _ | assumption | (refine Ext.setCell ?_ (by simp; try omega) _) | apply Ext.alloc | apply Ext.drew | apply Ext.drewN' | (refine Ext.trans ?_ (by assumption))))⟩
  have d2 := str_ne c2
  have HC := Lib.hid (Tryz.strings_CutPrefix s (bs [120]))
  have HG := Lib.hid g
  clear g
  cases c3 : Lib.hasPrefix (L s) [120] with
  | true =>
    obtain ⟨t, ht⟩ : ∃ t, L s = 120 :: t := by
      unfold Lib.hasPrefix at c3
      obtain ⟨t, ht⟩ := List.isPrefixOf_iff_prefix.1 c3
      exact ⟨t, ht.symm⟩
    have htr : Lib.trimPrefix (L s) [120] = t := by unfold Lib.trimPrefix; rw [c3, ht]; rfl
    have hln : (L s).length = t.length + 1 := by rw [ht]; rfl
    have hsz : (bs t).size ≤ 1000000 := by
      have := size_L s; rw [size_bs]; omega
    have HX : Hid (∀ x, vparse (L s) = some x → ∃ b, unhexS t = some b ∧ x = ⟨3, 0, b, 0⟩) := fun x h => vparse_x t x (by rw [ht] at h; exact h)
    have H3 := Lib.hid c3
    have HT := Lib.hid htr
    have HL := Lib.hid hln
    have HT0 := Lib.hid ht
    clear c1 c2 c3 ht htr hln
    go_enter Tryz.func88, Tryz.ntmps88
    go_wp2_with (first
      | (go_at_call 105; refine (HC.out _).mono ?_; rintro e w' ⟨rfl, rfl⟩; rw [show (bs [120]).data.toList = [120] from rfl, H3.out, HT.out])
      | (go_at_call 106; refine (unhex_any (bs t) hsz _).mono ?_; rintro e w2 ⟨r, rfl, hr, hl, he⟩; have HR := Lib.hid hr; clear hr; obtain ⟨hc, hf⟩ := he.cells; have hsz2 := he.le))
    refine bodyPost_ret (v := .agg #[.int .i64 3, .int .i64 0, .string (bs r), .int .u64 0]) (by simp [results, Tryz.results88, go_sem, *]) rfl ?_
    · refine ⟨⟨3, 0, r, 0⟩, rfl, wf2 _ (by decide) (by decide) _ _, ?_, ?_, ?_, by (repeat (first | exact Ext.refl _ | assumption | (refine Ext.setCell ?_ (by simp; try omega) _) | apply Ext.alloc | apply Ext.drew | apply Ext.drewN' | (refine Ext.trans ?_ (by assumption))))⟩
      · have := HL.out; rw [size_bs] at hl; show r.length ≤ _; omega
      · intro hp
        have := hp.trans HT0.out
        unfold vprint vnorm at this
        cases hv : vright ⟨3, 0, r, 0⟩ with
        | true => rfl
        | false => rw [hv] at this; simp [vzero] at this
      · intro v hv
        obtain ⟨b, hb, rfl⟩ := HX.out v hv
        rw [HR.out b (by rw [L_bs]; exact hb)]
  | false =>
    have htr : Lib.trimPrefix (L s) [120] = L s := by unfold Lib.trimPrefix; rw [c3]; rfl
    have HX := Lib.hid (vparse_else c1 c2 (fun t h => by rw [h] at c3; simp [Lib.hasPrefix] at c3))
    have H3 := Lib.hid c3
    have HT := Lib.hid htr
    have hsz : s.size ≤ 140737488351232 := by omega
    clear c1 c2 c3 htr
    cases hf : floatOf? (L s) with
    | some u =>
      have hu := (fprint_floatOf hf).1
      have HU := Lib.hid (fprint_floatOf hf).2.1
      rw [hf] at HX
      have HF := Lib.hid hf
      clear hf
      go_enter Tryz.func88, Tryz.ntmps88
      go_wp2_with (first
        | (go_at_call 105; refine (HC.out _).mono ?_; rintro e w' ⟨rfl, rfl⟩; rw [show (bs [120]).data.toList = [120] from rfl, H3.out, HT.out])
        | (go_at_call 107; refine (fParse_any s hsz _ ?gg).mono ?_; rotate_left; rintro e w2 ⟨rfl, he⟩; rw [HF.out]; obtain ⟨hc, hf⟩ := he.cells; have hsz2 := he.le))
      case gg => exact HG.out.ext (by (repeat (first | exact Ext.refl _ | assumption | (refine Ext.setCell ?_ (by simp; try omega) _) | apply Ext.alloc | apply Ext.drew | apply Ext.drewN' | (refine Ext.trans ?_ (by assumption)))))
      refine bodyPost_ret (v := .agg #[.int .i64 4, .int .i64 0, .string ⟨#[]⟩, .int .u64 u]) (by simp [results, Tryz.results88, go_sem, *]) rfl ?_
      · exact ⟨⟨4, 0, [], u⟩, rfl, ⟨by simp, by simp, hu⟩, by simp, fun _ => by simp [vright, HU.out], HX.out, by (repeat (first | exact Ext.refl _ | assumption | (refine Ext.setCell ?_ (by simp; try omega) _) | apply Ext.alloc | apply Ext.drew | apply Ext.drewN' | (refine Ext.trans ?_ (by assumption))))⟩
    | none =>
      rw [hf] at HX
      have HF := Lib.hid hf
      clear hf
      go_enter Tryz.func88, Tryz.ntmps88
      go_wp2_with (first
        | (go_at_call 105; refine (HC.out _).mono ?_; rintro e w' ⟨rfl, rfl⟩; rw [show (bs [120]).data.toList = [120] from rfl, H3.out, HT.out])
        | (go_at_call 107; refine (fParse_any s hsz _ ?gg).mono ?_; rotate_left; rintro e w2 ⟨rfl, he⟩; rw [HF.out]; obtain ⟨hc, hf⟩ := he.cells; have hsz2 := he.le))
      case gg => exact HG.out.ext (by (repeat (first | exact Ext.refl _ | assumption | (refine Ext.setCell ?_ (by simp; try omega) _) | apply Ext.alloc | apply Ext.drew | apply Ext.drewN' | (refine Ext.trans ?_ (by assumption)))))
      refine (Atoi_any s hsz _ (HG.out.ext (by (repeat (first | exact Ext.refl _ | assumption | (refine Ext.setCell ?_ (by simp; try omega) _) | apply Ext.alloc | apply Ext.drew | apply Ext.drewN' | (refine Ext.trans ?_ (by assumption))))))).mono ?_
      rintro e w3 ⟨n, v, h0, h1, rfl, hx, he3⟩
      obtain ⟨hc3, hf3⟩ := he3.cells
      have hsz3 := he3.le
      have hlt2 : w.heap.size < w2.heap.size := by simp at hsz2; omega
      rcases hx with ⟨rfl, hok⟩ | ⟨⟨b, rfl⟩, hno⟩
      · rw [hok] at HX
        clear hok
        go_wp2
        refine bodyPost_ret (v := .agg #[.int .i64 1, .int .i64 n, .string ⟨#[]⟩, .int .u64 0]) (by simp [results, Tryz.results88, go_sem, *]) rfl ?_
        · exact ⟨⟨1, n, [], 0⟩, rfl, wf2 _ h0 h1 _ _, by simp, fun _ => by simp [vright], HX.out, by (repeat (first | exact Ext.refl _ | assumption | (refine Ext.setCell ?_ (by simp; try omega) _) | apply Ext.alloc | apply Ext.drew | apply Ext.drewN' | (refine Ext.trans ?_ (by assumption))))⟩
      · have HZ : Hid (∀ v, vparse (L s) = some v → v = vzero) := fun v hv => by
          have := HX.out v hv
          revert this
          cases h : Lib.atoiAll (L s) with
          | ok m => exact absurd h (hno m)
          | _ => exact id
        clear HX hno
        go_wp2
        refine bodyPost_ret (v := .agg #[.int .i64 0, .int .i64 0, .string ⟨#[]⟩, .int .u64 0]) (by simp [results, Tryz.results88, go_sem, *]) rfl ?_
        · exact ⟨vzero, rfl, wf2 _ (by decide) (by decide) _ _, by simp [vzero], fun _ => rfl, HZ.out, by (repeat (first | exact Ext.refl _ | assumption | (refine Ext.setCell ?_ (by simp; try omega) _) | apply Ext.alloc | apply Ext.drew | apply Ext.drewN' | (refine Ext.trans ?_ (by assumption))))⟩
def VpPost (l : B) (w : World) (e : Ending) (w' : World) : Prop :=
  e = .returned (.tuple #[encV ((vparse l).getD vzero), .bool (vparse l).isSome]) ∧ Ext w w'
set_option maxRecDepth 100000 in
set_option maxHeartbeats 1000000 in
theorem vParse_any (s : ByteArray) (hs : s.size ≤ 1000000) (w : World) (g : Glob w) :
    Calls Tryz.prog 71 #[.string s] w (VpPost (L s) w) := by
  have HG := Lib.hid g
  clear g
  go_enter Tryz.func71, Tryz.ntmps71
  go_wp2_with fail
  refine (vcand_any s hs _ (HG.out.ext (by (repeat (first | exact Ext.refl _ | assumption | (refine Ext.setCell ?_ (by simp; try omega) _) | apply Ext.alloc | apply Ext.drew | apply Ext.drewN' | (refine Ext.trans ?_ (by assumption))))))).mono ?_
  rintro e w1 ⟨v, rfl, hwf, hl, hr, hx, he⟩
  obtain ⟨hc, hf⟩ := he.cells
  have hsz := he.le
  have hlt : w.heap.size < w1.heap.size := by simp at hsz; omega
  have hlt2 : ¬ w.heap.size = w1.heap.size := by omega
  have hlt3 : w.heap.size ≤ w1.heap.size := by omega
  have hlt4 : w.heap.size < w1.heap.size + 1 := by omega
  have HP := Lib.hid (Print_any v.kind v.n (bs v.s) v.f hwf.1 hwf.2.1 hwf.2.2)
  rw [L_bs] at HP
  simp only [encV]
  by_cases hp : vprint v = L s
  · obtain ⟨d1, d2⟩ := cmp_eq_of (a := bs (vprint v)) (b := s) (by rw [L_bs]; exact hp)
    have HF : Hid (vparse (L s) = some v) := by show _ = _; rw [← hp]; exact vparse_vprint (hr hp) hwf
    clear hp hr hx hwf
    go_wp2_with (go_at_call 64; refine (HP.out _ ?gg).mono ?_; rotate_left; rintro e w2 ⟨rfl, he2⟩; obtain ⟨hc2, hf2⟩ := he2.cells; have hsz2 := he2.le)
    case gg => exact HG.out.ext (by (repeat (first | exact Ext.refl _ | assumption | (refine Ext.setCell ?_ (by simp; try omega) _) | apply Ext.alloc | apply Ext.drew | apply Ext.drewN' | (refine Ext.trans ?_ (by assumption)))))
    refine bodyPost_ret (v := .tuple #[.agg #[.int .i64 v.kind, .int .i64 v.n, .string (bs v.s), .int .u64 v.f], .bool true]) (by simp [results, Tryz.results71, go_sem, *]) rfl ⟨?_, ?_⟩
    · rw [HF.out]; rfl
    · (repeat (first | exact Ext.refl _ | assumption | (refine Ext.setCell ?_ (by simp; try omega) _) | apply Ext.alloc | apply Ext.drew | apply Ext.drewN' | (refine Ext.trans ?_ (by assumption))))
  · obtain ⟨d1, d2⟩ := cmp_ne_of (a := bs (vprint v)) (b := s) (by rw [L_bs]; exact hp)
    have HF : Hid (vparse (L s) = none) := by
      show _ = _
      cases h : vparse (L s) with
      | none => rfl
      | some x => exact absurd (by rw [← hx x h]; exact (vprint_vparse h).2.2) hp
    clear hp hr hx hwf
    go_wp2_with (go_at_call 64; refine (HP.out _ ?gg).mono ?_; rotate_left; rintro e w2 ⟨rfl, he2⟩; obtain ⟨hc2, hf2⟩ := he2.cells; have hsz2 := he2.le)
    case gg => exact HG.out.ext (by (repeat (first | exact Ext.refl _ | assumption | (refine Ext.setCell ?_ (by simp; try omega) _) | apply Ext.alloc | apply Ext.drew | apply Ext.drewN' | (refine Ext.trans ?_ (by assumption)))))
    refine bodyPost_ret (v := .tuple #[.agg #[.int .i64 0, .int .i64 0, .string ⟨#[]⟩, .int .u64 0], .bool false]) (by simp [results, Tryz.results71, go_sem, *]) rfl ⟨?_, ?_⟩
    · rw [HF.out]; rfl
    · (repeat (first | exact Ext.refl _ | assumption | (refine Ext.setCell ?_ (by simp; try omega) _) | apply Ext.alloc | apply Ext.drew | apply Ext.drewN' | (refine Ext.trans ?_ (by assumption))))
end Go.Proofs.YtcnnpedmccjdkaaGreatDoor
