/- Layer 16: LexPlaces. -/
import Derived.Test.YtcnnpedmccjdkaaGreatDoorSame
import Derived.Test.YtcnnpedmccjdkaaGreatDoorForm
import Derived.Test.YtcnnpedmccjdkaaGreatDoorPlacesP
import Derived.Test.YtcnnpedmccjdkaaGreatDoorRVPrint
import Derived.BigQuiet
set_option linter.unusedSimpArgs false
set_option linter.unusedVariables false
namespace Go.Proofs.YtcnnpedmccjdkaaGreatDoor
open Go.RowKit
theorem own_len {w : World} {base : Nat} {e : TypeId} {v : Value} {n : Nat} {xs : List Value} (h : w.ownsRow base e 8 v n xs) : ∃ a cap, v = .slice a n cap := by
  rcases h.2 with ⟨h1, h2⟩ | ⟨g, cap, cur, hv, _⟩
  · subst h2; exact ⟨_, _, h1⟩
  · exact ⟨_, _, hv⟩
theorem extract_text {s : ByteArray} {p : Nat} {T : B} (h : ∃ r, (L s).drop p = T ++ r) : s.extract p (p + (bs T).size) = bs T ∧ p + (bs T).size ≤ max p s.size := by
  obtain ⟨r, h⟩ := h
  refine ⟨?_, ?_⟩
  · rw [extract_bs, size_bs, List.drop_take, h, show p + T.length - p = T.length by omega, List.take_left]
  · have := congrArg List.length h
    rw [List.length_drop, size_L, List.length_append] at this
    rw [size_bs]; omega
set_option maxRecDepth 100000 in
set_option maxHeartbeats 6000000 in
theorem LexPlaces_any (s : ByteArray) (hs : s.size ≤ 9223372036854775807) (w : World) (g : Glob w) :
    Calls Tryz.prog 6 #[.string s] w fun e w' => e = .returned (.bool true) ∧ Ext w w' := by
  have HG := Lib.hid g
  clear g
  go_enter Tryz.func6, Tryz.ntmps6
  go_wp2_with fail
  refine (first_any _ HG.out).mono ?_
  rintro e w1 ⟨rfl, he⟩
  have HE1 := Lib.hid he
  have HG1 := Lib.hid (HG.out.ext he)
  clear he
  have HLA := Lib.hid (fun w g => Lex_any s hs w g)
  go_wp2_with fail
  refine (HLA.out _ HG1.out).mono ?_
  rintro e w2 h2
  obtain ⟨vx, p1, q1, rfl, he2, hx⟩ := lexForm h2
  have HX := Lib.hid hx
  have HE2 := Lib.hid (HE1.out.trans he2)
  clear h2 he2 hx
  by_cases hbig : 1500 < s.size
  · go_wp2_with fail
    go_ret
    exact ⟨rfl, HE2.out⟩
  rcases HX.out with ⟨x, hlx, rfl, hox⟩ | ⟨_, rfl⟩
  rotate_left
  · go_wp2_with fail
    go_ret
    exact ⟨rfl, HE2.out⟩
  have HXO := Lib.hid hox
  obtain ⟨ax, cx, hvx⟩ := own_len hox
  subst hvx
  obtain ⟨hst, hinc, hcx, _⟩ := lexS_stands hlx
  rw [size_L] at hcx
  have HST := Lib.hid hst
  have HINC := Lib.hid hinc
  clear hlx hox HX HLA hst hinc
  have b3 : decide (1500 < (s.size : Int)) = false := by simp; omega
  go_wp2_with fail
  go_loopw [26] (fun vi wr => ∃ k : Nat, k ≤ x.length ∧ vi = .int .i64 (k : Int) ∧ Ext w2 wr) (fun vi _ => x.length - (intOf vi).toNat)
  case atStart => exact ⟨0, by omega, rfl, Ext.refl _⟩
  case round =>
    obtain ⟨k, hk, rfl, he⟩ := hrel
    by_cases hlt : k < x.length
    · have hb1 : (0 : Int) ≤ (k : Int) := by omega
      have hb2 : (k : Int) < (x.length : Int) := by omega
      obtain ⟨t, ht⟩ : ∃ t, x[k]? = some t := ⟨_, List.getElem?_eq_getElem hlt⟩
      obtain ⟨g, cap, hv, hg0, hg1, hc⟩ := own_get HXO.out (by omega)
      injection hv with e1 e2 e3
      subst e1
      have hcc : ∀ j t, x[j]? = some t → tokAt wr g j t := fun j t h => tokAt_of (fun i u hu => he.cell (hc i u hu)) j t h
      obtain ⟨k0, k1, k2, k3, k4, k5, k6, k7⟩ := hcc k t ht
      obtain ⟨p, hp, ⟨c, r, hcr, hc32⟩, htx, hvr, hvw, htl⟩ := HST.out t (List.mem_of_getElem? ht)
      rw [Nat.zero_add] at hp
      have hps : p < s.size := by
        have := congrArg List.length hcr
        rw [List.length_drop, size_L] at this; simp at this; omega
      have hsp : s[p] = c := by
        rw [drop_L s p hps] at hcr; injection hcr
      have d32 : ((s[p].toNat : Int) == 32) = false := by
        have hne : s[p].toNat ≠ 32 := fun h => hc32 (by rw [← hsp]; exact UInt8.toNat_inj.1 h)
        simp; omega
      obtain ⟨hex, hexl⟩ := extract_text htx
      rw [size_L] at htl
      rw [hp] at k1
      have hp0 : (0 : Int) ≤ (p : Int) := by omega
      have hp1 : (p : Int) < (s.size : Int) := by omega
      have hgl : g < wr.heap.size := by have := he.le; omega
      have hgn : ¬ g = wr.heap.size := by omega
      have hprev : 0 < k → ∃ a : Int, wr.cell? ⟨g, (k - 1) * 8 + 1, none⟩ = some (.int .i64 a) ∧ a < (p : Int) := fun hk0 => by
        obtain ⟨u, hu⟩ : ∃ u, x[k - 1]? = some u := ⟨_, List.getElem?_eq_getElem (by omega)⟩
        obtain ⟨_, m1, _⟩ := hcc (k - 1) u hu
        refine ⟨_, m1, ?_⟩
        have := incr_at HINC.out hu (by rw [Nat.sub_add_cancel hk0]; exact ht) (fun y hy => by obtain ⟨q, hq, _⟩ := HST.out y hy; omega)
        omega
      have HPV := Lib.hid hprev
      have HCR := Lib.hid (And.intro hcr (And.intro hc32 hsp))
      have HVR := Lib.hid hvr
      have HVW := Lib.hid hvw
      have HTX := Lib.hid hex
      have HTL := Lib.hid hexl
      have HTT := Lib.hid htl
      have HTP := Lib.hid (And.intro ht hp)
      clear hprev hcr hc32 hsp hvr hvw hex hexl htl htx ht hp hcc hc e2 e3
      have b1 : decide ((p : Int) < 0) = false := by simp
      have b2 : decide (s.size ≤ p) = false := by simp; omega
      have hE : Hid (∀ o n, Ext w2 ((wr.alloc o).drewN n)) := fun o n => (he.alloc o).drewN' n
      have hTl : Hid ((textOf t).length + p ≤ s.size) := by
        have := HTL.out; rw [size_bs] at this; show _ ≤ _; omega
      rcases Nat.eq_zero_or_pos k with hkz | hkpos
      · have hz : decide (0 < k) = false := by simp; omega
        clear hkz
        go_wp2
        go_quiet (fail)
        have HT3 := HTX.out
        have HT4 := hTl.out
        by_cases t0 : t.kind = 0
        · have d0 : (t.kind == 0) = true := by simp [t0]
          rw [show textOf t = 36 :: t.text from if_pos t0] at HT3 HT4
          have hcat : ByteArray.mk #[36] ++ bs t.text = bs (36 :: t.text) := bs_append [36] t.text
          have hs0 : (bs t.text).size ≤ 3000 := by rw [List.length_cons] at HT4; rw [size_bs]; omega
          have hs1 : p + (bs (36 :: t.text)).size ≤ s.size := by rw [size_bs]; omega
          clear t0 HT4
          go_wp2
          go_roundw
          case rel => exact ⟨k + 1, by omega, by simp, hE.out _ _⟩
          case measure => (try simp only [intOf]); (try simp); omega
        have d0 : (t.kind == 0) = false := by simp [t0]
        by_cases t3 : t.kind = 3
        · have d3 : (t.kind == 3) = true := by simp [t3]
          rw [show textOf t = t.text by unfold textOf; rw [if_neg t0, if_pos t3]] at HT3 HT4
          have hs1 : p + (bs t.text).size ≤ s.size := by rw [size_bs]; omega
          clear t0 t3 HT4
          go_wp2
          go_roundw
          case rel => exact ⟨k + 1, by omega, by simp, hE.out _ _⟩
          case measure => (try simp only [intOf]); (try simp); omega
        have d3 : (t.kind == 3) = false := by simp [t3]
        by_cases t1 : t.kind = 1
        · have d1 : (t.kind == 1) = true := by simp [t1]
          rw [show textOf t = vprint t.val by unfold textOf; rw [if_neg t0, if_neg t3, if_pos t1]] at HT3 HT4
          have hs1 : p + (bs (vprint t.val)).size ≤ s.size := by rw [size_bs]; omega
          have hvw := HVW.out
          have HPR : Hid (∀ w, Calls Tryz.prog 19 #[.agg #[.int .i64 t.val.kind, .int .i64 t.val.n, .string (bs t.val.s), .int .u64 t.val.f]] w fun e w' => e = .returned (.string (bs (vprint t.val))) ∧ Ext w w') := rvPrint_any t.val.kind t.val.n (bs t.val.s) t.val.f hvw.1 hvw.2.1 hvw.2.2
          clear t0 t1 t3 HT4 hvw
          go_wp2_with (go_at_call 19; refine (HPR.out _).mono ?_; rintro e w5 ⟨rfl, he5⟩; have hc5 := he5.cell (p := ⟨wr.heap.size, 1, none⟩) (v := .int .i64 (p : Int)) (by go_simp); have HE5 := Lib.hid ((hE.out _ _).trans he5); clear he5)
          go_roundw
          case rel => exact ⟨k + 1, by omega, by simp, HE5.out⟩
          case measure => (try simp only [intOf]); (try simp); omega
        have d1 : (t.kind == 1) = false := by simp [t1]
        by_cases t4 : t.kind = 4
        · have d4 : (t.kind == 4) = true := by simp [t4]
          rw [show textOf t = [40] by unfold textOf; rw [if_neg t0, if_neg t3, if_neg t1, if_pos t4]] at HT3 HT4
          have hs1 : p + 1 ≤ s.size := by rw [List.length_singleton] at HT4; omega
          have hx4 : s.extract p (p + 1) = ByteArray.mk #[40] := HT3
          clear t0 t1 t3 t4 HT3 HT4
          go_wp2
          go_roundw
          case rel => exact ⟨k + 1, by omega, by simp, hE.out _ _⟩
          case measure => (try simp only [intOf]); (try simp); omega
        have d4 : (t.kind == 4) = false := by simp [t4]
        by_cases t5 : t.kind = 5
        · have d5 : (t.kind == 5) = true := by simp [t5]
          rw [show textOf t = [41] by unfold textOf; rw [if_neg t0, if_neg t3, if_neg t1, if_neg t4, if_pos t5]] at HT3 HT4
          have hs1 : p + 1 ≤ s.size := by rw [List.length_singleton] at HT4; omega
          have hx4 : s.extract p (p + 1) = ByteArray.mk #[41] := HT3
          clear t0 t1 t3 t4 t5 HT3 HT4
          go_wp2
          go_roundw
          case rel => exact ⟨k + 1, by omega, by simp, hE.out _ _⟩
          case measure => (try simp only [intOf]); (try simp); omega
        · have d5 : (t.kind == 5) = false := by simp [t5]
          have hx4 : s.extract p p = ByteArray.mk #[] := by rw [extract_bs]; simp [bs]
          clear t0 t1 t3 t4 t5 HT3 HT4
          go_wp2
          go_roundw
          case rel => exact ⟨k + 1, by omega, by simp, hE.out _ _⟩
          case measure => (try simp only [intOf]); (try simp); omega
      · have hz : (0 : Int) < (k : Int) := by omega
        obtain ⟨a, m1, hap⟩ := HPV.out hkpos
        have hj0 : (0 : Int) ≤ (k : Int) - 1 := by omega
        have hj1 : (k : Int) - 1 < (x.length : Int) := by omega
        have hzt : decide (0 < k) = true := by simp; omega
        clear hkpos
        have b4 : decide ((p : Int) ≤ a) = false := by simp; omega
        go_wp2
        go_quiet (fail)
        have HT3 := HTX.out
        have HT4 := hTl.out
        by_cases t0 : t.kind = 0
        · have d0 : (t.kind == 0) = true := by simp [t0]
          rw [show textOf t = 36 :: t.text from if_pos t0] at HT3 HT4
          have hcat : ByteArray.mk #[36] ++ bs t.text = bs (36 :: t.text) := bs_append [36] t.text
          have hs0 : (bs t.text).size ≤ 3000 := by rw [List.length_cons] at HT4; rw [size_bs]; omega
          have hs1 : p + (bs (36 :: t.text)).size ≤ s.size := by rw [size_bs]; omega
          clear t0 HT4
          go_wp2
          go_roundw
          case rel => exact ⟨k + 1, by omega, by simp, hE.out _ _⟩
          case measure => (try simp only [intOf]); (try simp); omega
        have d0 : (t.kind == 0) = false := by simp [t0]
        by_cases t3 : t.kind = 3
        · have d3 : (t.kind == 3) = true := by simp [t3]
          rw [show textOf t = t.text by unfold textOf; rw [if_neg t0, if_pos t3]] at HT3 HT4
          have hs1 : p + (bs t.text).size ≤ s.size := by rw [size_bs]; omega
          clear t0 t3 HT4
          go_wp2
          go_roundw
          case rel => exact ⟨k + 1, by omega, by simp, hE.out _ _⟩
          case measure => (try simp only [intOf]); (try simp); omega
        have d3 : (t.kind == 3) = false := by simp [t3]
        by_cases t1 : t.kind = 1
        · have d1 : (t.kind == 1) = true := by simp [t1]
          rw [show textOf t = vprint t.val by unfold textOf; rw [if_neg t0, if_neg t3, if_pos t1]] at HT3 HT4
          have hs1 : p + (bs (vprint t.val)).size ≤ s.size := by rw [size_bs]; omega
          have hvw := HVW.out
          have HPR : Hid (∀ w, Calls Tryz.prog 19 #[.agg #[.int .i64 t.val.kind, .int .i64 t.val.n, .string (bs t.val.s), .int .u64 t.val.f]] w fun e w' => e = .returned (.string (bs (vprint t.val))) ∧ Ext w w') := rvPrint_any t.val.kind t.val.n (bs t.val.s) t.val.f hvw.1 hvw.2.1 hvw.2.2
          clear t0 t1 t3 HT4 hvw
          go_wp2_with (go_at_call 19; refine (HPR.out _).mono ?_; rintro e w5 ⟨rfl, he5⟩; have hc5 := he5.cell (p := ⟨wr.heap.size, 1, none⟩) (v := .int .i64 (p : Int)) (by go_simp); have HE5 := Lib.hid ((hE.out _ _).trans he5); clear he5)
          go_roundw
          case rel => exact ⟨k + 1, by omega, by simp, HE5.out⟩
          case measure => (try simp only [intOf]); (try simp); omega
        have d1 : (t.kind == 1) = false := by simp [t1]
        by_cases t4 : t.kind = 4
        · have d4 : (t.kind == 4) = true := by simp [t4]
          rw [show textOf t = [40] by unfold textOf; rw [if_neg t0, if_neg t3, if_neg t1, if_pos t4]] at HT3 HT4
          have hs1 : p + 1 ≤ s.size := by rw [List.length_singleton] at HT4; omega
          have hx4 : s.extract p (p + 1) = ByteArray.mk #[40] := HT3
          clear t0 t1 t3 t4 HT3 HT4
          go_wp2
          go_roundw
          case rel => exact ⟨k + 1, by omega, by simp, hE.out _ _⟩
          case measure => (try simp only [intOf]); (try simp); omega
        have d4 : (t.kind == 4) = false := by simp [t4]
        by_cases t5 : t.kind = 5
        · have d5 : (t.kind == 5) = true := by simp [t5]
          rw [show textOf t = [41] by unfold textOf; rw [if_neg t0, if_neg t3, if_neg t1, if_neg t4, if_pos t5]] at HT3 HT4
          have hs1 : p + 1 ≤ s.size := by rw [List.length_singleton] at HT4; omega
          have hx4 : s.extract p (p + 1) = ByteArray.mk #[41] := HT3
          clear t0 t1 t3 t4 t5 HT3 HT4
          go_wp2
          go_roundw
          case rel => exact ⟨k + 1, by omega, by simp, hE.out _ _⟩
          case measure => (try simp only [intOf]); (try simp); omega
        · have d5 : (t.kind == 5) = false := by simp [t5]
          have hx4 : s.extract p p = ByteArray.mk #[] := by rw [extract_bs]; simp [bs]
          clear t0 t1 t3 t4 t5 HT3 HT4
          go_wp2
          go_roundw
          case rel => exact ⟨k + 1, by omega, by simp, hE.out _ _⟩
          case measure => (try simp only [intOf]); (try simp); omega
    · have hkk : k = x.length := by omega
      subst hkk
      go_wp2
      go_ret
      exact ⟨ret_bool (by simp <;> omega), HE2.out.trans he⟩
end Go.Proofs.YtcnnpedmccjdkaaGreatDoor
