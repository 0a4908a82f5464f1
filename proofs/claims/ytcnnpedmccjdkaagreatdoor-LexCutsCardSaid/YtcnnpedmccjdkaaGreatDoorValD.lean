/- value: Print. -/
import Derived.Test.YtcnnpedmccjdkaaGreatDoorValC
import Derived.Test.YtcnnpedmccjdkaaGreatDoorText3
set_option linter.unusedSimpArgs false
set_option linter.unusedVariables false
namespace Go.Proofs.YtcnnpedmccjdkaaGreatDoor
open Go.RowKit
theorem Itoa_any (n : Int) (h0 : -9223372036854775808 ≤ n) (h1 : n ≤ 9223372036854775807) (w : World) (g : Glob w) :
    Calls Tryz.prog 80 #[.int .i64 n] w fun e w' => e = .returned (.string (bs (Lib.itoa n))) ∧ Ext w w' := by
  refine (Tryz.strconv_Itoa n h0 h1 w g.pow10).mono ?_
  rintro e w' ⟨rfl, k, os, rfl⟩
  exact ⟨rfl, (Ext.drewN _ _).grow _⟩
theorem vnorm_cases (v : Val) : (vnorm v = vzero ∨ vnorm v = ⟨2, 0, [], 0⟩ ∨ vnorm v = ⟨2, 1, [], 0⟩) ∨ vnorm v = ⟨1, v.n, [], 0⟩ ∨ (∃ t, vnorm v = ⟨3, 0, t, 0⟩ ∧ t.length ≤ 64) ∨ vnorm v = ⟨4, 0, [], v.f⟩ := by
  unfold vnorm
  split
  · rename_i h
    rcases vright_cases h with ⟨n, rfl⟩ | (rfl | rfl) | ⟨s, rfl, hs⟩ | ⟨f, rfl, hf⟩ | rfl
    · exact .inr (.inl rfl)
    · exact .inl (.inr (.inl rfl))
    · exact .inl (.inr (.inr rfl))
    · exact .inr (.inr (.inl ⟨s, rfl, hs⟩))
    · exact .inr (.inr (.inr rfl))
    · exact .inl (.inl rfl)
  · exact .inl (.inl rfl)
def vprint0 (x : Val) : B :=
  if x.kind = 1 then Lib.itoa x.n
  else if x.kind = 2 then (if x.n = 1 then [116, 114, 117, 101] else [102, 97, 108, 115, 101])
  else if x.kind = 3 then 120 :: hexS x.s
  else if x.kind = 4 then fprint x.f
  else [110, 117, 108, 108]
theorem fmtBool_any (b : Bool) (w : World) : Calls Tryz.prog 81 #[.bool b] w fun e w' => e = .returned (.string (bs (if b then [116, 114, 117, 101] else [102, 97, 108, 115, 101]))) ∧ w = w' := by
  refine (Tryz.strconv_FormatBool b w).mono ?_
  rintro e w' ⟨rfl, rfl⟩
  cases b <;> exact ⟨rfl, rfl⟩
set_option maxRecDepth 100000 in
set_option maxHeartbeats 1000000 in
theorem Print_any (k n : Int) (s : ByteArray) (f : Nat) (h0 : -9223372036854775808 ≤ n) (h1 : n ≤ 9223372036854775807) (hf : f < 18446744073709551616) (w : World) (g : Glob w) :
    Calls Tryz.prog 64 #[.agg #[.int .i64 k, .int .i64 n, .string s, .int .u64 f]] w fun e w' => e = .returned (.string (bs (vprint ⟨k, n, L s, f⟩))) ∧ Ext w w' := by
  have HG := Lib.hid g
  have HR := Lib.hid (right_any k n s f h0 h1)
  have hp : vprint ⟨k, n, L s, f⟩ = vprint0 (vnorm ⟨k, n, L s, f⟩) := rfl
  clear g
  rcases vnorm_cases ⟨k, n, L s, f⟩ with (h | h | h) | h | ⟨t, h, ht⟩ | h
  all_goals rw [h] at hp
  all_goals have hx := Lib.hid h
  all_goals have hp := Lib.hid hp
  all_goals clear h
  · go_enter Tryz.func64, Tryz.ntmps64
    go_wp2_with fail
    refine (HR.out _).mono ?_
    rintro e w1 ⟨rfl, he⟩
    rw [hx.out]
    obtain ⟨hc, hf⟩ := he.cells
    have hsz := he.le
    simp only [encV, vzero]
    go_wp2_with fail
    go_ret
    refine ⟨ret_str (by rw [hp.out]; rfl), ?_⟩
    (repeat (first | exact Ext.refl _ | assumption | (refine Ext.setCell ?_ (by simp; try omega) _) | apply Ext.alloc | apply Ext.drew | apply Ext.drewN' | (refine Ext.trans ?_ (by assumption))))
  · go_enter Tryz.func64, Tryz.ntmps64
    go_wp2_with fail
    refine (HR.out _).mono ?_
    rintro e w1 ⟨rfl, he⟩
    rw [hx.out]
    obtain ⟨hc, hf⟩ := he.cells
    have hsz := he.le
    simp only [encV, vzero]
    go_wp2_with (go_at_call 81; refine (fmtBool_any _ _).mono ?_; rintro e w2 ⟨rfl, rfl⟩)
    go_ret
    refine ⟨ret_str (by rw [hp.out]; rfl), ?_⟩
    (repeat (first | exact Ext.refl _ | assumption | (refine Ext.setCell ?_ (by simp; try omega) _) | apply Ext.alloc | apply Ext.drew | apply Ext.drewN' | (refine Ext.trans ?_ (by assumption))))
  · go_enter Tryz.func64, Tryz.ntmps64
    go_wp2_with fail
    refine (HR.out _).mono ?_
    rintro e w1 ⟨rfl, he⟩
    rw [hx.out]
    obtain ⟨hc, hf⟩ := he.cells
    have hsz := he.le
    simp only [encV, vzero]
    go_wp2_with (go_at_call 81; refine (fmtBool_any _ _).mono ?_; rintro e w2 ⟨rfl, rfl⟩)
    go_ret
    refine ⟨ret_str (by rw [hp.out]; rfl), ?_⟩
    (repeat (first | exact Ext.refl _ | assumption | (refine Ext.setCell ?_ (by simp; try omega) _) | apply Ext.alloc | apply Ext.drew | apply Ext.drewN' | (refine Ext.trans ?_ (by assumption))))
  · go_enter Tryz.func64, Tryz.ntmps64
    go_wp2_with fail
    refine (HR.out _).mono ?_
    rintro e w1 ⟨rfl, he⟩
    rw [hx.out]
    obtain ⟨hc, hf⟩ := he.cells
    have hsz := he.le
    simp only [encV, vzero]
    go_wp2_with (go_at_call 80; refine (Itoa_any n h0 h1 _ ?gg).mono ?_; rotate_left; rintro e w2 ⟨rfl, he2⟩)
    case gg => exact (HG.out.ext (by (repeat (first | exact Ext.refl _ | assumption | (refine Ext.setCell ?_ (by simp; try omega) _) | apply Ext.alloc | apply Ext.drew | apply Ext.drewN' | (refine Ext.trans ?_ (by assumption))))))
    go_ret
    refine ⟨ret_str (by rw [hp.out]; rfl), ?_⟩
    (repeat (first | exact Ext.refl _ | assumption | (refine Ext.setCell ?_ (by simp; try omega) _) | apply Ext.alloc | apply Ext.drew | apply Ext.drewN' | (refine Ext.trans ?_ (by assumption))))
  · go_enter Tryz.func64, Tryz.ntmps64
    go_wp2_with fail
    refine (HR.out _).mono ?_
    rintro e w1 ⟨rfl, he⟩
    rw [hx.out]
    obtain ⟨hc, hf⟩ := he.cells
    have hsz := he.le
    simp only [encV, vzero]
    have hz : (bs (hexS (L (bs t)))).size = 2 * t.length := by rw [size_bs, hexS_length, L_bs]
    go_wp2_with (go_at_call 82; refine (hex_any (bs t) ?hh _).mono ?_; rotate_left; rintro e w2 ⟨rfl, he2⟩)
    case hh => rw [size_bs]; omega
    go_ret
    refine ⟨ret_str (by rw [hp.out]; simp [vprint0, L_bs]; rfl), ?_⟩
    (repeat (first | exact Ext.refl _ | assumption | (refine Ext.setCell ?_ (by simp; try omega) _) | apply Ext.alloc | apply Ext.drew | apply Ext.drewN' | (refine Ext.trans ?_ (by assumption))))
  · go_enter Tryz.func64, Tryz.ntmps64
    go_wp2_with fail
    refine (HR.out _).mono ?_
    rintro e w1 ⟨rfl, he⟩
    rw [hx.out]
    obtain ⟨hc, hf⟩ := he.cells
    have hsz := he.le
    simp only [encV, vzero]
    go_wp2_with (go_at_call 83; refine (fPrint_any f ?hh _ ?gg).mono ?_; rotate_left 2; rintro e w2 ⟨rfl, he2⟩)
    case hh => assumption
    case gg => exact (HG.out.ext (by (repeat (first | exact Ext.refl _ | assumption | (refine Ext.setCell ?_ (by simp; try omega) _) | apply Ext.alloc | apply Ext.drew | apply Ext.drewN' | (refine Ext.trans ?_ (by assumption))))))
    go_ret
    refine ⟨ret_str (by rw [hp.out]; rfl), ?_⟩
    (repeat (first | exact Ext.refl _ | assumption | (refine Ext.setCell ?_ (by simp; try omega) _) | apply Ext.alloc | apply Ext.drew | apply Ext.drewN' | (refine Ext.trans ?_ (by assumption))))
end Go.Proofs.YtcnnpedmccjdkaaGreatDoor
