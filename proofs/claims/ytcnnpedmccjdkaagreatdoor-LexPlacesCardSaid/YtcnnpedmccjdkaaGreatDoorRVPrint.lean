/- The reference's values: Print. -/
import Derived.Test.YtcnnpedmccjdkaaGreatDoorRVal
import Derived.Test.YtcnnpedmccjdkaaGreatDoorValB
set_option linter.unusedSimpArgs false
set_option linter.unusedVariables false
namespace Go.Proofs.YtcnnpedmccjdkaaGreatDoor
open Go.RowKit
set_option maxRecDepth 100000 in
set_option maxHeartbeats 1000000 in
theorem rvPrint_any (k n : Int) (s : ByteArray) (f : Nat) (h0 : -9223372036854775808 ≤ n) (h1 : n ≤ 9223372036854775807) (hf : f < 18446744073709551616) (w : World) :
    Calls Tryz.prog 19 #[.agg #[.int .i64 k, .int .i64 n, .string s, .int .u64 f]] w fun e w' => e = .returned (.string (bs (vprint ⟨k, n, L s, f⟩))) ∧ Ext w w' := by
  have HR := Lib.hid (rright_any k n s f hf)
  have hp : vprint ⟨k, n, L s, f⟩ = vprint0 (vnorm ⟨k, n, L s, f⟩) := rfl
  rcases vnorm_cases ⟨k, n, L s, f⟩ with (h | h | h) | h | ⟨t, h, ht⟩ | h
  all_goals rw [h] at hp
  all_goals have hx := Lib.hid h
  all_goals have hp := Lib.hid hp
  all_goals clear h
  · go_enter Tryz.func19, Tryz.ntmps19
    go_wp2_with fail
    refine (HR.out _).mono ?_
    rintro e w1 ⟨rfl, he⟩
    rw [hx.out]
    obtain ⟨hc, hf⟩ := he.cells
    have hsz := he.le
    simp only [encV, vzero]
    go_wp2_with fail
    go_ret
    refine ⟨ret_str (by rw [hp.out]; rfl), ?_⟩
    (repeat (first | exact Ext.refl _ | assumption | (refine Ext.setCell ?_ (by simp; try omega) _) | apply Ext.alloc | apply Ext.drew | apply Ext.drewN' | (refine Ext.trans ?_ (by assumption))))
  · go_enter Tryz.func19, Tryz.ntmps19
    go_wp2_with fail
    refine (HR.out _).mono ?_
    rintro e w1 ⟨rfl, he⟩
    rw [hx.out]
    obtain ⟨hc, hf⟩ := he.cells
    have hsz := he.le
    simp only [encV, vzero]
    go_wp2_with fail
    go_ret
    refine ⟨ret_str (by rw [hp.out]; rfl), ?_⟩
    (repeat (first | exact Ext.refl _ | assumption | (refine Ext.setCell ?_ (by simp; try omega) _) | apply Ext.alloc | apply Ext.drew | apply Ext.drewN' | (refine Ext.trans ?_ (by assumption))))
  · go_enter Tryz.func19, Tryz.ntmps19
    go_wp2_with fail
    refine (HR.out _).mono ?_
    rintro e w1 ⟨rfl, he⟩
    rw [hx.out]
    obtain ⟨hc, hf⟩ := he.cells
    have hsz := he.le
    simp only [encV, vzero]
    go_wp2_with fail
    go_ret
    refine ⟨ret_str (by rw [hp.out]; rfl), ?_⟩
    (repeat (first | exact Ext.refl _ | assumption | (refine Ext.setCell ?_ (by simp; try omega) _) | apply Ext.alloc | apply Ext.drew | apply Ext.drewN' | (refine Ext.trans ?_ (by assumption))))
  · have HT := Lib.hid (rdigits_int n h0 h1)
    go_enter Tryz.func19, Tryz.ntmps19
    go_wp2_with fail
    refine (HR.out _).mono ?_
    rintro e w1 ⟨rfl, he⟩
    rw [hx.out]
    obtain ⟨hc, hf⟩ := he.cells
    have hsz := he.le
    simp only [encV, vzero]
    go_wp2_with (go_at_call 36; refine (HT.out _).mono ?_; rintro e w2 ⟨rfl, he2⟩)
    go_ret
    refine ⟨ret_str (by rw [hp.out]; rfl), ?_⟩
    (repeat (first | exact Ext.refl _ | assumption | (refine Ext.setCell ?_ (by simp; try omega) _) | apply Ext.alloc | apply Ext.drew | apply Ext.drewN' | (refine Ext.trans ?_ (by assumption))))
  · obtain ⟨sb, rfl⟩ : ∃ sb : ByteArray, t = L sb := ⟨bs t, rfl⟩
    rw [size_L] at ht
    go_enter Tryz.func19, Tryz.ntmps19
    go_wp2_with fail
    refine (HR.out _).mono ?_
    rintro e w1 ⟨rfl, he⟩
    rw [hx.out]
    obtain ⟨hc, hf⟩ := he.cells
    have hsz := he.le
    simp only [encV, vzero, bs_L]
    go_wp2_with fail
    go_loopw [4, 5] (fun vs vi wr => ∃ j : Nat, j ≤ sb.size ∧ vi = .int .i64 (j : Int) ∧ vs = .string (bs (120 :: hexS ((L sb).take j))) ∧ Hid (Ext w wr) ∧ wr.cell? ⟨w1.heap.size, 2, none⟩ = some (.string sb) ∧ wr.frozen? ⟨w1.heap.size, 2, none⟩ = false) (fun _ vi _ => sb.size - (intOf vi).toNat)
    case atStart => exact ⟨0, by omega, rfl, rfl, by show Ext _ _; (repeat (first | exact Ext.refl _ | assumption | (refine Ext.setCell ?_ (by simp; try omega) _) | apply Ext.alloc | apply Ext.drew | apply Ext.drewN' | (refine Ext.trans ?_ (by assumption)))), by go_simp, by go_simp⟩
    case round =>
      obtain ⟨j, hj, rfl, rfl, hE, hcell, hfrz⟩ := hrel
      by_cases hlt : j < sb.size
      · have hb1 : (0 : Int) ≤ (j : Int) := by omega
        have hb2 : (j : Int) < (sb.size : Int) := by omega
        have hsnoc : hexS ((L sb).take (j + 1)) = hexS ((L sb).take j) ++ [hexd (sb[j].toNat / 16), hexd (sb[j].toNat % 16)] := by rw [take_L sb j hlt, hexS_snoc]
        have HN := Lib.hid hsnoc
        have h256 : sb[j].toNat < 256 := UInt8.toNat_lt _
        clear hsnoc
        have hs1 := hexSl (sb[j].toNat / 16) (by omega)
        have hs2 := hexSl (sb[j].toNat % 16) (by omega)
        have hq1 : IntKind.u8.wrap ((sb[j].toNat : Int) / 16 + 1) = (sb[j].toNat : Int) / 16 + 1 := by rw [IntKind.wrap_u8]; omega
        have hq2 : IntKind.u8.wrap ((sb[j].toNat : Int) % 16 + 1) = (sb[j].toNat : Int) % 16 + 1 := by rw [IntKind.wrap_u8]; omega
        have hl0 : (bs (120 :: hexS ((L sb).take j))).size ≤ 1000 := by rw [size_bs, List.length_cons, hexS_length, List.length_take, size_L]; omega
        have hl1 : (bs [hexd (sb[j].toNat / 16)]).size ≤ 1 := Nat.le_refl _
        have hl2 : (bs [hexd (sb[j].toNat % 16)]).size ≤ 1 := Nat.le_refl _
        go_wp2_with fail
        go_quiet (fail)
        go_wp2_with fail
        go_roundw
        case rel =>
          refine ⟨j + 1, by omega, by simp, ?_, hE.out.drewN' _, by simp [hcell], by simp [hfrz]⟩
          rw [HN.out, bs_append, bs_append]; simp
        case measure => (try simp only [intOf]); (try simp); omega
      · have hjj : j = sb.size := by omega
        subst hjj
        go_wp2_with fail
        go_ret
        refine ⟨ret_str ?_, hE.out⟩
        rw [hp.out, List.take_of_length_le (by rw [size_L]; omega)]; rfl
  · have HT := Lib.hid (rfPrint_any f hf)
    go_enter Tryz.func19, Tryz.ntmps19
    go_wp2_with fail
    refine (HR.out _).mono ?_
    rintro e w1 ⟨rfl, he⟩
    rw [hx.out]
    obtain ⟨hc, hf⟩ := he.cells
    have hsz := he.le
    simp only [encV, vzero]
    go_wp2_with (go_at_call 37; refine (HT.out _).mono ?_; rintro e w2 ⟨rfl, he2⟩)
    go_ret
    refine ⟨ret_str (by rw [hp.out]; rfl), ?_⟩
    (repeat (first | exact Ext.refl _ | assumption | (refine Ext.setCell ?_ (by simp; try omega) _) | apply Ext.alloc | apply Ext.drew | apply Ext.drewN' | (refine Ext.trans ?_ (by assumption))))
end Go.Proofs.YtcnnpedmccjdkaaGreatDoor
