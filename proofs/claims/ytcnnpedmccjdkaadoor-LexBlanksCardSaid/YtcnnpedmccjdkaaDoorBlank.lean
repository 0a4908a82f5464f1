/- Layer 16: LexBlanks. -/
import Derived.Test.YtcnnpedmccjdkaaDoorReads
import Derived.Test.YtcnnpedmccjdkaaDoorBlankP
import Derived.BigQuiet
set_option linter.unusedSimpArgs false
set_option linter.unusedVariables false
namespace Go.Proofs.YtcnnpedmccjdkaaDoor
open Go.RowKit
theorem own_len {w : World} {base : Nat} {e : TypeId} {v : Value} {n : Nat} {xs : List Value} (h : w.ownsRow base e 8 v n xs) : ∃ a cap, v = .slice a n cap := by
  rcases h.2 with ⟨h1, h2⟩ | ⟨g, cap, cur, hv, _⟩
  · subst h2; exact ⟨_, _, h1⟩
  · exact ⟨_, _, hv⟩
theorem prev_at {x : List Tok} {k j : Nat} {t t' : Tok} {p : Nat} (h : x[k]? = some t ∧ t.at_ = p) (hj : k + 1 = j + 1) (h2 : x[j]? = some t') : t'.at_ = p := by
  obtain rfl : k = j := by omega
  rw [h.1] at h2; cases h2; exact h.2
theorem bs_app (a b : B) : bs a ++ bs b = bs (a ++ b) := by
  apply ByteArray.ext
  simp [bs, ByteArray.data_append]
theorem cat_ext (W : B) (s : ByteArray) (a p : Nat) : bs W ++ s.extract a p = bs (W ++ ((L s).drop a).take (p - a)) := by
  rw [extract_bs, List.drop_take, bs_app]
theorem cat_32 (W : B) : bs W ++ ByteArray.mk #[32] = bs (W ++ [32]) := bs_app W [32]
set_option maxRecDepth 100000 in
set_option maxHeartbeats 1000000 in
theorem LexBlanks_any (s : ByteArray) (hs : s.size ≤ 9223372036854775807) (n : Nat) (hn : n < 256) (w : World) (g : Glob w) :
    Calls Tryd.prog 3 #[.string s, .int .u8 (n : Int)] w fun e w' => e = .returned (.bool true) ∧ Ext w w' := by
  have HG := Lib.hid g
  clear g
  go_enter Tryd.func3, Tryd.ntmps3
  go_wp2_with fail
  refine (first_any _ HG.out).mono ?_
  rintro e w1 ⟨rfl, he⟩
  have HE1 := Lib.hid he
  have HG1 := Lib.hid (HG.out.ext he)
  clear he
  have HLA := Lib.hid (fun w g => Lex_any s hs w g)
  go_wp2_with fail
  refine (HLA.out _ HG1.out).mono ?_
  rintro e w2 h2
  obtain ⟨vx, p1, q1, rfl, he2, hx⟩ := lexForm h2
  have HX := Lib.hid hx
  have HG2 := Lib.hid (HG1.out.ext he2)
  have HE2 := Lib.hid (HE1.out.trans he2)
  clear h2 he2 hx
  by_cases hbig : 600 < s.size
  · go_wp2_with fail
    go_ret
    exact ⟨rfl, HE2.out⟩
  rcases HX.out with ⟨x, hlx, rfl, hox⟩ | ⟨_, rfl⟩
  rotate_left
  · go_wp2_with fail
    go_ret
    exact ⟨rfl, HE2.out⟩
  have HXO := Lib.hid hox
  obtain ⟨ax, cx, hvx⟩ := own_len hox
  subst hvx
  have hcx := lexS_count2 hlx
  have hLs := size_L s
  have hxl : x.length ≤ 600 := by omega
  have HAT := Lib.hid (lexS_at2 hlx)
  have HINC : Hid (incr 0 x) := by
    have h := hlx
    rw [lexS_G (by omega)] at h
    exact lexG_incr _ _ rfl 0 x h
  have HBL := Lib.hid (lexS_blanks (l := L s) (ts := x) (n % 3) (by omega) (by omega) hlx hcx.1)
  clear hlx hox HX HLA hcx
  obtain ⟨kk, hkk⟩ : ∃ kk, n % 3 = kk := ⟨_, rfl⟩
  rw [hkk] at HBL
  have hkI : (n : Int) % 3 = (kk : Int) := by omega
  have hk3 : kk ≤ 2 := by omega
  clear hkk
  go_wp2_with fail
  go_loopw [34, 8, 9] (fun vi vw vl wr => ∃ (k a : Nat) (W : B), k ≤ x.length ∧ vi = .int .i64 (k : Int) ∧ vw = .string (bs W) ∧ vl = .int .i64 (a : Int) ∧ a ≤ s.size ∧ Ext w2 wr ∧ W.length ≤ a + 2 * k ∧
    Hid (ins kk (L s) (places x) 0 = W ++ ins kk (L s) (places (x.drop k)) a) ∧ Hid (incr (if k = 0 then a else a + 1) (x.drop k)) ∧ Hid (∀ j t, k = j + 1 → x[j]? = some t → t.at_ = a)) (fun vi _ _ _ => x.length - (intOf vi).toNat)
  case atStart => exact ⟨0, 0, [], by omega, rfl, rfl, rfl, by omega, Ext.refl _, by simp, rfl, HINC.out, fun j t h => by omega⟩
  case round =>
    obtain ⟨k, a, W, hk, rfl, rfl, rfl, ha, he, hW, hins, hinc, hprev⟩ := hrel
    by_cases hlt : k < x.length
    · have hb1 : (0 : Int) ≤ (k : Int) := by omega
      have hb2 : (k : Int) < (x.length : Int) := by omega
      obtain ⟨t, ht⟩ : ∃ t, x[k]? = some t := ⟨_, List.getElem?_eq_getElem hlt⟩
      have hdrop : x.drop k = t :: x.drop (k + 1) := by
        rw [List.drop_eq_getElem_cons hlt]; congr 1; exact (List.getElem?_eq_some_iff.1 ht).2
      obtain ⟨g, cap, hv, hg0, hg1, hc⟩ := own_get HXO.out (by omega)
      injection hv with e1 e2 e3
      subst e1
      have hcc : ∀ j t, x[j]? = some t → tokAt wr g j t := fun j t h => tokAt_of (fun i u hu => he.cell (hc i u hu)) j t h
      obtain ⟨k0, k1, k2, k3, k4, k5, k6, k7⟩ := hcc k t ht
      have hat := HAT.out t (List.mem_of_getElem? ht)
      rw [hLs] at hat
      have hi := hinc.out
      rw [hdrop] at hi
      obtain ⟨p, hp⟩ : ∃ p : Nat, t.at_ = (p : Int) := ⟨t.at_.toNat, by omega⟩
      have hap : a ≤ p := by have := hi.1; split at this <;> omega
      have hps : p < s.size := by omega
      have HI2 : Hid (incr (p + 1) (x.drop (k + 1))) := by have := hi.2; rw [hp, Int.toNat_natCast] at this; exact this
      have HN2 : Hid (ins kk (L s) (places x) 0 = (W ++ ((L s).drop a).take (p - a) ++ List.replicate kk 32) ++ ins kk (L s) (places (x.drop (k + 1))) p) := by
        have h := hins.out
        rw [hdrop] at h
        show _ = _
        rw [h]
        show W ++ (((L s).drop a).take (t.at_.toNat - a) ++ (List.replicate kk 32 ++ ins kk (L s) (places (x.drop (k + 1))) t.at_.toNat)) = _
        rw [hp, Int.toNat_natCast]
        simp
      rw [hp] at k1
      have HTP : Hid (x[k]? = some t ∧ t.at_ = p) := ⟨ht, hp⟩
      have hc2 := cat_ext W s a p
      obtain ⟨W2, hW2⟩ : ∃ W2, W ++ ((L s).drop a).take (p - a) = W2 := ⟨_, rfl⟩
      rw [hW2] at hc2 HN2
      have hlW : (bs W).size ≤ 3000 := by rw [size_bs]; omega
      have hlE : (s.extract a p).size = p - a := by rw [ByteArray.size_extract]; omega
      have hW2l : W2.length ≤ p + 2 * k := by
        rw [← hW2, List.length_append, List.length_take, List.length_drop]; omega
      have hgl : g < wr.heap.size := by have := he.le; omega
      have hgn : ¬ g = wr.heap.size := by omega
      have hp1 : (0 : Int) ≤ (a : Int) := by omega
      have hp2 : (a : Int) ≤ (p : Int) := by omega
      have hp3 : (p : Int) ≤ (s.size : Int) := by omega
      rcases Nat.eq_zero_or_pos k with rfl | hkpos
      · clear hi hdrop hcc hc hat hW2
        go_wp2
        go_quiet (fail)
        go_wp2
        go_loop [61, 8] (fun vj vw => ∃ j : Nat, j ≤ kk ∧ vj = .int .u8 (j : Int) ∧ vw = .string (bs (W2 ++ List.replicate j 32))) (fun vj _ => kk - (intOf vj).toNat)
        case atStart => exact ⟨0, by omega, rfl, by simp⟩
        case round =>
          obtain ⟨j, hj, rfl, rfl⟩ := hrel
          by_cases hjk : j < kk
          · have hc3 := cat_32 (W2 ++ List.replicate j 32)
            have hl3 : (bs (W2 ++ List.replicate j 32)).size ≤ 3000 := by rw [size_bs, List.length_append, List.length_replicate]; omega
            go_wp2
            go_round
            case rel => exact ⟨j + 1, by omega, by simp, by rw [List.replicate_succ', ← List.append_assoc]⟩
            case measure => (try simp only [intOf]); (try simp); omega
          · have hjk2 : j = kk := by omega
            subst hjk2
            go_wp2
            go_roundw
            case rel => exact ⟨_, .string (bs (W2 ++ List.replicate j 32)), .int .i64 (p : Int), _, _, .int .i64 ((0 + 1 : Nat) : Int), ⟨0 + 1, by omega, rfl, p, W2 ++ List.replicate j 32, rfl, rfl, by omega, by (repeat (first | with_reducible exact Ext.refl _ | with_reducible assumption | (with_reducible refine Ext.setCell ?_ ?_ _; rotate_left; (first | exact Nat.le_refl _ | (simp; try omega))) | with_reducible apply Ext.alloc | with_reducible apply Ext.drew | with_reducible apply Ext.drewN' | (with_reducible refine Ext.trans ?_ (by with_reducible assumption)))), by rw [List.length_append, List.length_replicate]; omega, HN2, by show incr _ _; simpa using HI2.out, fun j' t' h1 h2 => prev_at HTP.out (by omega) h2⟩, rfl, rfl, rfl, rfl, rfl, by simp⟩
            case measure => (try simp only [intOf]); (try simp); omega
      · obtain ⟨j0, rfl⟩ : ∃ j, k = j + 1 := ⟨k - 1, by omega⟩
        obtain ⟨u, hu⟩ : ∃ u, x[j0]? = some u := ⟨_, List.getElem?_eq_getElem (by omega)⟩
        have hua := hprev.out j0 u rfl hu
        obtain ⟨_, m1, _⟩ := hcc j0 u hu
        rw [hua] at m1
        have hap2 : ¬ (p : Int) ≤ (a : Int) := by have h := hi.1; rw [if_neg (by omega), hp] at h; omega
        have hb3 : (0 : Int) ≤ (j0 : Int) := by omega
        have hgt : (0 : Int) < (j0 : Int) + 1 := by omega
        have hjw : IntKind.i64.wrap (j0 : Int) = (j0 : Int) := by rw [IntKind.wrap_i64]; omega
        have hap3 : (a : Int) < (p : Int) := by omega
        have hb4 : (j0 : Int) < (x.length : Int) := by omega
        clear hi hdrop hcc hc hat hW2
        go_wp2
        go_quiet (fail)
        go_wp2
        go_loop [61, 8] (fun vj vw => ∃ j : Nat, j ≤ kk ∧ vj = .int .u8 (j : Int) ∧ vw = .string (bs (W2 ++ List.replicate j 32))) (fun vj _ => kk - (intOf vj).toNat)
        case atStart => exact ⟨0, by omega, rfl, by simp⟩
        case round =>
          obtain ⟨j, hj, rfl, rfl⟩ := hrel
          by_cases hjk : j < kk
          · have hc3 := cat_32 (W2 ++ List.replicate j 32)
            have hl3 : (bs (W2 ++ List.replicate j 32)).size ≤ 3000 := by rw [size_bs, List.length_append, List.length_replicate]; omega
            go_wp2
            go_round
            case rel => exact ⟨j + 1, by omega, by simp, by rw [List.replicate_succ', ← List.append_assoc]⟩
            case measure => (try simp only [intOf]); (try simp); omega
          · have hjk2 : j = kk := by omega
            subst hjk2
            go_wp2
            go_roundw
            case rel => exact ⟨_, .string (bs (W2 ++ List.replicate j 32)), .int .i64 (p : Int), _, _, .int .i64 ((j0 + 1 + 1 : Nat) : Int), ⟨j0 + 1 + 1, by omega, rfl, p, W2 ++ List.replicate j 32, rfl, rfl, by omega, by (repeat (first | with_reducible exact Ext.refl _ | with_reducible assumption | (with_reducible refine Ext.setCell ?_ ?_ _; rotate_left; (first | exact Nat.le_refl _ | (simp; try omega))) | with_reducible apply Ext.alloc | with_reducible apply Ext.drew | with_reducible apply Ext.drewN' | (with_reducible refine Ext.trans ?_ (by with_reducible assumption)))), by rw [List.length_append, List.length_replicate]; omega, HN2, by show incr _ _; simpa using HI2.out, fun j' t' h1 h2 => prev_at HTP.out (by omega) h2⟩, rfl, rfl, rfl, rfl, rfl, by simp⟩
            case measure => (try simp only [intOf]); (try simp); omega
    · have hkk : k = x.length := by omega
      subst hkk
      have hfin : ins kk (L s) (places x) 0 = W ++ (L s).drop a := by
        have h := hins.out
        rw [List.drop_length] at h
        exact h
      have hc2 := cat_ext W s a s.size
      rw [List.take_of_length_le (by rw [List.length_drop]; omega), ← hfin] at hc2
      have hlW : (bs W).size ≤ 3000 := by rw [size_bs]; omega
      have hlE : (s.extract a s.size).size = s.size - a := by rw [ByteArray.size_extract]; omega
      have hp1 : (0 : Int) ≤ (a : Int) := by omega
      have hp2 : (a : Int) ≤ (s.size : Int) := by omega
      obtain ⟨T, hT⟩ : ∃ T, ins kk (L s) (places x) 0 = T := ⟨_, rfl⟩
      have hTl : (bs T).size ≤ 9223372036854775807 := by
        rw [size_bs, ← hT, hfin, List.length_append, List.length_drop]; omega
      rw [hT] at hc2
      have HBL2 := HBL.out
      rw [hT] at HBL2
      obtain ⟨y, hly, hcl⟩ := HBL2
      have HLB := Lib.hid (fun w g => Lex_any (bs T) hTl w g)
      rw [L_bs] at HLB
      have hyl : y.length = x.length := by have := congrArg List.length hcl; simpa using this
      have HCL := Lib.hid hcl
      have HLY := Lib.hid hly
      have HE3 := Lib.hid (HE2.out.trans he)
      have HG3 := Lib.hid (HG2.out.ext he)
      have HXO2 := Lib.hid (own_ext HXO.out he)
      clear hins hinc hprev hfin hT hcl hly he
      go_wp2_with fail
      refine (HLB.out _ HG3.out).mono ?_
      rintro e w4 h4
      obtain ⟨vy, p2, q2, rfl, he4, hy⟩ := lexForm h4
      rcases hy with ⟨y', hly', rfl, hoy⟩ | ⟨⟨p, hp⟩, _⟩
      rotate_left
      · rw [HLY.out] at hp; cases hp
      rw [HLY.out] at hly'
      obtain rfl : y = y' := Except.ok.inj hly'
      obtain ⟨ay, cy, hvy⟩ := own_len hoy
      subst hvy
      have HYO := Lib.hid hoy
      have HXO3 := Lib.hid (own_ext HXO2.out he4)
      have HE4 := Lib.hid (HE3.out.trans he4)
      rw [hyl] at HYO
      rw [hyl]
      clear h4 hly' hoy he4 hc2 hTl hlW hlE
      go_wp2_with fail
      go_loopw [90] (fun vi wr => ∃ k : Nat, k ≤ x.length ∧ vi = .int .i64 (k : Int) ∧ Ext w4 wr) (fun vi _ => x.length - (intOf vi).toNat)
      case atStart => exact ⟨0, by omega, rfl, Ext.refl _⟩
      case round =>
        rename_i wr5 _ _ _ _
        obtain ⟨k, hk, rfl, he⟩ := hrel
        by_cases hlt : k < x.length
        · have hb1 : (0 : Int) ≤ (k : Int) := by omega
          have hb2 : (k : Int) < (x.length : Int) := by omega
          obtain ⟨t, ht⟩ : ∃ t, x[k]? = some t := ⟨_, List.getElem?_eq_getElem hlt⟩
          obtain ⟨u, hu⟩ : ∃ u, y[k]? = some u := ⟨_, List.getElem?_eq_getElem (by omega)⟩
          obtain ⟨g, cap, hv, hg0, hg1, hc⟩ := own_get HXO3.out (by omega)
          injection hv with e1 e2 e3
          subst e1
          obtain ⟨g', cap', hv', hg0', hg1', hc'⟩ := own_get HYO.out (by omega)
          injection hv' with e4 e5 e6
          subst e4
          obtain ⟨k0, k1, k2, k3, k4, k5, k6, k7⟩ := tokAt_of (w := wr) (fun i v hv => he.cell (hc i v hv)) k t ht
          obtain ⟨j0, j1, j2, j3, j4, j5, j6, j7⟩ := tokAt_of (w := wr) (fun i v hv => he.cell (hc' i v hv)) k u hu
          have hgl : g < wr.heap.size := by have := he.le; omega
          have hgn : ¬ g = wr.heap.size := by omega
          have hgl' : g' < wr.heap.size := by have := he.le; omega
          have hgn' : ¬ g' = wr.heap.size := by omega
          have hcu : clr u = clr t := by
            have h := congrArg (fun l => l[k]?) HCL.out
            simp only [List.getElem?_map, hu, ht, Option.map_some] at h
            exact Option.some.inj h
          have hut : { u with at_ := t.at_ } = t := by
            have h := congrArg (fun z : Tok => { z with at_ := t.at_ }) hcu
            exact h
          have hq := fun w => (eql_tok u.kind t.kind t.at_ t.at_ (bs u.text) (bs t.text) u.op t.op u.val.kind t.val.kind u.val.n t.val.n (bs u.val.s) (bs t.val.s) u.val.f t.val.f w).2
          have hq2 := eqTok_iff { u with at_ := t.at_ } t
          dsimp only at hq2
          rw [hq2, hut, decide_eq_true rfl] at hq
          clear hc hc' hcu hut hq2 e2 e3 e5 e6 ht hu
          go_wp2
          go_quiet (fail)
          go_wp2
          go_roundw
          case rel => exact ⟨k + 1, by omega, by simp, by (repeat (first | with_reducible exact Ext.refl _ | with_reducible assumption | (with_reducible refine Ext.setCell ?_ ?_ _; rotate_left; (first | exact Nat.le_refl _ | (simp; try omega))) | with_reducible apply Ext.alloc | with_reducible apply Ext.drew | with_reducible apply Ext.drewN' | (with_reducible refine Ext.trans ?_ (by with_reducible assumption))))⟩
          case measure => (try simp only [intOf]); (try simp); omega
        · go_wp2
          go_ret
          exact ⟨rfl, HE4.out.trans he⟩
end Go.Proofs.YtcnnpedmccjdkaaDoor
