/- Layer 16: tokens compared; LexNames. -/
import Derived.Test.YtcnnpedmccjdkaaGreatDoorLawB
set_option linter.unusedSimpArgs false
set_option linter.unusedVariables false
namespace Go.Proofs.YtcnnpedmccjdkaaGreatDoor
open Go.RowKit
def eqTok (k k' a a' : Int) (t t' : ByteArray) (o o' x0 y0 x1 y1 : Int) (x2 y2 : ByteArray) (x3 y3 : Int) : Bool :=
  k == k' && (a == a' && (t.toList == t'.toList && (o == o' && eqVal x0 y0 x1 y1 x2 y2 x3 y3)))
theorem eql_tok (k k' a a' : Int) (t t' : ByteArray) (o o' x0 y0 x1 y1 : Int) (x2 y2 : ByteArray) (x3 y3 : Int) (w : World) :
    (binOp .eql 38 (.agg #[.int .i64 k, .int .i64 a, .string t, .int .i64 o, .int .i64 x0, .int .i64 x1, .string x2, .int .u64 x3]) (.agg #[.int .i64 k', .int .i64 a', .string t', .int .i64 o', .int .i64 y0, .int .i64 y1, .string y2, .int .u64 y3])).run Tryz.prog w = .ok (.bool (eqTok k k' a a' t t' o o' x0 y0 x1 y1 x2 y2 x3 y3)) w ∧
    (binOp .neq 38 (.agg #[.int .i64 k, .int .i64 a, .string t, .int .i64 o, .int .i64 x0, .int .i64 x1, .string x2, .int .u64 x3]) (.agg #[.int .i64 k', .int .i64 a', .string t', .int .i64 o', .int .i64 y0, .int .i64 y1, .string y2, .int .u64 y3])).run Tryz.prog w = .ok (.bool (!eqTok k k' a a' t t' o o' x0 y0 x1 y1 x2 y2 x3 y3)) w := by
  refine eql_of_equalIn ?_
  refine eqA_struct (d := 9999) Tryz.underlying38 (by kernel_rfl) ?_
  refine eqF_cons (by rfl) (by go_simp; rfl) (by go_simp; rfl) (by go_simp) ?_
  refine eqF_cons (by rfl) (by go_simp; rfl) (by go_simp; rfl) (by go_simp) ?_
  refine eqF_cons (by rfl) (by go_simp; rfl) (by go_simp; rfl) (by go_simp) ?_
  refine eqF_cons (by rfl) (by go_simp; rfl) (by go_simp; rfl) (by go_simp) ?_
  refine eqF_last (by rfl) (by go_simp; rfl) (by go_simp; rfl) ?_
  exact equalIn_val 9997 x0 y0 x1 y1 x2 y2 x3 y3 w
theorem eqTok_iff (x y : Tok) : eqTok x.kind y.kind x.at_ y.at_ (bs x.text) (bs y.text) x.op y.op x.val.kind y.val.kind x.val.n y.val.n (bs x.val.s) (bs y.val.s) x.val.f y.val.f = decide (x = y) := by
  obtain ⟨k, a, t, o, ⟨x0, x1, x2, x3⟩⟩ := x
  obtain ⟨k', a', t', o', ⟨y0, y1, y2, y3⟩⟩ := y
  unfold eqTok
  rw [beq_L, eqVal_iff, Bool.eq_iff_iff]
  dsimp only
  simp only [Bool.and_eq_true, beq_iff_eq, decide_eq_true_eq, Tok.mk.injEq, L_bs]
  simp
  intros
  exact decide_eq_true_iff
theorem small_of_name {l : B} (h : isName l = true) : l.takeWhile small = l ∧ l.length ≤ 16 := by
  rw [isName_eq] at h
  simp only [Bool.and_eq_true, decide_eq_true_eq] at h
  refine ⟨takeWhile_all l ?_, h.2⟩
  cases l with
  | nil => simp
  | cons c t =>
    simp only [okPre, Bool.and_eq_true, List.all_eq_true] at h
    intro x hx
    rcases List.mem_cons.1 hx with rfl | hx
    · have := h.1.1.1
      unfold small; rw [this]; rfl
    · exact h.1.1.2 x hx
theorem lex_name {l : B} (h : isName l = true) : lexS (36 :: l) = .ok [⟨0, 0, l, 0, vzero⟩] := by
  obtain ⟨h1, h2⟩ := small_of_name h
  unfold lexS
  rw [if_neg (by simp; omega)]
  have ht : lexTok (36 :: l) = some (⟨0, 0, l, 0, vzero⟩, 1 + l.length) := by
    show (if isName (l.takeWhile small) then _ else _) = _
    rw [h1, if_pos h]
  show (if (36 : UInt8) = 32 then lexGo (36 :: l).length l (0 + 1) else (match lexTok (36 :: l) with | none => .error 0 | some (x, n) => pre [{ x with at_ := (0 : Nat) }] (lexGo (36 :: l).length ((36 :: l).drop n) (0 + n)))) = _
  rw [if_neg (by decide), ht]
  show pre _ (lexGo _ ((36 :: l).drop (1 + l.length)) _) = _
  rw [List.drop_of_length_le (by simp; omega)]
  simp [lexGo, pre]
theorem lexPost_weak {l : B} {w w' : World} {e : Ending} (h : LexPost l w e w') : ∃ v p q, e = .returned (.tuple #[v, .int .i64 p, .int .i64 q]) ∧ Ext w w' := by
  unfold LexPost at h
  split at h
  · obtain ⟨v, rfl, _, he⟩ := h; exact ⟨v, 0, 0, rfl, he⟩
  · obtain ⟨rfl, he⟩ := h; exact ⟨_, _, _, rfl, he⟩
set_option maxRecDepth 100000 in
set_option maxHeartbeats 1000000 in
theorem LexNames_any (s : ByteArray) (hs : s.size ≤ 9223372036854775807) (w : World) (g : Glob w) :
    Calls Tryz.prog 4 #[.string s] w fun e w' => e = .returned (.bool true) ∧ Ext w w' := by
  have HG := Lib.hid g
  clear g
  go_enter Tryz.func4, Tryz.ntmps4
  go_wp2_with fail
  refine (first_any _ HG.out).mono ?_
  rintro e w1 ⟨rfl, he⟩
  have HE1 := Lib.hid he
  have HG1 := Lib.hid (HG.out.ext he)
  clear he
  by_cases hbig : 1000 < s.size
  · go_wp2_with fail
    go_ret
    exact ⟨rfl, HE1.out⟩
  have hsz : (bs (36 :: L s)).size ≤ 9223372036854775807 := by rw [size_bs, List.length_cons, size_L]; omega
  have hcat : ByteArray.mk #[36] ++ s = bs (36 :: L s) := by
    apply ByteArray.ext
    simp [bs, L, ByteArray.data_append]
  have HL := Lib.hid (fun w g => Lex_any (bs (36 :: L s)) hsz w g)
  cases hn : isName (L s) with
  | false =>
    have HN := Lib.hid hn
    clear hn
    go_wp2_with (first
      | (go_at_call 17; refine (Name_ext s _ hs).mono ?_; rintro e w2 ⟨rfl, he2⟩; rw [HN.out])
      | (go_at_call 18; refine (rName_any s hs _).mono ?_; rintro e w' ⟨rfl, rfl⟩; rw [HN.out]))
    refine (HL.out _ (HG1.out.ext he2)).mono ?_
    rintro e w3 h3
    obtain ⟨v, p, q, rfl, he3⟩ := lexPost_weak h3
    clear h3
    go_wp2_with (go_at_call 18; refine (rName_any s hs _).mono ?_; rintro e w' ⟨rfl, rfl⟩; rw [HN.out])
    go_ret
    exact ⟨rfl, by have h := HE1.out; (repeat (first | with_reducible exact Ext.refl _ | with_reducible assumption | (with_reducible refine Ext.setCell ?_ ?_ _; rotate_left; (first | exact Nat.le_refl _ | (simp; try omega))) | with_reducible apply Ext.alloc | with_reducible apply Ext.drew | with_reducible apply Ext.drewN' | (with_reducible refine Ext.trans ?_ (by with_reducible assumption))))⟩
  | true =>
    have hl := lex_name hn
    have HN := Lib.hid hn
    clear hn
    go_wp2_with (first
      | (go_at_call 17; refine (Name_ext s _ hs).mono ?_; rintro e w2 ⟨rfl, he2⟩; rw [HN.out])
      | (go_at_call 18; refine (rName_any s hs _).mono ?_; rintro e w' ⟨rfl, rfl⟩; rw [HN.out]))
    refine (HL.out _ (HG1.out.ext he2)).mono ?_
    rintro e w3 h3
    unfold LexPost at h3
    rw [L_bs, hl] at h3
    obtain ⟨v, rfl, ho, he3⟩ := h3
    obtain ⟨b, cap, rfl, hb0, hb1, hcl⟩ := own_get ho (by simp)
    have k0 := hcl 0 _ rfl
    have k1 := hcl 1 _ rfl
    have k2 := hcl 2 _ rfl
    have k3 := hcl 3 _ rfl
    have k4 := hcl 4 _ rfl
    have k5 := hcl 5 _ rfl
    have k6 := hcl 6 _ rfl
    have k7 := hcl 7 _ rfl
    simp only [vzero] at k4 k5 k6 k7
    have HE3 := Lib.hid ((HE1.out.trans he2).trans he3)
    clear ho hcl he2 he3 hl
    have e1 : (bs (L s)).toList = s.toList := rfl
    have e2 : (bs []).toList = [] := by rw [toList_L]; rfl
    go_wp2_with (go_at_call 18; refine (rName_any s hs _).mono ?_; rintro e w' ⟨rfl, rfl⟩; rw [HN.out])
    go_ret
    exact ⟨rfl, HE3.out⟩
end Go.Proofs.YtcnnpedmccjdkaaGreatDoor
