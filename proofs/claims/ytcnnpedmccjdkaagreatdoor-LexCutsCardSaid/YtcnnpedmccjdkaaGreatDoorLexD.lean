/- lex: token. -/
import Derived.Test.YtcnnpedmccjdkaaGreatDoorLexC
set_option linter.unusedSimpArgs false
set_option linter.unusedVariables false
namespace Go.Proofs.YtcnnpedmccjdkaaGreatDoor
open Go.RowKit
def opsL : List B := [[61], [33, 61], [60, 61], [62, 61], [60], [62]]
def noOps (l : B) (k : Nat) : Prop := ∀ j, j < k → Lib.hasPrefix l (opsL.getD j []) = false
theorem noOps_succ {l : B} {k : Nat} (h : noOps l k) (hk : Lib.hasPrefix l (opsL.getD k []) = false) : noOps l (k + 1) := fun j hj => by
  by_cases hjk : j = k
  · subst hjk; exact hk
  · exact h j (by omega)
theorem hp_iff {l : B} {p : B} : Lib.hasPrefix l p = true ↔ ∃ t, l = p ++ t := by
  unfold Lib.hasPrefix
  rw [List.isPrefixOf_iff_prefix]
  exact ⟨fun ⟨t, h⟩ => ⟨t, h.symm⟩, fun ⟨t, h⟩ => ⟨t, h.symm⟩⟩
def opsK : List Int := [0, 1, 3, 5, 2, 4]
theorem lexTok_op {l : B} {k : Nat} (hk : k < 6) (h : noOps l k) (hp : Lib.hasPrefix l (opsL.getD k []) = true) : lexTok l = some (⟨2, 0, [], opsK.getD k 0, vzero⟩, (opsL.getD k []).length) := by
  obtain ⟨t, rfl⟩ := hp_iff.1 hp
  match k, hk with
  | 0, _ => rfl
  | 1, _ => rfl
  | 2, _ => rfl
  | 3, _ => rfl
  | 4, _ =>
    have h2 := h 2 (by decide)
    show lexTok (60 :: t) = _
    cases t with
    | nil => rfl
    | cons a t =>
      by_cases ha : a = 61
      · subst ha; simp [opsL, Lib.hasPrefix] at h2
      · unfold lexTok; split <;> simp_all <;> exact ⟨rfl, rfl⟩
  | 5, _ =>
    have h2 := h 3 (by decide)
    show lexTok (62 :: t) = _
    cases t with
    | nil => rfl
    | cons a t =>
      by_cases ha : a = 61
      · subst ha; simp [opsL, Lib.hasPrefix] at h2
      · unfold lexTok; split <;> simp_all <;> exact ⟨rfl, rfl⟩
def lexTokE (c : UInt8) (t : B) : Option (Tok × Nat) :=
  if c = 40 then some (⟨4, 0, [], 0, vzero⟩, 1)
  else if c = 41 then some (⟨5, 0, [], 0, vzero⟩, 1)
  else if c = 36 then (if isName (t.takeWhile small) then some (⟨0, 0, t.takeWhile small, 0, vzero⟩, 1 + (t.takeWhile small).length) else none)
  else if (c :: t).takeWhile wordy = [] then none else (lexWord ((c :: t).takeWhile wordy)).map fun x => (x, ((c :: t).takeWhile wordy).length)
theorem lexTok_else {c : UInt8} {t : B} (h : noOps (c :: t) 6) : lexTok (c :: t) = lexTokE c t := by
  have h0 := h 0 (by decide)
  have h1 := h 1 (by decide)
  have h4 := h 4 (by decide)
  have h5 := h 5 (by decide)
  have e0 : c ≠ 61 := by rintro rfl; simp [opsL, Lib.hasPrefix] at h0
  have e4 : c ≠ 60 := by rintro rfl; simp [opsL, Lib.hasPrefix] at h4
  have e5 : c ≠ 62 := by rintro rfl; simp [opsL, Lib.hasPrefix] at h5
  have e1 : ∀ u, c :: t ≠ 33 :: 61 :: u := by
    intro u e
    rw [e] at h1; simp [opsL, Lib.hasPrefix] at h1
  unfold lexTokE
  by_cases c0 : c = 40
  · subst c0; rfl
  by_cases c1 : c = 41
  · subst c1; rfl
  by_cases c2 : c = 36
  · subst c2; rfl
  rw [if_neg c0, if_neg c1, if_neg c2]
  unfold lexTok
  split
  all_goals first | rfl | (exfalso; rename_i e; first | exact e1 _ e | (injection e with e _; first | exact e0 e | exact e4 e | exact e5 e | exact c0 e | exact c1 e | exact c2 e))
theorem HP_any (s p : ByteArray) (b : Bool) (h : Lib.hasPrefix (L s) (L p) = b) (w : World) :
    Calls Tryz.prog 47 #[.string s, .string p] w fun e w' => e = .returned (.bool b) ∧ w = w' := by
  subst h
  exact (Tryz.strings_HasPrefix s p w).mono fun _ _ ⟨a, b⟩ => ⟨a, b.symm⟩
def TokPost (l : B) (w : World) (e : Ending) (w' : World) : Prop :=
  ∃ (t : Tok) (n : Nat) (ok : Bool), e = .returned (.tuple #[encT t, .int .i64 (n : Int), .bool ok]) ∧ (∀ x m, lexTok l = some (x, m) → t = x ∧ n = m ∧ ok = true) ∧ (lexTok l = none → ok = false) ∧ Ext w w'
theorem tokPost_some {l : B} {w w' : World} {t : Tok} {n : Nat} (h : lexTok l = some (t, n)) (he : Ext w w') : TokPost l w (.returned (.tuple #[encT t, .int .i64 (n : Int), .bool true])) w' :=
  ⟨t, n, true, rfl, fun x m hx => by rw [h] at hx; cases hx; exact ⟨rfl, rfl, rfl⟩, fun hx => (by rw [h] at hx; cases hx), he⟩
theorem tokPost_none {l : B} {w w' : World} {t : Tok} {n : Nat} (h : lexTok l = none) (he : Ext w w') : TokPost l w (.returned (.tuple #[encT t, .int .i64 (n : Int), .bool false])) w' :=
  ⟨t, n, false, rfl, fun x m hx => (by rw [h] at hx; cases hx), fun _ => rfl, he⟩
theorem Name_ext (s : ByteArray) (w : World) (hs : s.size ≤ 9223372036854775807) :
    Calls Tryz.prog 17 #[.string s] w fun e w' => e = .returned (.bool (isName (L s))) ∧ Ext w w' :=
  (Name_any s w hs).mono fun _ _ ⟨a, pos, h⟩ => ⟨a, by rw [h]; exact (Ext.refl w).alloc _⟩
set_option maxRecDepth 100000 in
set_option maxHeartbeats 1000000 in
theorem token_any (s : ByteArray) (c : UInt8) (t : B) (hct : L s = c :: t) (hs : s.size ≤ 1000000) (w : World) (g : Glob w) :
    Calls Tryz.prog 32 #[.string s] w (TokPost (L s) w) := by
  have HG := Lib.hid g
  have HCT := Lib.hid hct
  have hsz0 : 0 < s.size := by rw [← size_L, hct]; simp
  have hc0 : s[0] = c := by
    have := drop_L s 0 hsz0
    rw [List.drop_zero, hct] at this
    injection this with this _; exact this.symm
  have hidx : ∀ k : Nat, k < 6 → ∀ w : World, (Instr.index 86 (.agg #[.string ⟨#[61]⟩, .string ⟨#[33, 61]⟩, .string ⟨#[60, 61]⟩, .string ⟨#[62, 61]⟩, .string ⟨#[60]⟩, .string ⟨#[62]⟩]) (.int .i64 k)).run Tryz.prog w = .ok (.string (bs (opsL.getD k []))) w := fun k hk w => by
    rcases (show k = 0 ∨ k = 1 ∨ k = 2 ∨ k = 3 ∨ k = 4 ∨ k = 5 by omega) with rfl | rfl | rfl | rfl | rfl | rfl <;> kernel_rfl
  have hidy : ∀ k : Nat, k < 6 → ∀ w : World, (Instr.index 87 (.agg #[.int .i64 0, .int .i64 1, .int .i64 3, .int .i64 5, .int .i64 2, .int .i64 4]) (.int .i64 k)).run Tryz.prog w = .ok (.int .i64 (opsK.getD k 0)) w := fun k hk w => by
    rcases (show k = 0 ∨ k = 1 ∨ k = 2 ∨ k = 3 ∨ k = 4 ∨ k = 5 by omega) with rfl | rfl | rfl | rfl | rfl | rfl <;> kernel_rfl
  have HJ := Lib.hid hidy
  have HI := Lib.hid hidx
  clear g hct hidx hidy
  go_enter Tryz.func32, Tryz.ntmps32
  go_wp2
  go_loop [12] (fun vi => ∃ k : Nat, k ≤ 6 ∧ vi = .int .i64 k ∧ noOps (L s) k) (fun vi => 6 - (intOf vi).toNat)
  case atStart => exact ⟨0, by omega, rfl, fun j hj => absurd hj (by omega)⟩
  case round =>
    obtain ⟨k, hk, rfl, hno⟩ := hrel
    have HN := Lib.hid hno
    clear hno
    by_cases hk6 : k < 6
    · cases hp : Lib.hasPrefix (L s) (opsL.getD k [])
      · have HS := Lib.hid (noOps_succ HN.out hp)
        have HP := Lib.hid hp
        clear hp
        have hix := HI.out k hk6
        have hiy := HJ.out k hk6
        · go_wp2_with (go_at_call 47; refine (HP_any s _ _ HP.out _).mono ?_; rintro e w' ⟨rfl, rfl⟩)
          go_round
          case rel => exact ⟨k + 1, by omega, by simp, HS.out⟩
          case measure => (try simp only [intOf]); (try simp); omega
      · have HS := Lib.hid (lexTok_op hk6 HN.out hp)
        have HP := Lib.hid hp
        clear hp
        have hix := HI.out k hk6
        have hiy := HJ.out k hk6
        · go_wp2_with (go_at_call 47; refine (HP_any s _ _ HP.out _).mono ?_; rintro e w' ⟨rfl, rfl⟩)
          refine bodyPost_ret (v := .tuple #[.agg #[.int .i64 2, .int .i64 0, .string ⟨#[]⟩, .int .i64 (opsK[k]?.getD 0), .int .i64 0, .int .i64 0, .string ⟨#[]⟩, .int .u64 0], .int .i64 ((bs (opsL[k]?.getD [])).size : Int), .bool true]) (by simp [results, Tryz.results32, go_sem, *]) rfl ?_
          exact tokPost_some HS.out (by (repeat (first | with_reducible exact Ext.refl _ | with_reducible assumption | (with_reducible refine Ext.setCell ?_ ?_ _; rotate_left; (first | exact Nat.le_refl _ | (simp; try omega))) | with_reducible apply Ext.alloc | with_reducible apply Ext.drew | with_reducible apply Ext.drewN' | (with_reducible refine Ext.trans ?_ (by with_reducible assumption)))))
    · have hkk : k = 6 := by omega
      subst hkk
      have hL := lexTok_else (HCT.out ▸ HN.out : noOps (c :: t) 6)
      rw [← HCT.out] at hL
      clear HN HI HJ
      by_cases c1 : c = 40
      · subst c1
        have HL := Lib.hid hL
        clear hL
        go_wp2
        refine bodyPost_ret (v := .tuple #[.agg #[.int .i64 4, .int .i64 0, .string ⟨#[]⟩, .int .i64 0, .int .i64 0, .int .i64 0, .string ⟨#[]⟩, .int .u64 0], .int .i64 1, .bool true]) (by simp [results, Tryz.results32, go_sem, *]) rfl ?_
        exact tokPost_some HL.out (by (repeat (first | with_reducible exact Ext.refl _ | with_reducible assumption | (with_reducible refine Ext.setCell ?_ ?_ _; rotate_left; (first | exact Nat.le_refl _ | (simp; try omega))) | with_reducible apply Ext.alloc | with_reducible apply Ext.drew | with_reducible apply Ext.drewN' | (with_reducible refine Ext.trans ?_ (by with_reducible assumption)))))
      by_cases c2 : c = 41
      · subst c2
        have HL := Lib.hid hL
        clear hL
        go_wp2
        refine bodyPost_ret (v := .tuple #[.agg #[.int .i64 5, .int .i64 0, .string ⟨#[]⟩, .int .i64 0, .int .i64 0, .int .i64 0, .string ⟨#[]⟩, .int .u64 0], .int .i64 1, .bool true]) (by simp [results, Tryz.results32, go_sem, *]) rfl ?_
        exact tokPost_some HL.out (by (repeat (first | with_reducible exact Ext.refl _ | with_reducible assumption | (with_reducible refine Ext.setCell ?_ ?_ _; rotate_left; (first | exact Nat.le_refl _ | (simp; try omega))) | with_reducible apply Ext.alloc | with_reducible apply Ext.drew | with_reducible apply Ext.drewN' | (with_reducible refine Ext.trans ?_ (by with_reducible assumption)))))
      by_cases c3 : c = 36
      · subst c3
        have HL := Lib.hid hL
        clear hL
        have hx1 : (L (s.extract 1 s.size)).takeWhile small = t.takeWhile small := by
          rw [L_extract, List.take_of_length_le (by rw [size_L]; omega), HCT.out]; rfl
        have HX := Lib.hid hx1
        have hxl : (t.takeWhile small).length ≤ 1000000 := by
          have h1 := size_L s
          rw [HCT.out] at h1
          have h2 := (List.takeWhile_prefix small (l := t)).length_le
          simp at h1
          omega
        have hbs : (bs (t.takeWhile small)).size ≤ 1000000 := hxl
        clear hx1
        go_wp2_with (first
          | (go_at_call 48; refine (row_any small 49 _ _ ?hz (fun _ _ => by kernel_rfl) small_any).mono ?_; rotate_left; rintro e w' ⟨rfl, rfl⟩; rw [HX.out])
          | (go_at_call 17; refine (Name_ext _ _ ?hy).mono ?_; rotate_left; rintro e w1 ⟨rfl, he⟩; rw [L_bs]; obtain ⟨hc, hf⟩ := cells_of (blk_ext (blk_new w _) he); have HE := Lib.hid he; clear he))
        case hz => first | omega | (rw [ByteArray.size_extract]; omega)
        case hy => first | omega | (rw [size_bs]; omega)
        refine bodyPost_ret (v := .tuple #[.agg #[.int .i64 0, .int .i64 0, .string (bs (t.takeWhile small)), .int .i64 0, .int .i64 0, .int .i64 0, .string ⟨#[]⟩, .int .u64 0], .int .i64 (1 + ((bs (t.takeWhile small)).size : Int)), .bool (isName (t.takeWhile small))]) (by simp [results, Tryz.results32, go_sem, *]) rfl ?_
        refine ⟨⟨0, 0, t.takeWhile small, 0, vzero⟩, 1 + (t.takeWhile small).length, isName (t.takeWhile small), ?_, ?_, ?_, ?_⟩
        · rw [Int.natCast_add]; rfl
        · intro x m hx
          rw [HL.out] at hx
          unfold lexTokE at hx
          rw [if_neg (by decide), if_neg (by decide), if_pos rfl] at hx
          split at hx
          · cases hx; exact ⟨rfl, rfl, by assumption⟩
          · cases hx
        · intro hx
          rw [HL.out] at hx
          unfold lexTokE at hx
          rw [if_neg (by decide), if_neg (by decide), if_pos rfl] at hx
          split at hx
          · cases hx
          · simpa using ‹¬ isName _ = true›
        · have he := HE.out; (repeat (first | with_reducible exact Ext.refl _ | with_reducible assumption | (with_reducible refine Ext.setCell ?_ ?_ _; rotate_left; (first | exact Nat.le_refl _ | (simp; try omega))) | with_reducible apply Ext.alloc | with_reducible apply Ext.drew | with_reducible apply Ext.drewN' | (with_reducible refine Ext.trans ?_ (by with_reducible assumption))))
      have d1 : ((c.toNat : Int) == 40) = false := by
        have hne : c.toNat ≠ 40 := fun h => c1 (UInt8.toNat_inj.1 h)
        simp; omega
      have d2 : ((c.toNat : Int) == 41) = false := by
        have hne : c.toNat ≠ 41 := fun h => c2 (UInt8.toNat_inj.1 h)
        simp; omega
      have d3 : ((c.toNat : Int) == 36) = false := by
        have hne : c.toNat ≠ 36 := fun h => c3 (UInt8.toNat_inj.1 h)
        simp; omega
      unfold lexTokE at hL
      rw [if_neg c1, if_neg c2, if_neg c3, ← HCT.out] at hL
      have HL := Lib.hid hL
      clear hL c1 c2 c3
      have hxl : ((L s).takeWhile wordy).length ≤ 1000000 := by
        have h1 := size_L s
        have h2 := (List.takeWhile_prefix wordy (l := L s)).length_le
        omega
      have hz : s.size ≤ 9223372036854775807 := by omega
      go_wp2_with (first
        | (go_at_call 48; refine (row_any wordy 50 s _ hz (fun _ _ => by kernel_rfl) wordy_any).mono ?_; rintro e w' ⟨rfl, rfl⟩)
        | fail)
      refine (word_any (bs ((L s).takeWhile wordy)) hxl _ (HG.out.ext (by (repeat (first | with_reducible exact Ext.refl _ | with_reducible assumption | (with_reducible refine Ext.setCell ?_ ?_ _; rotate_left; (first | exact Nat.le_refl _ | (simp; try omega))) | with_reducible apply Ext.alloc | with_reducible apply Ext.drew | with_reducible apply Ext.drewN' | (with_reducible refine Ext.trans ?_ (by with_reducible assumption))))))).mono ?_
      rintro e w1 ⟨rfl, he⟩
      rw [L_bs]
      obtain ⟨hc, hf⟩ := cells_of (blk_ext (blk_new w _) he)
      have hlt : w.heap.size < w1.heap.size := by have := he.le; simp at this; omega
      have hlt2 : ¬ w.heap.size = w1.heap.size := by omega
      have hlt3 : w.heap.size ≤ w1.heap.size := by omega
      have HE := Lib.hid he
      clear he hc0
      generalize (L s).takeWhile wordy = x at *
      have hbs : (bs x).size ≤ 1000000 := hxl
      cases hw : lexWord x with
      | none =>
        have HL2 : Hid (lexTok (L s) = none) := by
          show _ = _
          rw [HL.out, hw]; split <;> rfl
        clear hw HL
        simp only [Option.getD_none, Option.isSome_none, encT, tbad, vzero]
        go_wp2
        refine bodyPost_ret (v := .tuple #[.agg #[.int .i64 1, .int .i64 0, .string (bs []), .int .i64 0, .int .i64 0, .int .i64 0, .string (bs []), .int .u64 0], .int .i64 ((bs x).size : Int), .bool false]) (by simp [results, Tryz.results32, go_sem, *]) rfl ?_
        exact tokPost_none (t := tbad) (n := (bs x).size) HL2.out (by have he := HE.out; (repeat (first | with_reducible exact Ext.refl _ | with_reducible assumption | (with_reducible refine Ext.setCell ?_ ?_ _; rotate_left; (first | exact Nat.le_refl _ | (simp; try omega))) | with_reducible apply Ext.alloc | with_reducible apply Ext.drew | with_reducible apply Ext.drewN' | (with_reducible refine Ext.trans ?_ (by with_reducible assumption)))))
      | some k =>
        have hne : x ≠ [] := by rintro rfl; rw [show lexWord [] = none from rfl] at hw; cases hw
        have HL2 : Hid (lexTok (L s) = some (k, x.length)) := by
          show _ = _
          rw [HL.out, hw, if_neg hne]; rfl
        have q1 := str_ne (s := bs x) (l := []) (by rw [L_bs]; exact hne)
        have q2 : ((bs x).toList != []) = true := by rw [bne, q1]; rfl
        clear hw HL hne
        simp only [Option.getD_some, Option.isSome_some, encT]
        go_wp2
        refine bodyPost_ret (v := .tuple #[.agg #[.int .i64 k.kind, .int .i64 k.at_, .string (bs k.text), .int .i64 k.op, .int .i64 k.val.kind, .int .i64 k.val.n, .string (bs k.val.s), .int .u64 k.val.f], .int .i64 ((bs x).size : Int), .bool true]) (by simp [results, Tryz.results32, go_sem, *]) rfl ?_
        exact tokPost_some (t := k) (n := (bs x).size) HL2.out (by have he := HE.out; (repeat (first | with_reducible exact Ext.refl _ | with_reducible assumption | (with_reducible refine Ext.setCell ?_ ?_ _; rotate_left; (first | exact Nat.le_refl _ | (simp; try omega))) | with_reducible apply Ext.alloc | with_reducible apply Ext.drew | with_reducible apply Ext.drewN' | (with_reducible refine Ext.trans ?_ (by with_reducible assumption)))))
end Go.Proofs.YtcnnpedmccjdkaaGreatDoor
