/- lex: Lex. -/
import Derived.Test.YtcnnpedmccjdkaaGreatDoorLexD
set_option linter.unusedSimpArgs false
set_option linter.unusedVariables false
namespace Go.Proofs.YtcnnpedmccjdkaaGreatDoor
open Go.RowKit
theorem app_own2 {P : Program} {ops : Array Oper} {rest : List Oper} {o : Oper} {a : Act} {Q : Exit → Act → World → Prop} {w0 W : World} {news : List Value} {e : TypeId} (W1 : World) (hW : W1 = W.alloc (.cells news.toArray e)) (hgd : o.guard = none) (s x : Operand) (t : TypeId) (z : Value) (size bytes : Nat)
    (ho : o.op = .call { callee := .builtin .append, args := #[s, x], argTypes := #[t, t] })
    (ht : P.underlying t = some (.slice e)) (hinfo : (P.info? e).map (fun i => (i.zero, i.size, i.bytes)) = some (some z, size, bytes)) (hz : z.cells.size = size) (hsz : 0 < size) (hb0 : 0 < bytes)
    (v : Value) (n m bk : Nat) (hbk : bk = W.heap.size) (xs : List Value) (hs : a.eval s = v) (hx : a.eval x = .slice (some ⟨bk, 0, none⟩) m m) (hl : news.length = m * size) (h1 : ∀ u ∈ news, u.oneCell' = true)
    (HO : W.ownsRow w0.heap.size e size v n xs) (HE : Ext w0 W) (hlen : (n + m) * bytes ≤ 140737488355328)
    (h : ∀ v1 w1, w1.ownsRow w0.heap.size e size v1 (n + m) (xs ++ news) → Ext w0 w1 → wpList P ops Q rest (a.put o.dst v1) w1) :
    wpList P ops Q (o :: rest) a W1 := by
  subst hbk
  exact app_own W1 hW hgd s x t z size bytes ho ht hinfo hz hsz hb0 v n m xs hs hx hl h1 HO HE hlen h
def tokCells (t : Tok) : List Value := [.int .i64 t.kind, .int .i64 t.at_, .string (bs t.text), .int .i64 t.op, .int .i64 t.val.kind, .int .i64 t.val.n, .string (bs t.val.s), .int .u64 t.val.f]
def toksCells (ts : List Tok) : List Value := ts.flatMap tokCells
theorem toksCells_snoc (ts : List Tok) (t : Tok) : toksCells (ts ++ [t]) = toksCells ts ++ tokCells t := by simp [toksCells]
theorem pre_pre (a b : List Tok) (r : Except Nat (List Tok)) : pre a (pre b r) = pre (a ++ b) r := by cases r <;> simp [pre]
theorem lexTok_len {l : B} {x : Tok} {n : Nat} (h : lexTok l = some (x, n)) : 1 ≤ n ∧ n ≤ l.length := by
  unfold lexTok at h
  split at h
  all_goals first
    | (cases h; simp)
    | (split at h
       · cases h
         refine ⟨by omega, ?_⟩
         have := (List.takeWhile_prefix small (l := ‹List UInt8›)).length_le
         simp only [List.length_cons]; omega
       · cases h)
    | (split at h
       · cases h
       · rename_i hne
         obtain ⟨y, hy, he⟩ := Option.map_eq_some_iff.1 h
         cases he
         refine ⟨?_, (List.takeWhile_prefix wordy).length_le⟩
         exact List.length_pos_iff.2 hne)
def LexPost (l : B) (w : World) (e : Ending) (w' : World) : Prop :=
  match lexS l with
  | .ok ts => ∃ v, e = .returned (.tuple #[v, .int .i64 0, .int .i64 0]) ∧ w'.ownsRow w.heap.size 38 8 v ts.length (toksCells ts) ∧ Ext w w'
  | .error p => e = .returned (.tuple #[.slice none 0 0, .int .i64 (p : Int), .int .i64 160]) ∧ Ext w w'
theorem lexPost_ok {l : B} {w w' : World} {ts : List Tok} {v : Value} (h : lexS l = .ok ts) (ho : w'.ownsRow w.heap.size 38 8 v ts.length (toksCells ts)) (he : Ext w w') :
    LexPost l w (.returned (.tuple #[v, .int .i64 0, .int .i64 0])) w' := by unfold LexPost; rw [h]; exact ⟨v, rfl, ho, he⟩
theorem lexPost_err {l : B} {w w' : World} {p : Nat} (h : lexS l = .error p) (he : Ext w w') :
    LexPost l w (.returned (.tuple #[.slice none 0 0, .int .i64 (p : Int), .int .i64 160])) w' := by unfold LexPost; rw [h]; exact ⟨rfl, he⟩
set_option maxRecDepth 100000 in
set_option maxHeartbeats 1000000 in
theorem Lex_any (s : ByteArray) (hs : s.size ≤ 9223372036854775807) (w : World) (g : Glob w) :
    Calls Tryz.prog 14 #[.string s] w (LexPost (L s) w) := by
  have HG := Lib.hid g
  clear g
  by_cases hbig : 2000 < s.size
  · have HL : Hid (lexS (L s) = .error 2000) := if_pos (by rw [size_L]; exact hbig)
    go_enter Tryz.func14, Tryz.ntmps14
    go_wp2
    go_ret3
    exact lexPost_err HL.out (Ext.refl _)
  have HL : Hid (lexS (L s) = lexGo (s.size + 1) (L s) 0) := by
    show _ = _; unfold lexS; rw [size_L]; exact if_neg (by omega)
  go_enter Tryz.func14, Tryz.ntmps14
  go_wp2
  go_loopw [5, 6] (fun vo vi wr => ∃ (k f : Nat) (ts : List Tok), k ≤ s.size ∧ vi = .int .i64 (k : Int) ∧ wr.ownsRow w.heap.size 38 8 vo ts.length (toksCells ts) ∧ Ext w wr ∧ s.size + 1 ≤ f + k ∧ ts.length ≤ k ∧ lexS (L s) = pre ts (lexGo f ((L s).drop k) k)) (fun _ vi _ => s.size - (intOf vi).toNat)
  case atStart => exact ⟨0, s.size + 1, [], by omega, rfl, own_nil, Ext.refl _, by omega, by simp, by rw [HL.out]; simp [pre]; cases lexGo (s.size + 1) (L s) 0 <;> rfl⟩
  case round =>
    obtain ⟨k, f, ts, hk, rfl, ho, he, hf, htl, hl⟩ := hrel
    have HO := Lib.hid ho
    have HL2 := Lib.hid hl
    have HF := Lib.hid hf
    clear ho hl hf
    by_cases hlt : k < s.size
    · obtain ⟨f, rfl⟩ : ∃ f', f = f' + 1 := ⟨f - 1, by have := HF.out; omega⟩
      have hb1 : (0 : Int) ≤ (k : Int) := by omega
      have hb2 : (k : Int) < (s.size : Int) := by omega
      have hd := drop_L s k hlt
      have hl3 := HL2.out
      rw [hd] at hl3
      obtain ⟨c, hc⟩ : ∃ c, s[k] = c := ⟨_, rfl⟩
      rw [hc] at hl3 hd
      by_cases hsp : c = 32
      · subst hsp
        have HL3 : Hid (lexS (L s) = pre ts (lexGo f ((L s).drop (k + 1)) (k + 1))) := hl3
        clear hl3 hd
        go_wp2
        go_roundw
        case rel => exact ⟨k + 1, f, ts, by omega, by simp, HO, he, by have := HF.out; omega, by omega, HL3.out⟩
        case measure => (try simp only [intOf]); (try simp); omega
      · have q1 : ((c.toNat : Int) == 32) = false := by
          have hne : c.toNat ≠ 32 := fun h => hsp (UInt8.toNat_inj.1 h)
          simp; omega
        have hex : L (s.extract k s.size) = c :: (L s).drop (k + 1) := by
          rw [L_extract, List.take_of_length_le (by rw [size_L]; omega), hd]
        have hexs : (s.extract k s.size).size ≤ 1000000 := by rw [ByteArray.size_extract]; omega
        rw [show lexGo (f + 1) (c :: (L s).drop (k + 1)) k = (match lexTok (c :: (L s).drop (k + 1)) with
          | none => .error k
          | some (x, n) => pre [{ x with at_ := k }] (lexGo f ((c :: (L s).drop (k + 1)).drop n) (k + n))) from if_neg hsp] at hl3
        have HT := Lib.hid (fun w g => token_any (s.extract k s.size) c _ hex hexs w g)
        rw [hex] at HT
        cases ht : lexTok (c :: (L s).drop (k + 1)) with
        | none =>
          rw [ht] at hl3
          have HL3 : Hid (lexS (L s) = .error k) := hl3
          have HLT := Lib.hid ht
          clear hl3 hd hex ht
          go_wp2_with (go_at_call 32; refine (HT.out _ (HG.out.ext he)).mono ?_; rintro e w1 ⟨x, n, ok, rfl, h1, h2, he1⟩; obtain rfl := h2 HLT.out; clear h1 h2; simp only [encT])
          go_ret3
          exact lexPost_err HL3.out (by (repeat (first | with_reducible exact Ext.refl _ | with_reducible assumption | (with_reducible refine Ext.setCell ?_ ?_ _; rotate_left; (first | exact Nat.le_refl _ | (simp; try omega))) | with_reducible apply Ext.alloc | with_reducible apply Ext.drew | with_reducible apply Ext.drewN' | (with_reducible refine Ext.trans ?_ (by with_reducible assumption)))))
        | some xn =>
          obtain ⟨x, n⟩ := xn
          have hn := lexTok_len ht
          rw [ht] at hl3
          have HL3 : Hid (lexS (L s) = pre (ts ++ [{ x with at_ := (k : Int) }]) (lexGo f ((L s).drop (k + n)) (k + n))) := by
            show _ = _
            rw [hl3, pre_pre, ← hd, List.drop_drop]
          have HN : Hid (1 ≤ n ∧ k + n ≤ s.size) := by
            refine ⟨hn.1, ?_⟩
            have h1 := hn.2
            rw [← hd, List.length_drop, size_L] at h1
            omega
          have HLT := Lib.hid ht
          have hn2 : k + n ≤ s.size := HN.out.2
          clear hl3 hd hex ht hn
          go_wp2_with (first
            | (go_at_call 32; refine (HT.out _ (HG.out.ext he)).mono ?_; rintro e w1 ⟨x', n', ok, rfl, h1, h2, he1⟩; obtain ⟨rfl, rfl, rfl⟩ := h1 _ _ HLT.out; clear h1 h2; simp only [encT]; have HO1 := Lib.hid (own_ext HO he1); have HE1 := Lib.hid (he.trans he1); clear he1)
            | (at_builtin; refine app_own2 (w0 := w) (W := w1.alloc _) (e := 38) (news := [_, _, _, _, _, _, _, _]) _ (by rfl) (by rfl) _ _ 23 (.agg #[.int .i64 0, .int .i64 0, .string ⟨#[]⟩, .int .i64 0, .int .i64 0, .int .i64 0, .string ⟨#[]⟩, .int .u64 0]) 8 80 (by rfl) (by kernel_rfl) (by kernel_rfl) (by decide) (by decide) (by decide) u5 ts.length 1 (w1.heap.size + 1) (by simp) _ (by rfl) (by rfl) (by rfl) (by simp [Value.oneCell']) (own_ext HO1 ((Ext.refl _).alloc _)) (HE1.out.alloc _) (by omega) ?_; rotate_left; intro v4 w4 ho4 he4; have HO4 := Lib.hid ho4; clear ho4))
          go_roundw
          case rel =>
            refine ⟨k + n', f, ts ++ [{ x' with at_ := (k : Int) }], hn2, by simp, ?_, he4, by have h1 := HF.out; have h2 := HN.out; omega, by have h2 := HN.out; rw [List.length_append, List.length_singleton]; omega, HL3.out⟩
            rw [toksCells_snoc, List.length_append]
            exact HO4.out
          case measure => (try simp only [intOf]); (try simp); have h2 := HN.out; omega
    · have hkk : k = s.size := by omega
      subst hkk
      have HL3 : Hid (lexS (L s) = .ok ts) := by
        have h := HL2.out
        obtain ⟨f, rfl⟩ : ∃ f', f = f' + 1 := ⟨f - 1, by have := HF.out; omega⟩
        rw [List.drop_of_length_le (by rw [size_L]; omega)] at h
        show _ = _
        rw [h]
        simp [lexGo, pre]
      go_wp2
      go_ret3
      exact lexPost_ok HL3.out HO he
end Go.Proofs.YtcnnpedmccjdkaaGreatDoor
