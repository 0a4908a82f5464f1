/- Layer 16: LexJoins. -/
import Derived.Test.YtcnnpedmccjdkaaGreatDoorSame
import Derived.Test.YtcnnpedmccjdkaaGreatDoorLawD
import Derived.Laws.AppendOwnNone
set_option linter.unusedSimpArgs false
set_option linter.unusedVariables false
namespace Go.Proofs.YtcnnpedmccjdkaaGreatDoor
open Go.RowKit
/-- What Lex gives, in one form. -/
def LexForm (l : B) (w : World) (e : Ending) (w' : World) : Prop :=
  ∃ v p q, e = .returned (.tuple #[v, .int .i64 p, .int .i64 q]) ∧ Ext w w' ∧ ((∃ ts, lexS l = .ok ts ∧ q = 0 ∧ w'.ownsRow w.heap.size 38 8 v ts.length (toksCells ts)) ∨ ((∃ p, lexS l = .error p) ∧ q = 160))
theorem lexForm {l : B} {w w' : World} {e : Ending} (h : LexPost l w e w') : LexForm l w e w' := by
  unfold LexPost at h
  cases hl : lexS l with
  | ok ts =>
    rw [hl] at h
    obtain ⟨v, rfl, ho, he⟩ := h
    exact ⟨v, 0, 0, rfl, he, .inl ⟨ts, hl, rfl, ho⟩⟩
  | error p =>
    rw [hl] at h
    obtain ⟨rfl, he⟩ := h
    exact ⟨_, _, _, rfl, he, .inr ⟨⟨p, hl⟩, rfl⟩⟩
theorem lexGo_count : ∀ (f : Nat) (l : B) (a : Nat) (ts : List Tok), lexGo f l a = .ok ts → ts.length ≤ l.length
  | 0, l, a, ts, h => by cases h
  | f + 1, [], a, ts, h => by cases h; simp
  | f + 1, c :: t, a, ts, h => by
    by_cases hc : c = 32
    · subst hc
      have := lexGo_count f t (a + 1) ts h
      simp; omega
    · change (if c = 32 then lexGo f t (a + 1) else (match lexTok (c :: t) with | none => .error a | some (x, n) => pre [{ x with at_ := a }] (lexGo f ((c :: t).drop n) (a + n)))) = _ at h
      rw [if_neg hc] at h
      cases hx : lexTok (c :: t) with
      | none => rw [hx] at h; cases h
      | some xn =>
        obtain ⟨x, n⟩ := xn
        have hn := lexTok_len hx
        rw [hx] at h
        change pre _ (lexGo f ((c :: t).drop n) (a + n)) = _ at h
        cases hr : lexGo f ((c :: t).drop n) (a + n) with
        | error e => rw [hr] at h; cases h
        | ok y =>
          rw [hr] at h; cases h
          have := lexGo_count f _ _ y hr
          rw [List.length_drop] at this
          simp only [List.length_append, List.length_cons, List.length_nil] at hn this ⊢; omega
theorem lexS_count {l : B} {ts : List Tok} (h : lexS l = .ok ts) : ts.length ≤ l.length ∧ l.length ≤ 2000 := by
  unfold lexS at h
  split at h
  · cases h
  · exact ⟨lexGo_count _ _ _ _ h, by omega⟩
theorem cat_sp (a b : ByteArray) : a ++ ByteArray.mk #[32] ++ b = bs (L a ++ 32 :: L b) := by
  apply ByteArray.ext
  simp [bs, L, ByteArray.data_append]
theorem toksCells_set (v : Int) : ∀ (ts : List Tok) (k : Nat) (t : Tok), ts[k]? = some t → (toksCells ts).set (k * 8 + 1) (.int .i64 v) = toksCells (ts.set k { t with at_ := v })
  | [], k, t, h => by simp at h
  | x :: r, 0, t, h => by simp at h; subst h; rfl
  | x :: r, k + 1, t, h => by
    show (tokCells x ++ toksCells r).set ((k + 1) * 8 + 1) _ = tokCells x ++ toksCells (r.set k _)
    rw [List.set_append_right _ _ (by simp [tokCells]; omega), ← toksCells_set v r k t (by simpa using h)]
    congr 2
    simp [tokCells]; omega
theorem readsT_grown {w w' : World} {v : Value} {ts : List Tok} {row : Option Nat} (h : readsT w v ts) (hg : w.grownBy w' row) (hne : ∀ k, v.ownBlock = some k → some k ≠ row) : readsT w' v ts := by
  rcases h with h | ⟨g, cap, hv, hgl, hc⟩
  · exact .inl h
  · have hn : some g ≠ row := hne g (by rw [hv]; rfl)
    exact .inr ⟨g, cap, hv, Nat.lt_of_lt_of_le hgl hg.size, fun j u hu => hg.cell (hc j u hu) hn⟩
theorem own_mono {w : World} {base base' : Nat} {e : TypeId} {size n : Nat} {v : Value} {xs : List Value} (h : w.ownsRow base e size v n xs) (hb : base' ≤ base) : w.ownsRow base' e size v n xs := by
  refine ⟨h.1, ?_⟩
  rcases h.2 with h2 | ⟨g, cap, cur, hv, hg, r⟩
  · exact .inl h2
  · exact .inr ⟨g, cap, cur, hv, Nat.le_trans hb hg, r⟩
def half (d k : Nat) (y : List Tok) : List Tok := (y.take k).map (bump d) ++ y.drop k
theorem half_at {d k : Nat} {y : List Tok} {t : Tok} (h : y[k]? = some t) : (half d k y)[k]? = some t := by
  have hk : k < y.length := (List.getElem?_eq_some_iff.1 h).1
  unfold half
  rw [List.getElem?_append_right (by simp; omega)]
  simp only [List.length_map, List.length_take, Nat.min_eq_left (Nat.le_of_lt hk), Nat.sub_self, List.getElem?_drop, Nat.add_zero]
  exact h
theorem half_succ {d k : Nat} {y : List Tok} {t : Tok} (h : y[k]? = some t) : (half d k y).set k (bump d t) = half d (k + 1) y := by
  have hk : k < y.length := (List.getElem?_eq_some_iff.1 h).1
  have ht : y[k] = t := (List.getElem?_eq_some_iff.1 h).2
  unfold half
  rw [List.set_append_right _ _ (by simp; omega), List.drop_eq_getElem_cons hk, List.take_add_one, h]
  simp [Nat.min_eq_left (Nat.le_of_lt hk), ht]
theorem half_len (d k : Nat) (y : List Tok) : (half d k y).length = y.length := by unfold half; simp; omega
theorem half_0 (d : Nat) (y : List Tok) : half d 0 y = y := by simp [half]
theorem half_n (d : Nat) (y : List Tok) : half d y.length y = y.map (bump d) := by simp [half]
theorem lexGo_at : ∀ (f : Nat) (l : B) (a : Nat) (ts : List Tok), lexGo f l a = .ok ts → ∀ t ∈ ts, (a : Int) ≤ t.at_ ∧ t.at_ < (a + l.length : Nat)
  | 0, l, a, ts, h => by cases h
  | f + 1, [], a, ts, h => by cases h; simp
  | f + 1, c :: t, a, ts, h => by
    by_cases hc : c = 32
    · subst hc
      intro x hx
      have := lexGo_at f t (a + 1) ts h x hx
      simp only [List.length_cons]; omega
    · change (if c = 32 then lexGo f t (a + 1) else (match lexTok (c :: t) with | none => .error a | some (x, n) => pre [{ x with at_ := a }] (lexGo f ((c :: t).drop n) (a + n)))) = _ at h
      rw [if_neg hc] at h
      cases hx : lexTok (c :: t) with
      | none => rw [hx] at h; cases h
      | some xn =>
        obtain ⟨x, n⟩ := xn
        have hn := lexTok_len hx
        rw [hx] at h
        change pre _ (lexGo f ((c :: t).drop n) (a + n)) = _ at h
        cases hr : lexGo f ((c :: t).drop n) (a + n) with
        | error e => rw [hr] at h; cases h
        | ok y =>
          rw [hr] at h; cases h
          intro z hz
          simp only [List.length_cons] at hn ⊢
          rcases List.mem_append.1 hz with hz | hz
          · rw [List.mem_singleton.1 hz]; simp only []; omega
          · have := lexGo_at f _ _ y hr z hz
            rw [List.length_drop] at this
            simp only [List.length_cons] at this
            omega
theorem lexS_at {l : B} {ts : List Tok} (h : lexS l = .ok ts) : ∀ t ∈ ts, 0 ≤ t.at_ ∧ t.at_ < (l.length : Int) := by
  unfold lexS at h
  split at h
  · cases h
  · intro t ht
    have := lexGo_at _ _ _ _ h t ht
    omega
theorem app_own3 {P : Program} {ops : Array Oper} {rest : List Oper} {o : Oper} {a : Act} {Q : Exit → Act → World → Prop} {w0 W : World} (e : TypeId) (hgd : o.guard = none) (s x : Operand) (t : TypeId) (z : Value) (size bytes : Nat)
    (ho : o.op = .call { callee := .builtin .append, args := #[s, x], argTypes := #[t, t] })
    (ht : P.underlying t = some (.slice e)) (hinfo : (P.info? e).map (fun i => (i.zero, i.size, i.bytes)) = some (some z, size, bytes)) (hz : z.cells.size = size) (hsz : 0 < size) (hb0 : 0 < bytes)
    (v : Value) (n m c : Nat) (ad : Addr) (xs news : List Value) (hs : a.eval s = v) (hx : a.eval x = .slice (some ad) m c) (hl : news.length = m * size) (h1 : ∀ u ∈ news, u.oneCell' = true)
    (hnews : ∀ j u, news[j]? = some u → W.cell? (ad.add j) = some u)
    (HO : W.ownsRow w0.heap.size e size v n xs) (HE : Ext w0 W) (hlen : (n + m) * bytes ≤ 140737488355328)
    (h : ∀ v1 w1, w1.ownsRow w0.heap.size e size v1 (n + m) (xs ++ news) → Ext w0 w1 → W.grownBy w1 v.ownBlock → wpList P ops Q rest (a.put o.dst v1) w1) :
    wpList P ops Q (o :: rest) a W := by
  obtain ⟨i0, hi, hzz⟩ := Option.map_eq_some_iff.1 hinfo
  simp only [Prod.mk.injEq] at hzz
  obtain ⟨hz0, hz1, hz2⟩ := hzz
  have h63 : n + m ≤ 140737488355328 := Nat.le_trans (Nat.le_mul_of_pos_right _ hb0) hlen
  refine wpList_append_own W hgd s x t ho w0.heap.size e i0 z size bytes ht hi hz0 hz1 hz2 hz hsz v n xs hs HO ad m c news hx hl hnews h1 (by simp only [maxLen]; omega) hlen HE.le ?_
  intro v1 w1 hown hg _
  exact h v1 w1 hown (ext_grown HE HO hg) hg
theorem app_none3 {P : Program} {w : World} {ops : Array Oper} {rest : List Oper} {o : Oper} {a : Act} {Q : Exit → Act → World → Prop} (e : TypeId) (hgd : o.guard = none) (s x : Operand) (t : TypeId) (size : Nat) (base : Nat)
    (ho : o.op = .call { callee := .builtin .append, args := #[s, x], argTypes := #[t, t] })
    (ht : P.underlying t = some (.slice e)) (hi : (P.info? e).isSome = true)
    (v : Value) (n : Nat) (xs : List Value) (hs : a.eval s = v) (hown : w.ownsRow base e size v n xs) (hx : a.eval x = .slice none 0 0)
    (h : wpList P ops Q rest (a.put o.dst v) w) : wpList P ops Q (o :: rest) a w := by
  obtain ⟨i, hi⟩ := Option.isSome_iff_exists.1 hi
  exact wpList_append_own_none hgd s x t ho base e i size ht hi v n xs hs hown hx h
theorem own_nilform {w : World} {base : Nat} {e : TypeId} {size n c : Nat} {xs : List Value} (h : w.ownsRow base e size (.slice none n c) n xs) : n = 0 ∧ c = 0 := by
  rcases h.2 with ⟨h1, h2⟩ | ⟨g, cap, cur, hv, _⟩
  · injection h1 with _ h3 h4; exact ⟨h3, h4⟩
  · injection hv with h3; cases h3
theorem own_someform {w : World} {base : Nat} {e : TypeId} {size n c : Nat} {ad : Addr} {xs : List Value} (h : w.ownsRow base e size (.slice (some ad) n c) n xs) : ∃ g, ad = ⟨g, 0, none⟩ ∧ ∀ j u, xs[j]? = some u → w.cell? (ad.add j) = some u := by
  rcases h.2 with ⟨h1, h2⟩ | ⟨g, cap, cur, hv, _⟩
  · injection h1 with h3; cases h3
  · injection hv with h3
    have h4 := Option.some.inj h3
    subst h4
    exact ⟨g, rfl, h.cells (g := g) rfl⟩
theorem toksCells_one (ts : List Tok) : ∀ u ∈ toksCells ts, u.oneCell' = true := by
  intro u hu
  obtain ⟨t, _, ht⟩ := List.mem_flatMap.1 hu
  simp only [tokCells, List.mem_cons, List.not_mem_nil, or_false] at ht
  rcases ht with rfl | rfl | rfl | rfl | rfl | rfl | rfl | rfl <;> rfl
theorem toksCells_len (ts : List Tok) : (toksCells ts).length = ts.length * 8 := by
  induction ts with
  | nil => rfl
  | cons t r ih => show (tokCells t ++ toksCells r).length = _; rw [List.length_append, ih]; simp [tokCells]; omega
theorem toksCells_app (a b : List Tok) : toksCells (a ++ b) = toksCells a ++ toksCells b := by simp [toksCells]
set_option maxRecDepth 100000 in
set_option maxHeartbeats 1000000 in
theorem LexJoins_any (a b : ByteArray) (ha : a.size ≤ 9223372036854775807) (hb : b.size ≤ 9223372036854775807) (w : World) (g : Glob w) :
    Calls Tryz.prog 5 #[.string a, .string b] w fun e w' => e = .returned (.bool true) ∧ Ext w w' := by
  have HG := Lib.hid g
  clear g
  go_enter Tryz.func5, Tryz.ntmps5
  go_wp2_with fail
  refine (first_any _ HG.out).mono ?_
  rintro e w1 ⟨rfl, he⟩
  have HE1 := Lib.hid he
  have HG1 := Lib.hid (HG.out.ext he)
  clear he
  by_cases hbig : 900 < max (a.size : Int) (b.size : Int)
  · go_wp2_with fail
    go_ret
    exact ⟨rfl, HE1.out⟩
  have hbig' : ¬ 900 < a.size ∧ ¬ 900 < b.size := by omega
  obtain ⟨ha9, hb9⟩ := hbig'
  have hcat := cat_sp a b
  have hszc : (bs (L a ++ 32 :: L b)).size ≤ 9223372036854775807 := by rw [size_bs]; simp [size_L]; omega
  have HLA := Lib.hid (fun w g => Lex_any a ha w g)
  have HLB := Lib.hid (fun w g => Lex_any b hb w g)
  have HLC := Lib.hid (fun w g => Lex_any (bs (L a ++ 32 :: L b)) hszc w g)
  rw [L_bs] at HLC
  go_wp2_with fail
  refine (HLA.out _ HG1.out).mono ?_
  rintro e w2 h2
  obtain ⟨vx, p1, q1, rfl, he2, hx⟩ := lexForm h2
  have HX := Lib.hid hx
  have HG2 := Lib.hid (HG1.out.ext he2)
  have HE2 := Lib.hid he2
  clear h2 he2 hx
  go_wp2_with fail
  refine (HLB.out _ HG2.out).mono ?_
  rintro e w3 h3
  obtain ⟨vy, p2, q2, rfl, he3, hy⟩ := lexForm h3
  have HY := Lib.hid hy
  have HG3 := Lib.hid (HG2.out.ext he3)
  have HE3 := Lib.hid he3
  clear h3 he3 hy
  go_wp2_with fail
  refine (HLC.out _ HG3.out).mono ?_
  rintro e w4 h4
  obtain ⟨vz, p3, q3, rfl, he4, hz⟩ := lexForm h4
  have HZ := Lib.hid hz
  have HE4 := Lib.hid he4
  clear h4 he4 hz
  have HE := Lib.hid (((HE1.out.trans HE2.out).trans HE3.out).trans HE4.out)
  rcases HX.out with ⟨x, hlx, rfl, hox⟩ | ⟨_, rfl⟩
  rotate_left
  · go_wp2_with fail
    go_ret
    exact ⟨rfl, HE.out⟩
  rcases HY.out with ⟨y, hly, rfl, hoy⟩ | ⟨_, rfl⟩
  rotate_left
  · go_wp2_with fail
    go_ret
    exact ⟨rfl, HE.out⟩
  have hlz := lexS_join (by rw [size_L]; omega) (by rw [size_L]; omega) hlx hly
  rcases HZ.out with ⟨z, hlz', rfl, hoz⟩ | ⟨⟨p, hp⟩, _⟩
  rotate_left
  · rw [hlz] at hp; cases hp
  rw [hlz] at hlz'
  have hzz : z = x ++ y.map (bump ((L a).length + 1)) := (Except.ok.inj hlz').symm
  have HXO := Lib.hid (own_ext (own_ext hox HE3.out) HE4.out)
  have HYO := Lib.hid (own_ext hoy HE4.out)
  have HRZ := Lib.hid (readsT_own hoz)
  have hcx := lexS_count hlx
  have hcy := lexS_count hly
  have hzl : z.length = x.length + y.length := by rw [hzz]; simp
  have HZZ := Lib.hid hzz
  have hat : ∀ t ∈ y, 0 ≤ t.at_ ∧ t.at_ ≤ 2000 := fun t ht => by have := lexS_at hly t ht; omega
  obtain ⟨ax, cx, hvx⟩ := readsT_len (readsT_own hox)
  obtain ⟨ay, cy, hvy⟩ := readsT_len (readsT_own hoy)
  obtain ⟨az, cz, hvz⟩ := readsT_len (readsT_own hoz)
  have HZB : Hid (∀ k, vz.ownBlock = some k → w3.heap.size ≤ k) := own_ge hoz
  have HYB : Hid (∀ k, vy.ownBlock = some k → w2.heap.size ≤ k ∧ k < w3.heap.size) := fun k hk => ⟨own_ge hoy k hk, own_lt hoy k hk⟩
  have HXB : Hid (∀ k, vx.ownBlock = some k → w1.heap.size ≤ k ∧ k < w2.heap.size) := fun k hk => ⟨own_ge hox k hk, own_lt hox k hk⟩
  have hzl2 : (z.length : Int) = (x.length : Int) + (y.length : Int) := by omega
  have hLa := size_L a
  clear hlx hly hlz hlz' hzz hox hoy hoz HX HY HZ hcat hszc HLA HLB HLC
  subst hvx hvy hvz
  rw [hzl] at HRZ HZB
  rw [hzl]
  have HXM := Lib.hid (own_mono HXO.out HE1.out.le)
  have HAT := Lib.hid hat
  have hla1 : ((L a).length + 1 : Nat) = a.size + 1 := by rw [hLa]
  rw [hla1] at HZZ
  have hle12 := HE1.out.le
  have hle23 := HE2.out.le
  clear hLa hla1 hat
  go_wp2_with fail
  go_loopw [64] (fun vi wr => ∃ k : Nat, k ≤ y.length ∧ vi = .int .i64 (k : Int) ∧ wr.ownsRow w2.heap.size 38 8 (.slice ay y.length cy) y.length (toksCells (half (a.size + 1) k y)) ∧
    wr.ownsRow w.heap.size 38 8 (.slice ax x.length cx) x.length (toksCells x) ∧ readsT wr (.slice az (x.length + y.length) cz) z ∧ Ext w wr) (fun vi _ => y.length - (intOf vi).toNat)
  case atStart => exact ⟨0, by omega, rfl, by rw [half_0]; exact HYO.out, HXM.out, HRZ.out, HE.out⟩
  case round =>
    obtain ⟨k, hk, rfl, hoy, hox, hrz, he⟩ := hrel
    have HOY := Lib.hid hoy
    have HOX := Lib.hid hox
    have HOZ := Lib.hid hrz
    clear hox hrz
    by_cases hlt : k < y.length
    · have hb1 : (0 : Int) ≤ (k : Int) := by omega
      have hb2 : (k : Int) < (y.length : Int) := by omega
      obtain ⟨t, ht⟩ : ∃ t, y[k]? = some t := ⟨_, List.getElem?_eq_getElem hlt⟩
      obtain ⟨g, cap, hv, hg0, hg1, hc⟩ := own_get hoy (by omega)
      injection hv with e1 e2 e3
      subst e1
      obtain ⟨j0, j1, j2, j3, j4, j5, j6, j7⟩ := tokAt_of hc k t (half_at ht)
      have hfz := hoy.frozenAt (k * 8 + 1)
      have hat := HAT.out t (List.mem_of_getElem? ht)
      have HTT := Lib.hid ht
      clear hoy hc j0 j2 j3 j4 j5 j6 j7 ht e3
      go_wp2
      have hst := HOY.out.stored (k * 8 + 1) (.int .i64 (t.at_ + ((a.size : Int) + 1)))
      go_roundw
      case rel =>
        refine ⟨k + 1, by omega, by simp, ?_, ?_, ?_, ?_⟩
        · have h := hst.1
          rw [toksCells_set _ _ k t (half_at HTT.out)] at h
          rw [← half_succ HTT.out]
          unfold bump
          rw [show ((a.size + 1 : Nat) : Int) = (a.size : Int) + 1 by omega]
          exact h
        · refine HOX.out.kept hst.2 ?_
          cases hv : (Value.slice ax x.length cx).ownBlock with
          | none => exact .inl rfl
          | some q => exact .inr (fun h => by have h1 := HXB.out q hv; have h2 := Option.some.inj h; omega)
        · exact readsT_grown HOZ.out hst.2 (fun q hq h => by have h1 := HZB.out q hq; have h2 := Option.some.inj h; have h3 := HYB.out g rfl; omega)
        · exact he.setCell (by show w.heap.size ≤ g; omega) _
      case measure => (try simp only [intOf]); (try simp); omega
    · have hkk : k = y.length := by omega
      subst hkk
      have hn := HOY.out
      rw [half_n] at hn
      cases ay with
      | none =>
        obtain ⟨hy0, rfl⟩ := own_nilform hoy
        have hy1 : y = [] := List.eq_nil_of_length_eq_zero hy0
        subst hy1
        clear hoy hn
        have HXR := Lib.hid (readsT_own HOX.out)
        have HZX : Hid (z = x) := by show z = x; have h := HZZ.out; simpa using h
        go_wp2_with (first
          | (at_builtin; refine app_none3 38 (by rfl) _ _ 23 8 w.heap.size (by rfl) (by kernel_rfl) (by kernel_rfl) (.slice ax x.length cx) x.length (toksCells x) (by rfl) HOX.out (by rfl) ?_)
          | (go_at_call 16; refine (Same_any _ _ z x _ HOZ.out HXR.out ?_ ?_).mono ?_; rotate_left 2; rintro e w6 ⟨rfl, he6⟩; rw [decide_eq_true HZX.out]))
        · go_ret
          exact ⟨rfl, he.trans he6⟩
        · simp at hzl; omega
        · omega
      | some ad =>
        obtain ⟨g, rfl, hc⟩ := own_someform hn
        have HN := Lib.hid hn
        clear hoy hn
        go_wp2_with (first
          | (at_builtin; refine app_own3 (w0 := w) 38 (by rfl) _ _ 23 (.agg #[.int .i64 0, .int .i64 0, .string ⟨#[]⟩, .int .i64 0, .int .i64 0, .int .i64 0, .string ⟨#[]⟩, .int .u64 0]) 8 80 (by rfl) (by kernel_rfl) (by kernel_rfl) (by decide) (by decide) (by decide) (.slice ax x.length cx) x.length y.length cy ⟨g, 0, none⟩ (toksCells x) (toksCells (y.map (bump (a.size + 1)))) (by rfl) (by rfl) (by rw [toksCells_len, List.length_map]) (toksCells_one _) hc HOX.out he (by omega) ?_; intro v5 w5 ho5 he5 hg5; have HO5 := Lib.hid ho5; have HGR := Lib.hid hg5; clear ho5 hg5)
          | (go_at_call 16; refine (Same_any _ _ z (x ++ y.map (bump (a.size + 1))) _ ?r1 ?r2 ?r3 ?r4).mono ?_; rotate_left 4; rintro e w6 ⟨rfl, he6⟩; rw [decide_eq_true HZZ.out]))
        case r1 => exact readsT_grown HOZ.out HGR.out (fun q hq h => by have h1 := HZB.out q hq; have h2 := HXB.out q h.symm; have h3 := HE3.out.le; omega)
        case r2 =>
          have h := HO5.out
          rw [← toksCells_app] at h
          rw [show x.length + y.length = (x ++ y.map (bump (a.size + 1))).length by simp] at h
          exact readsT_own h
        case r3 => omega
        case r4 => rw [List.length_append, List.length_map]; omega
        go_ret
        exact ⟨rfl, he5.trans he6⟩
end Go.Proofs.YtcnnpedmccjdkaaGreatDoor
