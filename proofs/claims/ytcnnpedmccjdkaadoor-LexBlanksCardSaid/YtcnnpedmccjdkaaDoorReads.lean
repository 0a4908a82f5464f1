/- Tokens read from memory (the same laws as in LawC, Same and Joins, for a seat without the reference). -/
import Derived.Test.YtcnnpedmccjdkaaDoorLawA
set_option linter.unusedSimpArgs false
set_option linter.unusedVariables false
namespace Go.Proofs.YtcnnpedmccjdkaaDoor
open Go.RowKit
def eqTok (k k' a a' : Int) (t t' : ByteArray) (o o' x0 y0 x1 y1 : Int) (x2 y2 : ByteArray) (x3 y3 : Int) : Bool :=
  k == k' && (a == a' && (t.toList == t'.toList && (o == o' && eqVal x0 y0 x1 y1 x2 y2 x3 y3)))
theorem eql_tok (k k' a a' : Int) (t t' : ByteArray) (o o' x0 y0 x1 y1 : Int) (x2 y2 : ByteArray) (x3 y3 : Int) (w : World) :
    (binOp .eql 34 (.agg #[.int .i64 k, .int .i64 a, .string t, .int .i64 o, .int .i64 x0, .int .i64 x1, .string x2, .int .u64 x3]) (.agg #[.int .i64 k', .int .i64 a', .string t', .int .i64 o', .int .i64 y0, .int .i64 y1, .string y2, .int .u64 y3])).run Tryd.prog w = .ok (.bool (eqTok k k' a a' t t' o o' x0 y0 x1 y1 x2 y2 x3 y3)) w ∧
    (binOp .neq 34 (.agg #[.int .i64 k, .int .i64 a, .string t, .int .i64 o, .int .i64 x0, .int .i64 x1, .string x2, .int .u64 x3]) (.agg #[.int .i64 k', .int .i64 a', .string t', .int .i64 o', .int .i64 y0, .int .i64 y1, .string y2, .int .u64 y3])).run Tryd.prog w = .ok (.bool (!eqTok k k' a a' t t' o o' x0 y0 x1 y1 x2 y2 x3 y3)) w := by
  refine eql_of_equalIn ?_
  refine eqA_struct (d := 9999) Tryd.underlying34 (by kernel_rfl) ?_
  refine eqF_cons (by rfl) (by go_simp; rfl) (by go_simp; rfl) (by go_simp) ?_
  refine eqF_cons (by rfl) (by go_simp; rfl) (by go_simp; rfl) (by go_simp) ?_
  refine eqF_cons (by rfl) (by go_simp; rfl) (by go_simp; rfl) (by go_simp) ?_
  refine eqF_cons (by rfl) (by go_simp; rfl) (by go_simp; rfl) (by go_simp) ?_
  refine eqF_last (by rfl) (by go_simp; rfl) (by go_simp; rfl) ?_
  exact equalIn_val 9997 x0 y0 x1 y1 x2 y2 x3 y3 w
theorem eqTok_iff (x y : Tok) : eqTok x.kind y.kind x.at_ y.at_ (bs x.text) (bs y.text) x.op y.op x.val.kind y.val.kind x.val.n y.val.n (bs x.val.s) (bs y.val.s) x.val.f y.val.f = decide (x = y) := by
  obtain ⟨k, a, t, o, ⟨x0, x1, x2, x3⟩⟩ := x
  obtain ⟨k', a', t', o', ⟨y0, y1, y2, y3⟩⟩ := y
  unfold eqTok
  rw [beq_L, eqVal_iff, Bool.eq_iff_iff]
  dsimp only
  simp only [Bool.and_eq_true, beq_iff_eq, decide_eq_true_eq, Tok.mk.injEq, L_bs]
  simp
  intros
  exact decide_eq_true_iff
theorem toksCells_at : ∀ (ts : List Tok) (k : Nat) (t : Tok) (i : Nat), ts[k]? = some t → i < 8 → (toksCells ts)[k * 8 + i]? = (tokCells t)[i]?
  | [], k, t, i, h, _ => by simp at h
  | x :: r, 0, t, i, h, hi => by
    simp at h; subst h
    show (tokCells x ++ toksCells r)[0 * 8 + i]? = _
    rw [List.getElem?_append_left (by simp [tokCells]; omega)]
    congr 1; omega
  | x :: r, k + 1, t, i, h, hi => by
    show (tokCells x ++ toksCells r)[(k + 1) * 8 + i]? = _
    rw [List.getElem?_append_right (by simp [tokCells]; omega)]
    rw [show (k + 1) * 8 + i - (tokCells x).length = k * 8 + i by simp [tokCells]; omega]
    exact toksCells_at r k t i (by simpa using h) hi
/-- The eight cells of a token in a slice. -/
def tokAt (w : World) (g k : Nat) (t : Tok) : Prop :=
  w.cell? ⟨g, k * 8, none⟩ = some (.int .i64 t.kind) ∧ w.cell? ⟨g, k * 8 + 1, none⟩ = some (.int .i64 t.at_) ∧ w.cell? ⟨g, k * 8 + 2, none⟩ = some (.string (bs t.text)) ∧ w.cell? ⟨g, k * 8 + 3, none⟩ = some (.int .i64 t.op) ∧
  w.cell? ⟨g, k * 8 + 4, none⟩ = some (.int .i64 t.val.kind) ∧ w.cell? ⟨g, k * 8 + 5, none⟩ = some (.int .i64 t.val.n) ∧ w.cell? ⟨g, k * 8 + 6, none⟩ = some (.string (bs t.val.s)) ∧ w.cell? ⟨g, k * 8 + 7, none⟩ = some (.int .u64 t.val.f)
theorem tokAt_of {w : World} {g : Nat} {ts : List Tok} (hc : ∀ j u, (toksCells ts)[j]? = some u → w.cell? ⟨g, j, none⟩ = some u) (k : Nat) (t : Tok) (ht : ts[k]? = some t) : tokAt w g k t :=
  have h : ∀ i, i < 8 → ∀ u, (tokCells t)[i]? = some u → w.cell? ⟨g, k * 8 + i, none⟩ = some u := fun i hi u hu => hc _ u ((toksCells_at ts k t i ht hi).trans hu)
  ⟨h 0 (by decide) _ rfl, h 1 (by decide) _ rfl, h 2 (by decide) _ rfl, h 3 (by decide) _ rfl, h 4 (by decide) _ rfl, h 5 (by decide) _ rfl, h 6 (by decide) _ rfl, h 7 (by decide) _ rfl⟩
/-- What Lex gives, in one form. -/
def LexForm (l : B) (w : World) (e : Ending) (w' : World) : Prop :=
  ∃ v p q, e = .returned (.tuple #[v, .int .i64 p, .int .i64 q]) ∧ Ext w w' ∧ ((∃ ts, lexS l = .ok ts ∧ q = 0 ∧ w'.ownsRow w.heap.size 34 8 v ts.length (toksCells ts)) ∨ ((∃ p, lexS l = .error p) ∧ q = 160))
theorem lexForm {l : B} {w w' : World} {e : Ending} (h : LexPost l w e w') : LexForm l w e w' := by
  unfold LexPost at h
  cases hl : lexS l with
  | ok ts =>
    rw [hl] at h
    obtain ⟨v, rfl, ho, he⟩ := h
    exact ⟨v, 0, 0, rfl, he, .inl ⟨ts, hl, rfl, ho⟩⟩
  | error p =>
    rw [hl] at h
    obtain ⟨rfl, he⟩ := h
    exact ⟨_, _, _, rfl, he, .inr ⟨⟨p, hl⟩, rfl⟩⟩
end Go.Proofs.YtcnnpedmccjdkaaDoor
