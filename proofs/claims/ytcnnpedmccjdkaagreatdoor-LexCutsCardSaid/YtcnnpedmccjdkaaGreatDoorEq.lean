/- '==' between structs, as one Bool. -/
import Derived.Test.YtcnnpedmccjdkaaGreatDoorBase
import Derived.Laws.StructEq
set_option linter.unusedSimpArgs false
set_option linter.unusedVariables false
namespace Go.Proofs.YtcnnpedmccjdkaaGreatDoor
open Go.RowKit
theorem quietS {P : Program} {f : FuncId} {args : Array Value} {w : World} {n : Nat} {v : Value}
    (h : Calls P f args (w.drewN n) fun e w' => e = .returned v ∧ w.drewN n = w') : Calls P f args (w.drewN n) fun e w'' => e = .returned v ∧ ∃ m, w'' = w.drewN m :=
  h.mono fun _ _ ⟨he, hm⟩ => ⟨he, n, hm.symm⟩
section
variable {P : Program} {d : Nat} {xs ys : Array Value} {f : Field} {fs : List Field} {a b : Value} {r s : Bool} {w : World}
theorem eqF_nil : (Op.eqFields d xs ys []).run P w = .ok true w := by simp [Op.eqFields]
theorem eqF_cons (hn : (f.name == "_") = false) (ha : (part f.type xs f.offset).run P w = .ok a w) (hb : (part f.type ys f.offset).run P w = .ok b w)
    (he : (Op.equalIn d f.type a b).run P w = .ok r w) (hr : (Op.eqFields d xs ys fs).run P w = .ok s w) : (Op.eqFields d xs ys (f :: fs)).run P w = .ok (r && s) w := by
  have hn' : f.name ≠ "_" := by simpa using hn
  simp only [Op.eqFields, Sem.run_bind, Sem.run_ite]
  cases r <;> simp [hn', ha, hb, he, hr, Result.andThen]
theorem eqF_last (hn : (f.name == "_") = false) (ha : (part f.type xs f.offset).run P w = .ok a w) (hb : (part f.type ys f.offset).run P w = .ok b w)
    (he : (Op.equalIn d f.type a b).run P w = .ok r w) : (Op.eqFields d xs ys [f]).run P w = .ok r w := by
  have h := eqF_cons (fs := []) hn ha hb he eqF_nil
  rwa [Bool.and_true] at h
theorem eqA_struct {t : TypeId} {gs : Array Field} (hu : P.underlying t = some (.struct gs)) (hp : P.stoodInHeld t = false) (h : (Op.eqFields d xs ys gs.toList).run P w = .ok r w) :
    (Op.equalIn (d + 1) t (.agg xs) (.agg ys)).run P w = .ok r w := by
  have hf : P.fieldsOf t = gs := by simp [Program.fieldsOf, hu]
  rw [run_equalIn_struct w d t xs ys (by rw [hf]; exact hu) hp, hf]; exact h
theorem eql_of_equalIn {t : TypeId} (h : (Op.equalIn 10000 t (.agg xs) (.agg ys)).run P w = .ok r w) :
    (binOp .eql t (.agg xs) (.agg ys)).run P w = .ok (.bool r) w ∧ (binOp .neq t (.agg xs) (.agg ys)).run P w = .ok (.bool (!r)) w := by
  rw [run_eql_struct, run_neq_struct, h]; exact ⟨rfl, rfl⟩
end
theorem equalIn_val (d : Nat) (x0 y0 x1 y1 : Int) (x2 y2 : ByteArray) (x3 y3 : Int) (w : World) :
    (Op.equalIn (d + 2) 36 (.agg #[.int .i64 x0, .int .i64 x1, .string x2, .int .u64 x3]) (.agg #[.int .i64 y0, .int .i64 y1, .string y2, .int .u64 y3])).run Tryz.prog w =
      .ok (x0 == y0 && (x1 == y1 && (x2.toList == y2.toList && x3 == y3))) w := by
  refine eqA_struct Tryz.underlying36 (by kernel_rfl) ?_
  refine eqF_cons (by rfl) (by go_simp; rfl) (by go_simp; rfl) (by go_simp) ?_
  refine eqF_cons (by rfl) (by go_simp; rfl) (by go_simp; rfl) (by go_simp) ?_
  refine eqF_cons (by rfl) (by go_simp; rfl) (by go_simp; rfl) (by go_simp) ?_
  exact eqF_last (by rfl) (by go_simp; rfl) (by go_simp; rfl) (by go_simp)
def eqVal (x0 y0 x1 y1 : Int) (x2 y2 : ByteArray) (x3 y3 : Int) : Bool := x0 == y0 && (x1 == y1 && (x2.toList == y2.toList && x3 == y3))
theorem eql_val (x0 y0 x1 y1 : Int) (x2 y2 : ByteArray) (x3 y3 : Int) (w : World) :
    (binOp .eql 36 (.agg #[.int .i64 x0, .int .i64 x1, .string x2, .int .u64 x3]) (.agg #[.int .i64 y0, .int .i64 y1, .string y2, .int .u64 y3])).run Tryz.prog w = .ok (.bool (eqVal x0 y0 x1 y1 x2 y2 x3 y3)) w :=
  (eql_of_equalIn (equalIn_val 9998 x0 y0 x1 y1 x2 y2 x3 y3 w)).1
theorem neq_val (x0 y0 x1 y1 : Int) (x2 y2 : ByteArray) (x3 y3 : Int) (w : World) :
    (binOp .neq 36 (.agg #[.int .i64 x0, .int .i64 x1, .string x2, .int .u64 x3]) (.agg #[.int .i64 y0, .int .i64 y1, .string y2, .int .u64 y3])).run Tryz.prog w = .ok (.bool (!eqVal x0 y0 x1 y1 x2 y2 x3 y3)) w :=
  (eql_of_equalIn (equalIn_val 9998 x0 y0 x1 y1 x2 y2 x3 y3 w)).2
/-- A value's form in memory. -/
def encV (v : Val) : Value := .agg #[.int .i64 v.kind, .int .i64 v.n, .string (bs v.s), .int .u64 v.f]
theorem beq_L (a b : ByteArray) : (a.toList == b.toList) = decide (L a = L b) := by rw [toList_L, toList_L, Bool.eq_iff_iff]; simp
theorem eqVal_iff (x0 y0 x1 y1 : Int) (x2 y2 : ByteArray) (x3 y3 : Nat) : eqVal x0 y0 x1 y1 x2 y2 x3 y3 = decide ((⟨x0, x1, L x2, x3⟩ : Val) = ⟨y0, y1, L y2, y3⟩) := by
  unfold eqVal
  rw [beq_L, Bool.eq_iff_iff]
  simp only [Bool.and_eq_true, beq_iff_eq, decide_eq_true_eq, Val.mk.injEq, Int.natCast_inj]
end Go.Proofs.YtcnnpedmccjdkaaGreatDoor
