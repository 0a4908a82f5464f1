/- Slices that a call makes itself. -/
import Derived.Test.YtcnnpedmccjdkaaGreatDoorBase
import Derived.Maps.AppendAt
import Derived.Deep.AppendLies
import Derived.Laws.MakeOwn
import Derived.Laws.OwnMore
import Derived.Laws.BytesArg
set_option linter.unusedSimpArgs false
set_option linter.unusedVariables false
namespace Go.Proofs.YtcnnpedmccjdkaaGreatDoor
open Go.RowKit
theorem own_nil {W : World} {base : Nat} {e : TypeId} {size : Nat} : W.ownsRow base e size (.slice none 0 0) 0 [] := ⟨by simp, .inl ⟨rfl, rfl⟩⟩
theorem own_ge {w : World} {base : Nat} {e : TypeId} {size n : Nat} {v : Value} {xs : List Value} (h : w.ownsRow base e size v n xs) (k : Nat) (hk : v.ownBlock = some k) : base ≤ k := by
  rcases h.2 with ⟨rfl, _⟩ | ⟨g, cap, cur, rfl, hb, _⟩
  · simp [Value.ownBlock] at hk
  · have : g = k := by simpa [Value.ownBlock] using hk
    omega
theorem own_lt {w : World} {base : Nat} {e : TypeId} {size n : Nat} {v : Value} {xs : List Value} (h : w.ownsRow base e size v n xs) (k : Nat) (hk : v.ownBlock = some k) : k < w.heap.size := by
  rcases h.2 with ⟨rfl, _⟩ | ⟨g, cap, cur, rfl, hb, hh, _⟩
  · simp [Value.ownBlock] at hk
  · have : g = k := by simpa [Value.ownBlock] using hk
    subst this
    exact (Array.getElem?_eq_some_iff.1 hh).1
theorem ext_grown {w0 W w1 : World} {e : TypeId} {size n : Nat} {v : Value} {xs : List Value} (he : Ext w0 W) (h : W.ownsRow w0.heap.size e size v n xs) (hg : W.grownBy w1 v.ownBlock) : Ext w0 w1 :=
  Below.grown he hg he.le (own_ge h)
theorem own_ext {w w1 : World} {base : Nat} {e : TypeId} {size n : Nat} {v : Value} {xs : List Value} (h : w.ownsRow base e size v n xs) (hb : Ext w w1) : w1.ownsRow base e size v n xs := by
  obtain ⟨h1, h2⟩ := h
  refine ⟨h1, ?_⟩
  rcases h2 with h2 | ⟨g, cap, cur, hv, hg, hh, r⟩
  · exact .inl h2
  · exact .inr ⟨g, cap, cur, hv, hg, blk_ext hh hb, r⟩
theorem own_string {P : Program} {w : World} {base n : Nat} {e' src dst e : TypeId} {v : Value} {l : List UInt8} (hs : P.underlying src = some (.slice e)) (he : P.underlying e = some (.int .u8)) (hd : P.underlying dst = some .string)
    (h : w.ownsRow base e' 1 v n (l.map fun c => Value.int .u8 (c.toNat : Int))) : (convert src dst v).run P w = .ok (.string (bs l)) w := by
  have hl : l.length = n := by have := h.1; simpa using this
  rcases h.2 with ⟨rfl, rfl⟩ | ⟨g, cap, cur, rfl, _⟩
  · obtain rfl : l = [] := List.eq_nil_of_length_eq_zero hl
    exact run_convert_bytes_nil w src e hs he 0 0 dst hd
  · subst hl
    refine run_convert_bytes_back w src dst e _ cap l hs he hd fun j hj => ?_
    exact h.cells (g := g) rfl j _ (by simp [List.getElem?_eq_getElem hj])
section
variable {P : Program} {ops : Array Oper} {rest : List Oper} {o : Oper} {a : Act} {Q : Exit → Act → World → Prop}
/-- append(v, x, ..) onto a slice of the call's own, as a step of the walk. -/
theorem app_own {w0 W : World} {news : List Value} {e : TypeId} (W1 : World) (hW : W1 = W.alloc (.cells news.toArray e)) (hgd : o.guard = none) (s x : Operand) (t : TypeId) (z : Value) (size bytes : Nat)
    (ho : o.op = .call { callee := .builtin .append, args := #[s, x], argTypes := #[t, t] })
    (ht : P.underlying t = some (.slice e)) (hinfo : (P.info? e).map (fun i => (i.zero, i.size, i.bytes)) = some (some z, size, bytes)) (hz : z.cells.size = size) (hsz : 0 < size) (hb0 : 0 < bytes)
    (v : Value) (n m : Nat) (xs : List Value) (hs : a.eval s = v) (hx : a.eval x = .slice (some ⟨W.heap.size, 0, none⟩) m m) (hl : news.length = m * size) (h1 : ∀ u ∈ news, u.oneCell' = true)
    (HO : W.ownsRow w0.heap.size e size v n xs) (HE : Ext w0 W) (hlen : (n + m) * bytes ≤ 140737488355328)
    (h : ∀ v1 w1, w1.ownsRow w0.heap.size e size v1 (n + m) (xs ++ news) → Ext w0 w1 → wpList P ops Q rest (a.put o.dst v1) w1) :
    wpList P ops Q (o :: rest) a W1 := by
  subst hW
  obtain ⟨i0, hi, hzz⟩ := Option.map_eq_some_iff.1 hinfo
  simp only [Prod.mk.injEq] at hzz
  obtain ⟨hz0, hz1, hz2⟩ := hzz
  have h63 : n + m ≤ 140737488355328 := Nat.le_trans (Nat.le_mul_of_pos_right _ hb0) hlen
  refine wpList_append_own (W.alloc (.cells news.toArray e)) hgd s x t ho w0.heap.size e i0 z size bytes ht hi hz0 hz1 hz2 hz hsz v n xs hs (HO.alloc _) ⟨W.heap.size, 0, none⟩ m m news hx hl
    (World.news_of_block (cs := news.toArray) (t := e) (fr := (0, 0)) (blk_new W _)) h1 (by simp only [maxLen]; omega) hlen (by have := HE.le; simp; omega) ?_
  intro v1 w1 hown hg _
  exact h v1 w1 hown (ext_grown (HE.alloc _) (HO.alloc _) hg)
/-- The same, as a step of a region that draws its order. -/
theorem step_app_own {K : Act → World → Prop} {E : Prop} {w0 W : World} {news : List Value} {e : TypeId} (W1 : World) (hW : W1 = W.alloc (.cells news.toArray e)) (hgd : o.guard = none) (s x : Operand) (t : TypeId) (z : Value) (size bytes : Nat)
    (ho : o.op = .call { callee := .builtin .append, args := #[s, x], argTypes := #[t, t] })
    (ht : P.underlying t = some (.slice e)) (hinfo : (P.info? e).map (fun i => (i.zero, i.size, i.bytes)) = some (some z, size, bytes)) (hz : z.cells.size = size) (hsz : 0 < size) (hb0 : 0 < bytes)
    (v : Value) (n m : Nat) (xs : List Value) (hs : a.eval s = v) (hx : a.eval x = .slice (some ⟨W.heap.size, 0, none⟩) m m) (hl : news.length = m * size) (h1 : ∀ u ∈ news, u.oneCell' = true)
    (HO : W.ownsRow w0.heap.size e size v n xs) (HE : Ext w0 W) (hlen : (n + m) * bytes ≤ 140737488355328)
    (h : ∀ v1 w1, w1.ownsRow w0.heap.size e size v1 (n + m) (xs ++ news) → Ext w0 w1 → K (a.put o.dst v1) w1) :
    if Region.wanted o (yielded ops a.tmps) = true then Oper.wp P o a W1 K Q else E := by
  subst hW
  have hw : Region.wanted o (yielded ops a.tmps) = true := by simp [Region.wanted, hgd]
  rw [if_pos hw]
  obtain ⟨i0, hi, hzz⟩ := Option.map_eq_some_iff.1 hinfo
  simp only [Prod.mk.injEq] at hzz
  obtain ⟨hz0, hz1, hz2⟩ := hzz
  have h63 : n + m ≤ 140737488355328 := Nat.le_trans (Nat.le_mul_of_pos_right _ hb0) hlen
  refine wp_append_own (W.alloc (.cells news.toArray e)) s x t ho w0.heap.size e i0 z size bytes ht hi hz0 hz1 hz2 hz hsz v n xs hs (HO.alloc _) ⟨W.heap.size, 0, none⟩ m m news hx hl
    (World.news_of_block (cs := news.toArray) (t := e) (fr := (0, 0)) (blk_new W _)) h1 (by simp only [maxLen]; omega) hlen (by have := HE.le; simp; omega) ?_
  intro v1 w1 hown hg _
  exact h v1 w1 hown (ext_grown (HE.alloc _) (HO.alloc _) hg)
end
end Go.Proofs.YtcnnpedmccjdkaaGreatDoor
