/- Small words for the walks: strings as lists of bytes, worlds that have grown, results. -/
import Derived.Test.YtcnnpedmccjdkaaGreatDoorProg
import Derived.WalkKit
import Derived.WalkLawsBesides
import Derived.WalkSpells
import Derived.WalkSmall
import Derived.Lib.Hide
import Derived.Deep.QuietTactic
import Derived.BigQuiet
import Derived.Lib.LaidTab
import Derived.OneCell
import Derived.Lib.ItoaLen
import Derived.Test.YtcnnpedmccjdkaaGreatDoorShelf
import Derived.Test.YtcnnpedmccjdkaaGreatDoorSpec
set_option linter.unusedSimpArgs false
set_option linter.unusedVariables false
namespace Go.Proofs.YtcnnpedmccjdkaaGreatDoor
open Go.RowKit
/-- A string's bytes as a list, and back. -/
abbrev L (s : ByteArray) : List UInt8 := s.data.toList
def bs (l : List UInt8) : ByteArray := ⟨l.toArray⟩
theorem bs_L (s : ByteArray) : bs (L s) = s := rfl
theorem L_bs (l : List UInt8) : L (bs l) = l := rfl
theorem size_L (s : ByteArray) : (L s).length = s.size := by
  show s.data.toList.length = _
  rw [Array.length_toList]; rfl
theorem get_L (s : ByteArray) (k : Nat) (h : k < s.size) : (L s)[k]? = some s[k] := by
  have : k < (L s).length := by rw [size_L]; exact h
  rw [List.getElem?_eq_getElem this]; rfl
theorem drop_L (s : ByteArray) (k : Nat) (h : k < s.size) : (L s).drop k = s[k] :: (L s).drop (k + 1) := by
  have h' : k < (L s).length := by rw [size_L]; exact h
  rw [List.drop_eq_getElem_cons h']; rfl
theorem take_L (s : ByteArray) (k : Nat) (h : k < s.size) : (L s).take (k + 1) = (L s).take k ++ [s[k]] := by
  have h' : k < (L s).length := by rw [size_L]; exact h
  rw [List.take_succ_eq_append_getElem h']; rfl
theorem L_extract (s : ByteArray) (a b : Nat) : L (s.extract a b) = ((L s).take b).drop a := by
  simp [L, ByteArray.data_extract]
  rw [List.drop_take]
theorem extract_bs (s : ByteArray) (a b : Nat) : s.extract a b = bs (((L s).take b).drop a) := by
  rw [← L_extract]; rfl
theorem size_bs (l : List UInt8) : (bs l).size = l.length := rfl
theorem bs_append (x y : List UInt8) : bs x ++ bs y = bs (x ++ y) := ByteArray.mk_append_mk x y
theorem toList_L (s : ByteArray) : s.toList = L s := ByteArray.toList_eq s
theorem str_eq {s : ByteArray} {l : List UInt8} (h : L s = l) : (s.toList == l) = true := by rw [toList_L, h]; exact beq_self_eq_true l
theorem str_ne {s : ByteArray} {l : List UInt8} (h : L s ≠ l) : (s.toList == l) = false := by rw [toList_L]; exact beq_eq_false_iff_ne.2 h
theorem cmp_eq_of {a b : ByteArray} (h : L a = L b) : (a.toList == b.toList) = true ∧ (a.toList != b.toList) = false := by
  rw [toList_L, toList_L, h]; simp
theorem cmp_ne_of {a b : ByteArray} (h : L a ≠ L b) : (a.toList == b.toList) = false ∧ (a.toList != b.toList) = true := by
  rw [toList_L, toList_L]; exact ⟨beq_eq_false_iff_ne.2 h, bne_iff_ne.2 h⟩
theorem bs_inj {a b : List UInt8} (h : bs a = bs b) : a = b := by
  have := congrArg L h; exact this
theorem ret_str {a b : ByteArray} (h : a = b) : Ending.returned (.string a) = .returned (.string b) := by rw [h]
theorem ret_bool {a b : Bool} (h : a = b) : Ending.returned (.bool a) = .returned (.bool b) := by rw [h]
theorem ret_int {k : IntKind} {a b : Int} (h : a = b) : Ending.returned (.int k a) = .returned (.int k b) := by rw [h]
theorem ret_val {a b : Value} (h : a = b) : Ending.returned a = .returned b := by rw [h]

/-- What lay in memory lies there still. -/
def Ext (w w' : World) : Prop := Below w.heap.size w w'
theorem Ext.refl (w : World) : Ext w w := Below.refl _ _
theorem Ext.trans {a b c : World} (h : Ext a b) (k : Ext b c) : Ext a c := Below.trans h (Below.mono k (Below.size h))
theorem Ext.drewN (w : World) (n : Nat) : Ext w (w.drewN n) := ⟨rfl, rfl, rfl, Nat.le_refl _, fun _ _ => rfl⟩
theorem Ext.drew {w w' : World} (h : Ext w w') : Ext w w'.drew := Below.drew h
theorem Ext.drewN' {w w' : World} (h : Ext w w') (n : Nat) : Ext w (w'.drewN n) := h.trans (Ext.drewN _ _)
theorem Ext.alloc {w w' : World} (h : Ext w w') (o : Obj) : Ext w (w'.alloc o) := Below.alloc h (Below.size h) o
theorem Ext.setCell {w w' : World} (h : Ext w w') {p : Addr} (hp : w.heap.size ≤ p.block) (u : Value) : Ext w (w'.setCell p u) := Below.setCell h hp u
theorem Ext.le {w w' : World} (h : Ext w w') : w.heap.size ≤ w'.heap.size := h.size
theorem Ext.cells {w w' : World} (h : Ext w w') : (∀ b o, b < w.heap.size → w'.cell? ⟨b, o, none⟩ = w.cell? ⟨b, o, none⟩) ∧ (∀ b o, b < w.heap.size → w'.frozen? ⟨b, o, none⟩ = w.frozen? ⟨b, o, none⟩) :=
  ⟨fun b o hb => Below.cell (p := ⟨b, o, none⟩) h hb, fun b o hb => Below.frozen (p := ⟨b, o, none⟩) h hb⟩
theorem Ext.cell {w w' : World} (h : Ext w w') {p : Addr} {v : Value} (hc : w.cell? p = some v) : w'.cell? p = some v := by
  rw [← hc]; exact Below.cell h (World.block_lt_of_cell? w p hc)
theorem Ext.grow {w w' : World} (h : Ext w w') (os : Array Obj) : Ext w («Sort».grow w' os) := by
  refine h.trans ⟨rfl, rfl, rfl, ?_, ?_⟩
  · simp [«Sort».grow]
  · intro k hk
    simp only [«Sort».grow]
    rw [Array.getElem?_append_left hk]
def debrTab : List Int := [0, 1, 56, 2, 57, 49, 28, 3, 61, 58, 42, 50, 38, 29, 17, 4, 62, 47, 59, 36, 45, 43, 51, 22, 53, 39, 33, 30, 24, 18, 12, 5, 63, 55, 48, 27, 60, 41, 37, 16, 46, 35, 44, 21, 52, 32, 23, 11, 54, 26, 40, 15, 34, 20, 31, 10, 25, 14, 19, 9, 13, 8, 7, 6]
/-- The package-level variables of the library that the program reads. -/
structure Glob (w : World) : Prop where
  pow10 : Lib.TabIs Tryz.prog w "internal/strconv.uint64pow10" .u64 Lib.pow10Tab
  space : Lib.TabIs Tryz.prog w "strings.asciiSpace" .u8 Lib.asciiSpaceTab
  debr : Lib.TabIs Tryz.prog w "math/bits.deBruijn64tab" .u8 debrTab
  syn : ∃ tp p, World.var? Tryz.prog w "strconv.ErrSyntax" = some #[Value.iface tp p]
  rng : ∃ tp p, World.var? Tryz.prog w "strconv.ErrRange" = some #[Value.iface tp p]
theorem var_lt {w : World} {n : String} {cs : Array Value} (h : World.var? Tryz.prog w n = some cs) : ∃ g, Tryz.prog.globalNamed n = some g ∧ g < w.heap.size := by
  unfold World.var? at h
  cases hg : Tryz.prog.globalNamed n with
  | none => simp [hg] at h
  | some g =>
    refine ⟨g, rfl, ?_⟩
    simp only [hg, Option.bind_some] at h
    rcases Nat.lt_or_ge g w.heap.size with h1 | h1
    · exact h1
    · rw [Array.getElem?_eq_none h1] at h; simp at h
theorem var_ext {w w' : World} (h : Ext w w') {n : String} {cs : Array Value} (hv : World.var? Tryz.prog w n = some cs) : World.var? Tryz.prog w' n = some cs := by
  obtain ⟨g, hg, hl⟩ := var_lt hv
  exact var?_below h hg hl hv
theorem Glob.ext {w w' : World} (g : Glob w) (h : Ext w w') : Glob w' :=
  ⟨var_ext h g.pow10, var_ext h g.space, var_ext h g.debr, by obtain ⟨t, p, e⟩ := g.syn; exact ⟨t, p, var_ext h e⟩, by obtain ⟨t, p, e⟩ := g.rng; exact ⟨t, p, var_ext h e⟩⟩
theorem Glob.synCell {w : World} (g : Glob w) : ∃ ev, w.cell? ⟨4, 0, none⟩ = some ev ∧ (ev = .nilIface ∨ ∃ te pe, ev = .iface te pe) := by
  obtain ⟨t, p, e⟩ := g.syn
  exact ⟨_, by have := World.var?_cell (g := 4) (by kernel_rfl) e 0; simpa using this, .inr ⟨t, p, rfl⟩⟩
theorem Glob.rngCell {w : World} (g : Glob w) : ∃ ev, w.cell? ⟨5, 0, none⟩ = some ev ∧ (ev = .nilIface ∨ ∃ te pe, ev = .iface te pe) := by
  obtain ⟨t, p, e⟩ := g.rng
  exact ⟨_, by have := World.var?_cell (g := 5) (by kernel_rfl) e 0; simpa using this, .inr ⟨t, p, rfl⟩⟩
theorem Glob.alloc {w : World} (g : Glob w) (o : Obj) : Glob (w.alloc o) := g.ext ((Ext.refl _).alloc o)
theorem Glob.drewN {w : World} (g : Glob w) (n : Nat) : Glob (w.drewN n) := g.ext (Ext.drewN _ n)
/-! ### a block whose cells are known -/
theorem blk_cell {w : World} {b : Nat} {cs : Array Value} {t : TypeId} {fr : Nat × Nat} (h : w.heap[b]? = some (.cells cs t fr)) (o : Nat) : w.cell? ⟨b, o, none⟩ = cs[o]? := by
  simp [World.cell?, h]
theorem blk_free {w : World} {b : Nat} {cs : Array Value} {t : TypeId} (h : w.heap[b]? = some (.cells cs t (0, 0))) (o : Nat) : w.frozen? ⟨b, o, none⟩ = false := by
  simp [World.frozen?, h]
theorem blk_set {w : World} {b : Nat} {cs : Array Value} {t : TypeId} {fr : Nat × Nat} (h : w.heap[b]? = some (.cells cs t fr)) (o : Nat) (u : Value) :
    (w.setCell ⟨b, o, none⟩ u).heap[b]? = some (.cells (cs.setIfInBounds o u) t fr) := by
  have hlt := lt_of_block h
  have h' : w.heap[b] = .cells cs t fr := by simpa [Array.getElem?_eq_getElem hlt] using h
  show (w.heap.modify b _)[b]? = _
  rw [Array.getElem?_eq_getElem (by simpa using hlt), Array.getElem_modify_self, h']
  rfl
theorem blk_ext {w w' : World} {b : Nat} {o : Obj} (h : w.heap[b]? = some o) (e : Ext w w') : w'.heap[b]? = some o := by
  rw [← h]; exact Below.block e b (lt_of_block h)
theorem blk_new (w : World) (o : Obj) : (w.alloc o).heap[w.heap.size]? = some o := by
  show (w.heap.push o)[w.heap.size]? = _
  simp
end Go.Proofs.YtcnnpedmccjdkaaGreatDoor
