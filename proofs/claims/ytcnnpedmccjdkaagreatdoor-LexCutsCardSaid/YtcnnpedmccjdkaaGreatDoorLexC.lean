/- lex: word. -/
import Derived.Test.YtcnnpedmccjdkaaGreatDoorLexB
import Derived.Test.YtcnnpedmccjdkaaGreatDoorValE
set_option linter.unusedSimpArgs false
set_option linter.unusedVariables false
namespace Go.Proofs.YtcnnpedmccjdkaaGreatDoor
open Go.RowKit
theorem blk_new1 (w : World) (o p : Obj) : ((w.alloc o).alloc p).heap[w.heap.size + 1]? = some p := by
  have h := blk_new (w.alloc o) p
  rwa [show (w.alloc o).heap.size = w.heap.size + 1 by simp] at h
theorem blk_old1 (w : World) (o p : Obj) : ((w.alloc o).alloc p).heap[w.heap.size]? = some o := blk_ext (blk_new w o) ((Ext.refl _).alloc p)
theorem cells_of {w : World} {b : Nat} {cs : Array Value} {e : TypeId} (h : w.heap[b]? = some (.cells cs e (0, 0))) : (∀ o, w.cell? ⟨b, o, none⟩ = cs[o]?) ∧ (∀ o, w.frozen? ⟨b, o, none⟩ = false) :=
  ⟨blk_cell h, blk_free h⟩
def encT (t : Tok) : Value := .agg #[.int .i64 t.kind, .int .i64 t.at_, .string (bs t.text), .int .i64 t.op, .int .i64 t.val.kind, .int .i64 t.val.n, .string (bs t.val.s), .int .u64 t.val.f]
def wordsBA : List ByteArray := [⟨#[97, 110, 100]⟩, ⟨#[111, 114]⟩, ⟨#[110, 111, 116]⟩, ⟨#[105, 115]⟩]
theorem fields_words : Lib.fields [97, 110, 100, 32, 111, 114, 32, 110, 111, 116, 32, 105, 115] = words := by decide +kernel
theorem contains_words (x : ByteArray) : Lib.containsS wordsBA x = decide (L x ∈ words) := by
  rw [Bool.eq_iff_iff, Lib.containsS_iff]
  have h : ∀ l : B, x = ⟨l.toArray⟩ ↔ L x = l := fun l => ⟨fun h => by rw [h], fun h => by rw [← h]⟩
  simp only [wordsBA, words, List.mem_cons, List.not_mem_nil, or_false, decide_eq_true_eq]
  rw [h [97, 110, 100], h [111, 114], h [110, 111, 116], h [105, 115]]
def fieldsO : Obj := .cells (wordsBA.map Value.string).toArray 9
theorem Fields_words (w : World) (g : Glob w) :
    Calls Tryz.prog 70 #[.string ⟨#[97, 110, 100, 32, 111, 114, 32, 110, 111, 116, 32, 105, 115]⟩] w
      fun e w' => e = .returned (.slice (some ⟨w.heap.size, 0, none⟩) 4 4) ∧ w' = w.alloc fieldsO := by
  refine (Tryz.strings_Fields ⟨#[97, 110, 100, 32, 111, 114, 32, 110, 111, 116, 32, 105, 115]⟩ w (by decide) ?_ g.space).mono ?_
  · intro j b hb
    have := List.mem_of_getElem? hb
    revert this
    exact (by decide : ∀ b ∈ ([97, 110, 100, 32, 111, 114, 32, 110, 111, 116, 32, 105, 115] : List UInt8), b.toNat < 128) b
  · rintro e w' ⟨rfl, rfl⟩
    rw [show (ByteArray.mk #[97, 110, 100, 32, 111, 114, 32, 110, 111, 116, 32, 105, 115]).data.toList = [97, 110, 100, 32, 111, 114, 32, 110, 111, 116, 32, 105, 115] from rfl, fields_words]
    exact ⟨rfl, rfl⟩
theorem Contains_words (b : Nat) (x : ByteArray) (w : World) (hb : w.heap[b]? = some fieldsO) :
    Calls Tryz.prog 69 #[.slice (some ⟨b, 0, none⟩) 4 4, .string x] w fun e w' => e = .returned (.bool (decide (L x ∈ words))) ∧ w = w' := by
  refine (Tryz.slices_Contains_string b 0 4 4 wordsBA x w (by decide) (by decide) ?_).mono ?_
  · intro j hj
    have hj' : j < 4 := hj
    rw [show (0 + j) = j by omega, blk_cell hb]
    match j, hj' with
    | 0, _ => rfl
    | 1, _ => rfl
    | 2, _ => rfl
    | 3, _ => rfl
  · rintro e w' ⟨rfl, rfl⟩
    rw [show wordsBA.take 4 = wordsBA from rfl, contains_words]
    exact ⟨rfl, rfl⟩
attribute [local irreducible] fieldsO
def tbad : Tok := ⟨1, 0, [], 0, vzero⟩
def WordPost (l : B) (w : World) (e : Ending) (w' : World) : Prop :=
  e = .returned (.tuple #[encT ((lexWord l).getD tbad), .bool (lexWord l).isSome]) ∧ Ext w w'
set_option maxRecDepth 100000 in
set_option maxHeartbeats 1000000 in
theorem word_any (s : ByteArray) (hs : s.size ≤ 1000000) (w : World) (g : Glob w) :
    Calls Tryz.prog 51 #[.string s] w (WordPost (L s) w) := by
  have HG := Lib.hid g
  clear g
  by_cases hm : L s ∈ words
  · have HM := Lib.hid hm
    clear hm
    go_enter Tryz.func51, Tryz.ntmps51
    go_wp2_with (first
      | (go_at_call 70; refine (Fields_words _ ?gg).mono ?_; rotate_left; rintro e w' ⟨rfl, rfl⟩)
      | (go_at_call 69; refine (Contains_words _ s _ ?hb).mono ?_; rotate_left; rintro e w' ⟨rfl, rfl⟩; rw [decide_eq_true HM.out]))
    case gg => exact HG.out.ext (by (repeat (first | exact Ext.refl _ | assumption | (refine Ext.setCell ?_ (by simp; try omega) _) | apply Ext.alloc | apply Ext.drew | apply Ext.drewN' | (refine Ext.trans ?_ (by assumption)))))
    case hb => exact blk_new1 _ _ _
    refine bodyPost_ret (v := .tuple #[.agg #[.int .i64 3, .int .i64 0, .string s, .int .i64 0, .int .i64 0, .int .i64 0, .string ⟨#[]⟩, .int .u64 0], .bool true]) (by simp [results, Tryz.results51, go_sem, *]) rfl ⟨?_, ?_⟩
    · rw [show lexWord (L s) = some ⟨3, 0, L s, 0, vzero⟩ from if_pos HM.out]; rfl
    · (repeat (first | exact Ext.refl _ | assumption | (refine Ext.setCell ?_ (by simp; try omega) _) | apply Ext.alloc | apply Ext.drew | apply Ext.drewN' | (refine Ext.trans ?_ (by assumption))))
  · have HM := Lib.hid hm
    clear hm
    go_enter Tryz.func51, Tryz.ntmps51
    go_wp2_with (first
      | (go_at_call 70; refine (Fields_words _ ?gg).mono ?_; rotate_left; rintro e w' ⟨rfl, rfl⟩)
      | (go_at_call 69; refine (Contains_words _ s _ ?hb).mono ?_; rotate_left; rintro e w' ⟨rfl, rfl⟩; rw [decide_eq_false HM.out]))
    case gg => exact HG.out.ext (by (repeat (first | exact Ext.refl _ | assumption | (refine Ext.setCell ?_ (by simp; try omega) _) | apply Ext.alloc | apply Ext.drew | apply Ext.drewN' | (refine Ext.trans ?_ (by assumption)))))
    case hb => exact blk_new1 _ _ _
    refine (vParse_any s hs _ (HG.out.ext (by (repeat (first | exact Ext.refl _ | assumption | (refine Ext.setCell ?_ (by simp; try omega) _) | apply Ext.alloc | apply Ext.drew | apply Ext.drewN' | (refine Ext.trans ?_ (by assumption))))))).mono ?_
    rintro e w1 ⟨rfl, he⟩
    obtain ⟨hc, hf⟩ := cells_of (blk_ext (blk_old1 w _ _) he)
    have hlt : w.heap.size < w1.heap.size := by have := he.le; simp at this; omega
    have hlt2 : ¬ w.heap.size = w1.heap.size := by omega
    have hlt3 : w.heap.size ≤ w1.heap.size := by omega
    have HE := Lib.hid he
    clear he
    have hv : lexWord (L s) = (vparse (L s)).map fun v => ⟨1, 0, [], 0, v⟩ := if_neg HM.out
    have HV : Hid ((lexWord (L s)).getD tbad = ⟨1, 0, [], 0, (vparse (L s)).getD vzero⟩ ∧ (lexWord (L s)).isSome = (vparse (L s)).isSome) := by
      show _ ∧ _; rw [hv]; cases vparse (L s) <;> exact ⟨rfl, rfl⟩
    clear hv
    simp only [encV]
    generalize (vparse (L s)).getD vzero = x at *
    generalize (vparse (L s)).isSome = ok at *
    go_wp2
    refine bodyPost_ret (v := .tuple #[.agg #[.int .i64 1, .int .i64 0, .string ⟨#[]⟩, .int .i64 0, .int .i64 x.kind, .int .i64 x.n, .string (bs x.s), .int .u64 x.f], .bool ok]) (by simp [results, Tryz.results51, go_sem, *]) rfl ⟨?_, ?_⟩
    · rw [HV.out.1, HV.out.2]; rfl
    · have he := HE.out; (repeat (first | with_reducible exact Ext.refl _ | with_reducible assumption | (with_reducible refine Ext.setCell ?_ ?_ _; rotate_left; (first | exact Nat.le_refl _ | (simp; try omega))) | with_reducible apply Ext.alloc | with_reducible apply Ext.drew | with_reducible apply Ext.drewN' | (with_reducible refine Ext.trans ?_ (by with_reducible assumption))))
end Go.Proofs.YtcnnpedmccjdkaaGreatDoor
