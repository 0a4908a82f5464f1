/- The laws of layer 16: first, and the reference's Name. -/
import Derived.Test.YtcnnpedmccjdkaaGreatDoorLexE
set_option linter.unusedSimpArgs false
set_option linter.unusedVariables false
namespace Go.Proofs.YtcnnpedmccjdkaaGreatDoor
open Go.RowKit
theorem own_get {w : World} {base : Nat} {e : TypeId} {size n : Nat} {v : Value} {xs : List Value} (h : w.ownsRow base e size v n xs) (hn : 0 < n) :
    ∃ g cap, v = .slice (some ⟨g, 0, none⟩) n cap ∧ base ≤ g ∧ g < w.heap.size ∧ ∀ j u, xs[j]? = some u → w.cell? ⟨g, j, none⟩ = some u := by
  rcases h.2 with ⟨_, rfl⟩ | ⟨g, cap, cur, hv, hb, hh, _⟩
  · omega
  · refine ⟨g, cap, hv, hb, (Array.getElem?_eq_some_iff.1 hh).1, fun j u hu => ?_⟩
    have := h.cells (g := g) (by rw [hv]; rfl) j u hu
    rw [Addr.add] at this
    split at this
    · rename_i hj; subst hj; exact this
    · simpa using this
def sFirst1 : B := [36, 97, 32, 62, 61, 32, 45, 51, 32, 97, 110, 100, 32, 110, 111, 116, 32, 40, 36, 98, 32, 105, 115, 32, 110, 117, 108, 108, 41]
def tFirst1 : List Tok := [⟨0, 0, [97], 0, vzero⟩, ⟨2, 3, [], 5, vzero⟩, ⟨1, 6, [], 0, ⟨1, -3, [], 0⟩⟩, ⟨3, 9, [97, 110, 100], 0, vzero⟩, ⟨3, 13, [110, 111, 116], 0, vzero⟩, ⟨4, 17, [], 0, vzero⟩,
  ⟨0, 18, [98], 0, vzero⟩, ⟨3, 21, [105, 115], 0, vzero⟩, ⟨1, 24, [], 0, vzero⟩, ⟨5, 28, [], 0, vzero⟩]
theorem lexFirst1 : lexS sFirst1 = .ok tFirst1 := by rfl
theorem lexFirst2 : lexS [36, 97, 32, 33, 32, 51] = .error 3 := by rfl
set_option maxRecDepth 100000 in
set_option maxHeartbeats 1000000 in
theorem first_any (w : World) (g : Glob w) : Calls Tryz.prog 13 #[] w fun e w' => e = .returned (.bool true) ∧ Ext w w' := by
  have HG := Lib.hid g
  clear g
  have HL1 := Lib.hid (fun w g => Lex_any (bs sFirst1) (by decide) w g)
  have HL2 := Lib.hid (fun w g => Lex_any (bs [36, 97, 32, 33, 32, 51]) (by decide) w g)
  simp only [L_bs] at HL1 HL2
  go_enter Tryz.func13, Tryz.ntmps13
  go_wp2_with fail
  refine (HL1.out _ HG.out).mono ?_
  rintro e w1 h1
  unfold LexPost at h1
  rw [lexFirst1] at h1
  obtain ⟨v, rfl, ho, he⟩ := h1
  obtain ⟨b, cap, rfl, hb0, hb1, hcl⟩ := own_get ho (by decide)
  have k1 := hcl 11 _ rfl
  have k2 := hcl 21 _ rfl
  have k3 := hcl 50 _ rfl
  have k4 := hcl 49 _ rfl
  have HE := Lib.hid he
  clear ho hcl he
  go_wp2_with fail
  refine (HL2.out _ (HG.out.ext HE.out)).mono ?_
  rintro e w2 h2
  unfold LexPost at h2
  rw [lexFirst2] at h2
  obtain ⟨rfl, he2⟩ := h2
  replace k1 := he2.cell k1
  replace k2 := he2.cell k2
  replace k3 := he2.cell k3
  replace k4 := he2.cell k4
  have HE2 := Lib.hid (HE.out.trans he2)
  clear he2
  have hlen : tFirst1.length = 10 := rfl
  have q1 : (ByteArray.toList (bs [98]) == [98]) = true := str_eq rfl
  have n1 : Hid (isName (L ⟨#[97, 95, 49]⟩) = true) := rfl
  have n2 : Hid (isName (L ⟨#[49, 97]⟩) = false) := rfl
  go_wp2_with (go_at_call 17; refine (Name_ext _ _ (by decide)).mono ?_; rintro e w3 ⟨rfl, he3⟩; first | rw [n1.out] | rw [n2.out])
  go_ret
  exact ⟨rfl, by have h := HE2.out; (repeat (first | with_reducible exact Ext.refl _ | with_reducible assumption | (with_reducible refine Ext.setCell ?_ ?_ _; rotate_left; (first | exact Nat.le_refl _ | (simp; try omega))) | with_reducible apply Ext.alloc | with_reducible apply Ext.drew | with_reducible apply Ext.drewN' | (with_reducible refine Ext.trans ?_ (by with_reducible assumption))))⟩
end Go.Proofs.YtcnnpedmccjdkaaGreatDoor
