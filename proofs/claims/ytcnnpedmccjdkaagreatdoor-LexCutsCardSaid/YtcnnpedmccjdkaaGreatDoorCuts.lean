/- Layer 16: LexCuts. -/
import Derived.Test.YtcnnpedmccjdkaaGreatDoorRLex6
import Derived.Test.YtcnnpedmccjdkaaGreatDoorSame
import Derived.Test.YtcnnpedmccjdkaaGreatDoorCount
set_option linter.unusedSimpArgs false
set_option linter.unusedVariables false
namespace Go.Proofs.YtcnnpedmccjdkaaGreatDoor
open Go.RowKit
/-- Both readers of tokens at one text. -/
def CutsBoth (l : B) (w1 w2 w3 : World) (e2 e3 : Ending) : Prop :=
  (∃ ts v v', ts.length ≤ 100000 ∧ e2 = .returned (.tuple #[v, .int .i64 0, .int .i64 0]) ∧ e3 = .returned (.tuple #[v', .int .i64 0, .bool true]) ∧ readsT w3 v ts ∧ readsT w3 v' ts) ∨
  (∃ p : Int, e2 = .returned (.tuple #[.slice none 0 0, .int .i64 p, .int .i64 160]) ∧ e3 = .returned (.tuple #[.slice none 0 0, .int .i64 p, .bool false]))
theorem cutsBoth {l : B} {w1 w2 w3 : World} {e2 e3 : Ending} (h2 : LexPost l w1 e2 w2) (h3 : RlPost l w2 e3 w3) : CutsBoth l w1 w2 w3 e2 e3 ∧ Ext w1 w2 ∧ Ext w2 w3 := by
  unfold LexPost at h2
  unfold RlPost at h3
  cases hl : lexS l with
  | ok ts =>
    rw [hl] at h2 h3
    obtain ⟨v, rfl, ho, he⟩ := h2
    obtain ⟨v', rfl, ho', he'⟩ := h3
    have := lexS_count2 hl
    exact ⟨.inl ⟨ts, v, v', by omega, rfl, rfl, readsT_ext (readsT_own ho) he', readsT_own ho'⟩, he, he'⟩
  | error p =>
    rw [hl] at h2 h3
    obtain ⟨rfl, he⟩ := h2
    obtain ⟨rfl, he'⟩ := h3
    exact ⟨.inr ⟨_, rfl, rfl⟩, he, he'⟩
set_option maxRecDepth 100000 in
set_option maxHeartbeats 1000000 in
theorem LexCuts_any (s : ByteArray) (hs : s.size ≤ 9223372036854775807) (w : World) (g : Glob w) :
    Calls Tryz.prog 3 #[.string s] w fun e w' => e = .returned (.bool true) ∧ Ext w w' := by
  have HG := Lib.hid g
  clear g
  go_enter Tryz.func3, Tryz.ntmps3
  go_wp2_with fail
  refine (first_any _ HG.out).mono ?_
  rintro e w1 ⟨rfl, he⟩
  have HE1 := Lib.hid he
  have HG1 := Lib.hid (HG.out.ext he)
  clear he
  by_cases hbig : 5000 < s.size
  · go_wp2_with fail
    go_ret
    exact ⟨rfl, HE1.out⟩
  have HLA := Lib.hid (fun w g => Lex_any s hs w g)
  have HRA := Lib.hid (fun w => rLex_any s hs w)
  go_wp2_with fail
  refine (HLA.out _ HG1.out).mono ?_
  rintro e2 w2 h2
  have hw : ∃ v p q, e2 = .returned (.tuple #[v, .int .i64 p, .int .i64 q]) := by
    unfold LexPost at h2
    split at h2
    · obtain ⟨v, h, _⟩ := h2; exact ⟨_, _, _, h⟩
    · exact ⟨_, _, _, h2.1⟩
  obtain ⟨v2, p2, q2, rfl⟩ := hw
  have H2 := Lib.hid h2
  clear h2
  go_wp2_with fail
  refine (HRA.out _).mono ?_
  rintro e3 w3 h3
  obtain ⟨hb, he2, he3⟩ := cutsBoth H2.out h3
  have HE3 := Lib.hid ((HE1.out.trans he2).trans he3)
  clear h3 H2 he2 he3
  rcases hb with ⟨ts, v, v', hl, h4, rfl, hv, hv'⟩ | ⟨p, h4, rfl⟩
  · cases h4
    have hS := Same_any v2 v' ts ts w3 hv hv' hl hl
    rw [show decide (ts = ts) = true from decide_eq_true rfl] at hS
    have HS := Lib.hid hS
    clear hS
    clear hv hv' HLA HRA
    go_wp2_with (go_at_call 16; refine HS.out.mono ?_; rintro e w4 ⟨rfl, he4⟩)
    go_ret
    exact ⟨rfl, HE3.out.trans he4⟩
  · cases h4
    have hS := Same_any (.slice none 0 0) (.slice none 0 0) [] [] w3 (.inl ⟨rfl, rfl⟩) (.inl ⟨rfl, rfl⟩) (by decide) (by decide)
    rw [show decide (([] : List Tok) = []) = true from decide_eq_true rfl] at hS
    have HS := Lib.hid hS
    clear hS
    clear HLA HRA
    go_wp2_with (go_at_call 16; refine HS.out.mono ?_; rintro e w4 ⟨rfl, he4⟩)
    go_ret
    exact ⟨rfl, HE3.out.trans he4⟩
end Go.Proofs.YtcnnpedmccjdkaaGreatDoor
