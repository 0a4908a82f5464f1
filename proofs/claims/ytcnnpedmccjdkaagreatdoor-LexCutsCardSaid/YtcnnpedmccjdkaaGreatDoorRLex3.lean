/- The reference's Lex: names. -/
import Derived.Test.YtcnnpedmccjdkaaGreatDoorRLex2

set_option linter.unusedSimpArgs false
set_option linter.unusedVariables false
namespace Go.Proofs.YtcnnpedmccjdkaaGreatDoor
open Go.RowKit
theorem scan_stop {p : UInt8 → Bool} {T : B} {m : Nat} (hm : m < T.length) (h : ∀ c ∈ T.take m, p c = true) (hc : p T[m] = false) : T.takeWhile p = T.take m := takeWhile_stop T m hm h hc
theorem scan_end {p : UInt8 → Bool} {T : B} {m : Nat} (hm : T.length ≤ m) (h : ∀ c ∈ T.take m, p c = true) : T.takeWhile p = T.take m := by
  rw [List.take_of_length_le hm] at h ⊢; exact takeWhile_all T h
theorem scan_more {p : UInt8 → Bool} {T : B} {m : Nat} (hm : m < T.length) (h : ∀ c ∈ T.take m, p c = true) (hc : p T[m] = true) : ∀ c ∈ T.take (m + 1), p c = true := by
  rw [List.take_succ_eq_append_getElem hm]
  intro c hcm
  rcases List.mem_append.1 hcm with h1 | h1
  · exact h c h1
  · rw [List.mem_singleton.1 h1]; exact hc
theorem small_parts (c : UInt8) : small c = (lower c || digit c || (c == 95)) := rfl
theorem wordy_parts (c : UInt8) : wordy c = (lower c || upper c || digit c || (c == 45) || (c == 46)) := rfl
theorem drop_get (s : ByteArray) (a j : Nat) (h1 : a ≤ j) (h2 : j < s.size) : ∃ h : j - a < ((L s).drop a).length, ((L s).drop a)[j - a] = s[j] := by
  have hl : j - a < ((L s).drop a).length := by rw [List.length_drop, size_L]; omega
  refine ⟨hl, ?_⟩
  have h3 := get_L s j h2
  have h4 : ((L s).drop a)[j - a]? = some s[j] := by rw [List.getElem?_drop, show a + (j - a) = j by omega]; exact h3
  rw [List.getElem?_eq_getElem hl] at h4
  exact Option.some.inj h4
theorem small_cases {c : UInt8} (h : small c = true) : lower c = true ∨ (lower c = false ∧ digit c = true) ∨ (lower c = false ∧ digit c = false ∧ (c == 95) = true) := by
  rw [small_parts] at h
  cases h1 : lower c <;> cases h2 : digit c <;> simp_all
theorem small_no {c : UInt8} (h : small c = false) : lower c = false ∧ digit c = false ∧ (c == 95) = false := by
  rw [small_parts] at h
  cases h1 : lower c <;> cases h2 : digit c <;> simp_all
theorem wordy_cases {c : UInt8} (h : wordy c = true) : lower c = true ∨ (lower c = false ∧ upper c = true) ∨ (lower c = false ∧ upper c = false ∧ digit c = true) ∨ (lower c = false ∧ upper c = false ∧ digit c = false ∧ (c == 45) = true) ∨ (lower c = false ∧ upper c = false ∧ digit c = false ∧ (c == 45) = false ∧ (c == 46) = true) := by
  rw [wordy_parts] at h
  cases h1 : lower c <;> cases h2 : upper c <;> cases h3 : digit c <;> cases h4 : (c == 45) <;> simp_all
theorem wordy_no {c : UInt8} (h : wordy c = false) : lower c = false ∧ upper c = false ∧ digit c = false ∧ (c == 45) = false ∧ (c == 46) = false := by
  rw [wordy_parts] at h
  cases h1 : lower c <;> cases h2 : upper c <;> cases h3 : digit c <;> cases h4 : (c == 45) <;> simp_all
theorem bq {c d : UInt8} {n : Int} (hn : (d.toNat : Int) = n) : ((c.toNat : Int) == n) = (c == d) := by
  rw [Bool.eq_iff_iff]; simp only [beq_iff_eq, ← UInt8.toNat_inj]; omega
set_option maxRecDepth 1000000 in
set_option maxHeartbeats 4000000 in
theorem rl_g4 (s : ByteArray) (w wr : World) (k : Nat) (c : UInt8) (t : B) (ts : List Tok) (Q : Exit → Act → World → Prop) (hbig : ¬ 2000 < s.size) (hlt : k < s.size) (hc : s[k] = c) (ht : (L s).drop (k + 1) = t) (htl : ts.length ≤ k)
    (u2 u3 u4 u5 u7 u8 u9 u10 u11 u12 u13 u17 u18 u19 u20 u21 u22 u23 u24 u25 u26 u27 u28 u29 u30 u31 u32 u33 u34 u35 u36 u37 u38 u39 u40 u41 u42 u43 u44 u45 u46 u47 u48 u49 u50 u51 u52 u53 u54 u55 u56 u57 u58 u59 u60 u61 u62 u63 u64 u65 u66 u67 u68 u69 u70 u71 u72 u73 u74 u75 u76 u77 u78 u79 u80 u81 u82 u83 u84 u85 u86 u87 u88 u89 u90 u91 u92 u93 u94 u95 u96 u97 u98 u99 u100 u101 u102 u103 u104 u105 u106 u107 u108 u109 u110 u111 u112 u113 u114 u115 u116 u117 u118 u119 u120 u121 u122 u123 u124 u125 u126 u127 u128 u129 u130 u131 u132 u133 u134 u135 u136 u137 u138 u139 u140 u141 u142 u143 u144 u145 u146 u147 u148 u149 u150 u151 u152 u153 u154 u155 u156 u157 u158 u159 u160 u161 u162 u163 u164 u165 u166 u167 u168 u169 u170 u171 u172 u173 u174 u175 u176 u177 u178 u179 u180 u181 u182 u183 u184 u185 u186 u187 u188 : Value) (HO : Hid (wr.ownsRow w.heap.size 38 8 u5 ts.length (toksCells ts))) (he : Ext w wr)
    (HC : Hid (∀ (x : Tok) (n : Nat) (i : Int) (v5 : Value) (w4 : World) {u2 u3 u4 u7 u8 u9 u10 u11 u12 u13 u17 u18 u19 u20 u21 u22 u23 u24 u25 u26 u27 u28 u29 u30 u31 u32 u33 u34 u35 u36 u37 u38 u39 u40 u41 u42 u43 u44 u45 u46 u47 u48 u49 u50 u51 u52 u53 u54 u55 u56 u57 u58 u59 u60 u61 u62 u63 u64 u65 u66 u67 u68 u69 u70 u71 u72 u73 u74 u75 u76 u77 u78 u79 u80 u81 u82 u83 u84 u85 u86 u87 u88 u89 u90 u91 u92 u93 u94 u95 u96 u97 u98 u99 u100 u101 u102 u103 u104 u105 u106 u107 u108 u109 u110 u111 u112 u113 u114 u115 u116 u117 u118 u119 u120 u121 u122 u123 u124 u125 u126 u127 u128 u129 u130 u131 u132 u133 u134 u135 u136 u137 u138 u139 u140 u141 u142 u143 u144 u145 u146 u147 u148 u149 u150 u151 u152 u153 u154 u155 u156 u157 u158 u159 u160 u161 u162 u163 u164 u165 u166 u167 u168 u169 u170 u171 u172 u173 u174 u175 u176 u177 u178 u179 u180 u181 u182 u183 u184 u185 u186 u187 u188 : Value}, lexTok (c :: t) = some (x, n) → i = ((k + n : Nat) : Int) → k + n ≤ s.size → w4.ownsRow w.heap.size 38 8 v5 (ts.length + 1) (toksCells ts ++ tokCells { x with at_ := (k : Int) }) → Ext w w4 →
      Q .normal ⟨#[.string s, undef, u2, u3, u4, v5, .int .i64 i, u7, u8, u9, u10, u11, u12, u13, .string s, .int .i64 (s.size : Int), .bool (decide (2000 < (s.size : Int))), u17, u18, u19, u20, u21, u22, u23, u24, u25, u26, u27, u28, u29, u30, u31, u32, u33, u34, u35, u36, u37, u38, u39, u40, u41, u42, u43, u44, u45, u46, u47, u48, u49, u50, u51, u52, u53, u54, u55, u56, u57, u58, u59, u60, u61, u62, u63, u64, u65, u66, u67, u68, u69, u70, u71, u72, u73, u74, u75, u76, u77, u78, u79, u80, u81, u82, u83, u84, u85, u86, u87, u88, u89, u90, u91, u92, u93, u94, u95, u96, u97, u98, u99, u100, u101, u102, u103, u104, u105, u106, u107, u108, u109, u110, u111, u112, u113, u114, u115, u116, u117, u118, u119, u120, u121, u122, u123, u124, u125, u126, u127, u128, u129, u130, u131, u132, u133, u134, u135, u136, u137, u138, u139, u140, u141, u142, u143, u144, u145, u146, u147, u148, u149, u150, u151, u152, u153, u154, u155, u156, u157, u158, u159, u160, u161, u162, u163, u164, u165, u166, u167, u168, u169, u170, u171, u172, u173, u174, u175, u176, u177, u178, u179, u180, u181, u182, u183, u184, u185, u186, u187, u188, undef], []⟩ w4))
    (HR : Hid (∀ (w4 : World) {u6 u5 u7 u8 u9 u10 u11 u12 u13 u17 u18 u19 u20 u21 u22 u23 u24 u25 u26 u27 u28 u29 u30 u31 u32 u33 u34 u35 u36 u37 u38 u39 u40 u41 u42 u43 u44 u45 u46 u47 u48 u49 u50 u51 u52 u53 u54 u55 u56 u57 u58 u59 u60 u61 u62 u63 u64 u65 u66 u67 u68 u69 u70 u71 u72 u73 u74 u75 u76 u77 u78 u79 u80 u81 u82 u83 u84 u85 u86 u87 u88 u89 u90 u91 u92 u93 u94 u95 u96 u97 u98 u99 u100 u101 u102 u103 u104 u105 u106 u107 u108 u109 u110 u111 u112 u113 u114 u115 u116 u117 u118 u119 u120 u121 u122 u123 u124 u125 u126 u127 u128 u129 u130 u131 u132 u133 u134 u135 u136 u137 u138 u139 u140 u141 u142 u143 u144 u145 u146 u147 u148 u149 u150 u151 u152 u153 u154 u155 u156 u157 u158 u159 u160 u161 u162 u163 u164 u165 u166 u167 u168 u169 u170 u171 u172 u173 u174 u175 u176 u177 u178 u179 u180 u181 u182 u183 u184 u185 u186 u187 u188 : Value}, lexTok (c :: t) = none → Ext w w4 → Q .ret ⟨#[.string s, undef, .slice none 0 0, .int .i64 (k : Int), .bool false, u5, u6, u7, u8, u9, u10, u11, u12, u13, .string s, .int .i64 (s.size : Int), .bool (decide (2000 < (s.size : Int))), u17, u18, u19, u20, u21, u22, u23, u24, u25, u26, u27, u28, u29, u30, u31, u32, u33, u34, u35, u36, u37, u38, u39, u40, u41, u42, u43, u44, u45, u46, u47, u48, u49, u50, u51, u52, u53, u54, u55, u56, u57, u58, u59, u60, u61, u62, u63, u64, u65, u66, u67, u68, u69, u70, u71, u72, u73, u74, u75, u76, u77, u78, u79, u80, u81, u82, u83, u84, u85, u86, u87, u88, u89, u90, u91, u92, u93, u94, u95, u96, u97, u98, u99, u100, u101, u102, u103, u104, u105, u106, u107, u108, u109, u110, u111, u112, u113, u114, u115, u116, u117, u118, u119, u120, u121, u122, u123, u124, u125, u126, u127, u128, u129, u130, u131, u132, u133, u134, u135, u136, u137, u138, u139, u140, u141, u142, u143, u144, u145, u146, u147, u148, u149, u150, u151, u152, u153, u154, u155, u156, u157, u158, u159, u160, u161, u162, u163, u164, u165, u166, u167, u168, u169, u170, u171, u172, u173, u174, u175, u176, u177, u178, u179, u180, u181, u182, u183, u184, u185, u186, u187, u188, undef], []⟩ w4)) (hcl : c = 36) :
    Code.wp Tryz.prog rlBody Q ⟨#[.string s, undef, u2, u3, u4, u5, .int .i64 (k : Int), u7, u8, u9, u10, u11, u12, u13, .string s, .int .i64 (s.size : Int), .bool (decide (2000 < (s.size : Int))), u17, u18, u19, u20, u21, u22, u23, u24, u25, u26, u27, u28, u29, u30, u31, u32, u33, u34, u35, u36, u37, u38, u39, u40, u41, u42, u43, u44, u45, u46, u47, u48, u49, u50, u51, u52, u53, u54, u55, u56, u57, u58, u59, u60, u61, u62, u63, u64, u65, u66, u67, u68, u69, u70, u71, u72, u73, u74, u75, u76, u77, u78, u79, u80, u81, u82, u83, u84, u85, u86, u87, u88, u89, u90, u91, u92, u93, u94, u95, u96, u97, u98, u99, u100, u101, u102, u103, u104, u105, u106, u107, u108, u109, u110, u111, u112, u113, u114, u115, u116, u117, u118, u119, u120, u121, u122, u123, u124, u125, u126, u127, u128, u129, u130, u131, u132, u133, u134, u135, u136, u137, u138, u139, u140, u141, u142, u143, u144, u145, u146, u147, u148, u149, u150, u151, u152, u153, u154, u155, u156, u157, u158, u159, u160, u161, u162, u163, u164, u165, u166, u167, u168, u169, u170, u171, u172, u173, u174, u175, u176, u177, u178, u179, u180, u181, u182, u183, u184, u185, u186, u187, u188, undef], []⟩ wr := by
  conv => arg 2; whnf
  have hb1 : (0 : Int) ≤ (k : Int) := by omega
  have hb2 : (k : Int) < (s.size : Int) := by omega
  have hbig2 : (s.size : Int) ≤ 2000 := by omega
  subst hcl
  have HT : Hid ((L s).drop (k + 1) = t) := ht
  by_cases hn1 : k + 1 < s.size
  · go_wp2
    go_loop [6] (fun vi => ∃ j : Nat, k + 1 ≤ j ∧ j ≤ s.size ∧ vi = .int .i64 (j : Int) ∧ Hid (∀ c ∈ t.take (j - (k + 1)), small c = true)) (fun vi => s.size - (intOf vi).toNat)
    case atStart => exact ⟨k + 1, by omega, by omega, by simp, fun c h => by simp at h⟩
    case round =>
      obtain ⟨j, hj0, hj1, rfl, hall⟩ := hrel
      have hb5 : (0 : Int) ≤ (j : Int) := by omega
      have hb6 : (k : Int) + 1 ≤ (j : Int) := by omega
      have hb8 : (j : Int) ≤ (s.size : Int) := by omega
      have hb9 : (0 : Int) ≤ (k : Int) + 1 := by omega
      by_cases hjs : j < s.size
      · have hb7 : (j : Int) < (s.size : Int) := by omega
        obtain ⟨hm, hg⟩ := drop_get s (k + 1) j hj0 hjs
        simp only [ht] at hm hg
        obtain ⟨cj, hcj⟩ : ∃ cj, s[j] = cj := ⟨_, rfl⟩
        rw [hcj] at hg
        have q95 := bq (c := cj) (d := 95) (n := 95) rfl
        cases hsm : small cj with
        | true =>
          have HA : Hid (∀ c ∈ t.take (j - (k + 1) + 1), small c = true) := scan_more hm hall.out (by rw [hg]; exact hsm)
          have h3 := small_cases hsm
          clear hg hm hsm
          rcases h3 with h1 | ⟨h1, h2⟩ | ⟨h1, h2, h3⟩
          all_goals (try rw [h3] at q95)
          all_goals (try clear h3)
          all_goals
            go_wp2_with (first
            | (go_at_call 33; (with_reducible refine (in_lower cj _).mono ?_); rintro e w' ⟨rfl, rfl⟩) | (go_at_call 33; (with_reducible refine (in_digit cj _).mono ?_); rintro e w' ⟨rfl, rfl⟩) | (go_at_call 33; (with_reducible refine (in_upper cj _).mono ?_); rintro e w' ⟨rfl, rfl⟩)
            | fail)
            go_round
            case rel => exact ⟨j + 1, by omega, by omega, by simp, by rw [show j + 1 - (k + 1) = j - (k + 1) + 1 by omega]; exact HA⟩
            case measure => (try simp only [intOf]); (try simp); omega
        | false =>
          have HTW : Hid (t.takeWhile small = t.take (j - (k + 1))) := scan_stop hm hall.out (by rw [hg]; exact hsm)
          obtain ⟨h1, h2, h3⟩ := small_no hsm
          rw [h3] at q95
          clear hsm hg hm h3
          obtain ⟨X, hX⟩ : ∃ X, t.takeWhile small = X := ⟨_, rfl⟩
          have hex : s.extract (k + 1) j = bs X := by rw [extract_bs, List.drop_take, ht, ← hX, HTW.out]
          have hXl : X.length = j - (k + 1) := by rw [← hX, HTW.out, List.length_take, ← ht, List.length_drop, size_L]; omega
          have hLT : lexTok (36 :: t) = if isName X then some (⟨0, 0, X, 0, vzero⟩, 1 + X.length) else none := by rw [← hX]; rfl
          have HLT := Lib.hid hLT
          have HXL := Lib.hid hXl
          have hNm := rName_any (bs X) (by rw [size_bs]; omega)
          rw [L_bs] at hNm
          clear hLT hXl hX HTW
          cases hn : isName X with
          | true =>
            rw [hn] at hNm HLT
            have HNM := Lib.hid hNm
            clear hn hNm
            go_wp2_with (first
              | (go_at_call 33; (with_reducible refine (in_lower cj _).mono ?_); rintro e w' ⟨rfl, rfl⟩) | (go_at_call 33; (with_reducible refine (in_digit cj _).mono ?_); rintro e w' ⟨rfl, rfl⟩) | (go_at_call 33; (with_reducible refine (in_upper cj _).mono ?_); rintro e w' ⟨rfl, rfl⟩)
              | (go_at_call 18; refine (HNM.out _).mono ?_; rintro e w' ⟨rfl, rfl⟩)
              | (at_builtin; refine app_own2 (w0 := w) (W := wr.alloc _) (e := 38) (news := [_, _, _, _, _, _, _, _]) _ (by rfl) (by rfl) _ _ 23 (.agg #[.int .i64 0, .int .i64 0, .string ⟨#[]⟩, .int .i64 0, .int .i64 0, .int .i64 0, .string ⟨#[]⟩, .int .u64 0]) 8 80 (by rfl) (by kernel_rfl) (by kernel_rfl) (by decide) (by decide) (by decide) u5 ts.length 1 (wr.heap.size + 1) (by simp) _ (by rfl) (by rfl) (by rfl) (by simp [Value.oneCell']) (own_ext HO ((Ext.refl _).alloc _)) (he.alloc _) (by omega) ?_; rotate_left; intro v4 w4 ho4 he4; have HO4 := Lib.hid ho4; clear ho4)
              | fail)
            exact HC.out ⟨0, 0, X, 0, vzero⟩ (1 + X.length) _ v4 w4 HLT.out (by have := HXL.out; omega) (by have := HXL.out; omega) HO4.out he4
          | false =>
            rw [hn] at hNm HLT
            have HNM := Lib.hid hNm
            clear hn hNm
            go_wp2_with (first
              | (go_at_call 33; (with_reducible refine (in_lower cj _).mono ?_); rintro e w' ⟨rfl, rfl⟩) | (go_at_call 33; (with_reducible refine (in_digit cj _).mono ?_); rintro e w' ⟨rfl, rfl⟩) | (go_at_call 33; (with_reducible refine (in_upper cj _).mono ?_); rintro e w' ⟨rfl, rfl⟩)
              | (go_at_call 18; refine (HNM.out _).mono ?_; rintro e w' ⟨rfl, rfl⟩)
              | fail)
            exact HR.out _ HLT.out (he.alloc _)
      · have HTW : Hid (t.takeWhile small = t.take (j - (k + 1))) := scan_end (by rw [← ht, List.length_drop, size_L]; omega) hall.out
        obtain ⟨X, hX⟩ : ∃ X, t.takeWhile small = X := ⟨_, rfl⟩
        have hex : s.extract (k + 1) j = bs X := by rw [extract_bs, List.drop_take, ht, ← hX, HTW.out]
        have hXl : X.length = j - (k + 1) := by rw [← hX, HTW.out, List.length_take, ← ht, List.length_drop, size_L]; omega
        have hLT : lexTok (36 :: t) = if isName X then some (⟨0, 0, X, 0, vzero⟩, 1 + X.length) else none := by rw [← hX]; rfl
        have HLT := Lib.hid hLT
        have HXL := Lib.hid hXl
        have hNm := rName_any (bs X) (by rw [size_bs]; omega)
        rw [L_bs] at hNm
        clear hLT hXl hX HTW
        cases hn : isName X with
        | true =>
          rw [hn] at hNm HLT
          have HNM := Lib.hid hNm
          clear hn hNm
          go_wp2_with (first
            | (go_at_call 18; refine (HNM.out _).mono ?_; rintro e w' ⟨rfl, rfl⟩)
            | (at_builtin; refine app_own2 (w0 := w) (W := wr.alloc _) (e := 38) (news := [_, _, _, _, _, _, _, _]) _ (by rfl) (by rfl) _ _ 23 (.agg #[.int .i64 0, .int .i64 0, .string ⟨#[]⟩, .int .i64 0, .int .i64 0, .int .i64 0, .string ⟨#[]⟩, .int .u64 0]) 8 80 (by rfl) (by kernel_rfl) (by kernel_rfl) (by decide) (by decide) (by decide) u5 ts.length 1 (wr.heap.size + 1) (by simp) _ (by rfl) (by rfl) (by rfl) (by simp [Value.oneCell']) (own_ext HO ((Ext.refl _).alloc _)) (he.alloc _) (by omega) ?_; rotate_left; intro v4 w4 ho4 he4; have HO4 := Lib.hid ho4; clear ho4)
            | fail)
          exact HC.out ⟨0, 0, X, 0, vzero⟩ (1 + X.length) _ v4 w4 HLT.out (by have := HXL.out; omega) (by have := HXL.out; omega) HO4.out he4
        | false =>
          rw [hn] at hNm HLT
          have HNM := Lib.hid hNm
          clear hn hNm
          go_wp2_with (first
            | (go_at_call 18; refine (HNM.out _).mono ?_; rintro e w' ⟨rfl, rfl⟩)
            | fail)
          exact HR.out _ HLT.out (he.alloc _)
  · go_wp2
    go_loop [6] (fun vi => ∃ j : Nat, k + 1 ≤ j ∧ j ≤ s.size ∧ vi = .int .i64 (j : Int) ∧ Hid (∀ c ∈ t.take (j - (k + 1)), small c = true)) (fun vi => s.size - (intOf vi).toNat)
    case atStart => exact ⟨k + 1, by omega, by omega, by simp, fun c h => by simp at h⟩
    case round =>
      obtain ⟨j, hj0, hj1, rfl, hall⟩ := hrel
      have hb5 : (0 : Int) ≤ (j : Int) := by omega
      have hb6 : (k : Int) + 1 ≤ (j : Int) := by omega
      have hb8 : (j : Int) ≤ (s.size : Int) := by omega
      have hb9 : (0 : Int) ≤ (k : Int) + 1 := by omega
      by_cases hjs : j < s.size
      · exfalso; omega
      · have HTW : Hid (t.takeWhile small = t.take (j - (k + 1))) := scan_end (by rw [← ht, List.length_drop, size_L]; omega) hall.out
        obtain ⟨X, hX⟩ : ∃ X, t.takeWhile small = X := ⟨_, rfl⟩
        have hex : s.extract (k + 1) j = bs X := by rw [extract_bs, List.drop_take, ht, ← hX, HTW.out]
        have hXl : X.length = j - (k + 1) := by rw [← hX, HTW.out, List.length_take, ← ht, List.length_drop, size_L]; omega
        have hLT : lexTok (36 :: t) = if isName X then some (⟨0, 0, X, 0, vzero⟩, 1 + X.length) else none := by rw [← hX]; rfl
        have HLT := Lib.hid hLT
        have HXL := Lib.hid hXl
        have hNm := rName_any (bs X) (by rw [size_bs]; omega)
        rw [L_bs] at hNm
        clear hLT hXl hX HTW
        cases hn : isName X with
        | true =>
          rw [hn] at hNm HLT
          have HNM := Lib.hid hNm
          clear hn hNm
          go_wp2_with (first
            | (go_at_call 18; refine (HNM.out _).mono ?_; rintro e w' ⟨rfl, rfl⟩)
            | (at_builtin; refine app_own2 (w0 := w) (W := wr.alloc _) (e := 38) (news := [_, _, _, _, _, _, _, _]) _ (by rfl) (by rfl) _ _ 23 (.agg #[.int .i64 0, .int .i64 0, .string ⟨#[]⟩, .int .i64 0, .int .i64 0, .int .i64 0, .string ⟨#[]⟩, .int .u64 0]) 8 80 (by rfl) (by kernel_rfl) (by kernel_rfl) (by decide) (by decide) (by decide) u5 ts.length 1 (wr.heap.size + 1) (by simp) _ (by rfl) (by rfl) (by rfl) (by simp [Value.oneCell']) (own_ext HO ((Ext.refl _).alloc _)) (he.alloc _) (by omega) ?_; rotate_left; intro v4 w4 ho4 he4; have HO4 := Lib.hid ho4; clear ho4)
            | fail)
          exact HC.out ⟨0, 0, X, 0, vzero⟩ (1 + X.length) _ v4 w4 HLT.out (by have := HXL.out; omega) (by have := HXL.out; omega) HO4.out he4
        | false =>
          rw [hn] at hNm HLT
          have HNM := Lib.hid hNm
          clear hn hNm
          go_wp2_with (first
            | (go_at_call 18; refine (HNM.out _).mono ?_; rintro e w' ⟨rfl, rfl⟩)
            | fail)
          exact HR.out _ HLT.out (he.alloc _)
end Go.Proofs.YtcnnpedmccjdkaaGreatDoor
