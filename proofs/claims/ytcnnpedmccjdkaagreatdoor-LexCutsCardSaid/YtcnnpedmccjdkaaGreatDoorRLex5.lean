/- The reference's Lex: words and literals, at the end of the text. -/
import Derived.Test.YtcnnpedmccjdkaaGreatDoorRLex4
import Derived.Deep.Cut

set_option linter.unusedSimpArgs false
set_option linter.unusedVariables false
namespace Go.Proofs.YtcnnpedmccjdkaaGreatDoor
open Go.RowKit
set_option maxRecDepth 1000000 in
set_option maxHeartbeats 4000000 in
theorem rl_g5b (s : ByteArray) (w wr : World) (k : Nat) (c : UInt8) (t : B) (ts : List Tok) (Q : Exit → Act → World → Prop) (hbig : ¬ 2000 < s.size) (hlt : k < s.size) (hc : s[k] = c) (ht : (L s).drop (k + 1) = t) (htl : ts.length ≤ k)
    (u2 u3 u4 u5 u7 u8 u9 u10 u11 u12 u13 u17 u18 u19 u20 u21 u22 u23 u24 u25 u26 u27 u28 u29 u30 u31 u32 u33 u34 u35 u36 u37 u38 u39 u40 u41 u42 u43 u44 u45 u46 u47 u48 u49 u50 u51 u52 u53 u54 u55 u56 u57 u58 u59 u60 u61 u62 u63 u64 u65 u66 u67 u68 u69 u70 u71 u72 u73 u74 u75 u76 u77 u78 u79 u80 u81 u82 u83 u84 u85 u86 u87 u88 u89 u90 u91 u92 u93 u94 u95 u96 u97 u98 u99 u100 u101 u102 u103 u104 u105 u106 u107 u108 u109 u110 u111 u112 u113 u114 u115 u116 u117 u118 u119 u120 u121 u122 u123 u124 u125 u126 u127 u128 u129 u130 u131 u132 u133 u134 u135 u136 u137 u138 u139 u140 u141 u142 u143 u144 u145 u146 u147 u148 u149 u150 u151 u152 u153 u154 u155 u156 u157 u158 u159 u160 u161 u162 u163 u164 u165 u166 u167 u168 u169 u170 u171 u172 u173 u174 u175 u176 u177 u178 u179 u180 u181 u182 u183 u184 u185 u186 u187 u188 : Value) (HO : Hid (wr.ownsRow w.heap.size 38 8 u5 ts.length (toksCells ts))) (he : Ext w wr)
    (HC : Hid (∀ (x : Tok) (n : Nat) (i : Int) (v5 : Value) (w4 : World) {u2 u3 u4 u7 u8 u9 u10 u11 u12 u13 u17 u18 u19 u20 u21 u22 u23 u24 u25 u26 u27 u28 u29 u30 u31 u32 u33 u34 u35 u36 u37 u38 u39 u40 u41 u42 u43 u44 u45 u46 u47 u48 u49 u50 u51 u52 u53 u54 u55 u56 u57 u58 u59 u60 u61 u62 u63 u64 u65 u66 u67 u68 u69 u70 u71 u72 u73 u74 u75 u76 u77 u78 u79 u80 u81 u82 u83 u84 u85 u86 u87 u88 u89 u90 u91 u92 u93 u94 u95 u96 u97 u98 u99 u100 u101 u102 u103 u104 u105 u106 u107 u108 u109 u110 u111 u112 u113 u114 u115 u116 u117 u118 u119 u120 u121 u122 u123 u124 u125 u126 u127 u128 u129 u130 u131 u132 u133 u134 u135 u136 u137 u138 u139 u140 u141 u142 u143 u144 u145 u146 u147 u148 u149 u150 u151 u152 u153 u154 u155 u156 u157 u158 u159 u160 u161 u162 u163 u164 u165 u166 u167 u168 u169 u170 u171 u172 u173 u174 u175 u176 u177 u178 u179 u180 u181 u182 u183 u184 u185 u186 u187 u188 : Value}, lexTok (c :: t) = some (x, n) → i = ((k + n : Nat) : Int) → k + n ≤ s.size → w4.ownsRow w.heap.size 38 8 v5 (ts.length + 1) (toksCells ts ++ tokCells { x with at_ := (k : Int) }) → Ext w w4 →
      Q .normal ⟨#[.string s, undef, u2, u3, u4, v5, .int .i64 i, u7, u8, u9, u10, u11, u12, u13, .string s, .int .i64 (s.size : Int), .bool (decide (2000 < (s.size : Int))), u17, u18, u19, u20, u21, u22, u23, u24, u25, u26, u27, u28, u29, u30, u31, u32, u33, u34, u35, u36, u37, u38, u39, u40, u41, u42, u43, u44, u45, u46, u47, u48, u49, u50, u51, u52, u53, u54, u55, u56, u57, u58, u59, u60, u61, u62, u63, u64, u65, u66, u67, u68, u69, u70, u71, u72, u73, u74, u75, u76, u77, u78, u79, u80, u81, u82, u83, u84, u85, u86, u87, u88, u89, u90, u91, u92, u93, u94, u95, u96, u97, u98, u99, u100, u101, u102, u103, u104, u105, u106, u107, u108, u109, u110, u111, u112, u113, u114, u115, u116, u117, u118, u119, u120, u121, u122, u123, u124, u125, u126, u127, u128, u129, u130, u131, u132, u133, u134, u135, u136, u137, u138, u139, u140, u141, u142, u143, u144, u145, u146, u147, u148, u149, u150, u151, u152, u153, u154, u155, u156, u157, u158, u159, u160, u161, u162, u163, u164, u165, u166, u167, u168, u169, u170, u171, u172, u173, u174, u175, u176, u177, u178, u179, u180, u181, u182, u183, u184, u185, u186, u187, u188, undef], []⟩ w4))
    (HR : Hid (∀ (w4 : World) {u6 u5 u7 u8 u9 u10 u11 u12 u13 u17 u18 u19 u20 u21 u22 u23 u24 u25 u26 u27 u28 u29 u30 u31 u32 u33 u34 u35 u36 u37 u38 u39 u40 u41 u42 u43 u44 u45 u46 u47 u48 u49 u50 u51 u52 u53 u54 u55 u56 u57 u58 u59 u60 u61 u62 u63 u64 u65 u66 u67 u68 u69 u70 u71 u72 u73 u74 u75 u76 u77 u78 u79 u80 u81 u82 u83 u84 u85 u86 u87 u88 u89 u90 u91 u92 u93 u94 u95 u96 u97 u98 u99 u100 u101 u102 u103 u104 u105 u106 u107 u108 u109 u110 u111 u112 u113 u114 u115 u116 u117 u118 u119 u120 u121 u122 u123 u124 u125 u126 u127 u128 u129 u130 u131 u132 u133 u134 u135 u136 u137 u138 u139 u140 u141 u142 u143 u144 u145 u146 u147 u148 u149 u150 u151 u152 u153 u154 u155 u156 u157 u158 u159 u160 u161 u162 u163 u164 u165 u166 u167 u168 u169 u170 u171 u172 u173 u174 u175 u176 u177 u178 u179 u180 u181 u182 u183 u184 u185 u186 u187 u188 : Value}, lexTok (c :: t) = none → Ext w w4 → Q .ret ⟨#[.string s, undef, .slice none 0 0, .int .i64 (k : Int), .bool false, u5, u6, u7, u8, u9, u10, u11, u12, u13, .string s, .int .i64 (s.size : Int), .bool (decide (2000 < (s.size : Int))), u17, u18, u19, u20, u21, u22, u23, u24, u25, u26, u27, u28, u29, u30, u31, u32, u33, u34, u35, u36, u37, u38, u39, u40, u41, u42, u43, u44, u45, u46, u47, u48, u49, u50, u51, u52, u53, u54, u55, u56, u57, u58, u59, u60, u61, u62, u63, u64, u65, u66, u67, u68, u69, u70, u71, u72, u73, u74, u75, u76, u77, u78, u79, u80, u81, u82, u83, u84, u85, u86, u87, u88, u89, u90, u91, u92, u93, u94, u95, u96, u97, u98, u99, u100, u101, u102, u103, u104, u105, u106, u107, u108, u109, u110, u111, u112, u113, u114, u115, u116, u117, u118, u119, u120, u121, u122, u123, u124, u125, u126, u127, u128, u129, u130, u131, u132, u133, u134, u135, u136, u137, u138, u139, u140, u141, u142, u143, u144, u145, u146, u147, u148, u149, u150, u151, u152, u153, u154, u155, u156, u157, u158, u159, u160, u161, u162, u163, u164, u165, u166, u167, u168, u169, u170, u171, u172, u173, u174, u175, u176, u177, u178, u179, u180, u181, u182, u183, u184, u185, u186, u187, u188, undef], []⟩ w4)) (hcl : c ≠ 61 ∧ c ≠ 33 ∧ c ≠ 60 ∧ c ≠ 62 ∧ c ≠ 40 ∧ c ≠ 41 ∧ c ≠ 36) (hsp : c ≠ 32) (hn1 : ¬ k + 1 < s.size) :
    Code.wp Tryz.prog rlBody Q ⟨#[.string s, undef, u2, u3, u4, u5, .int .i64 (k : Int), u7, u8, u9, u10, u11, u12, u13, .string s, .int .i64 (s.size : Int), .bool (decide (2000 < (s.size : Int))), u17, u18, u19, u20, u21, u22, u23, u24, u25, u26, u27, u28, u29, u30, u31, u32, u33, u34, u35, u36, u37, u38, u39, u40, u41, u42, u43, u44, u45, u46, u47, u48, u49, u50, u51, u52, u53, u54, u55, u56, u57, u58, u59, u60, u61, u62, u63, u64, u65, u66, u67, u68, u69, u70, u71, u72, u73, u74, u75, u76, u77, u78, u79, u80, u81, u82, u83, u84, u85, u86, u87, u88, u89, u90, u91, u92, u93, u94, u95, u96, u97, u98, u99, u100, u101, u102, u103, u104, u105, u106, u107, u108, u109, u110, u111, u112, u113, u114, u115, u116, u117, u118, u119, u120, u121, u122, u123, u124, u125, u126, u127, u128, u129, u130, u131, u132, u133, u134, u135, u136, u137, u138, u139, u140, u141, u142, u143, u144, u145, u146, u147, u148, u149, u150, u151, u152, u153, u154, u155, u156, u157, u158, u159, u160, u161, u162, u163, u164, u165, u166, u167, u168, u169, u170, u171, u172, u173, u174, u175, u176, u177, u178, u179, u180, u181, u182, u183, u184, u185, u186, u187, u188, undef], []⟩ wr := by
  conv => arg 2; whnf
  have hb1 : (0 : Int) ≤ (k : Int) := by omega
  have hb2 : (k : Int) < (s.size : Int) := by omega
  have hbig2 : (s.size : Int) ≤ 2000 := by omega
  have HDK : Hid ((L s).drop k = c :: t) := by
    show _ = _; rw [drop_L s k hlt, hc, ht]
  have e61 := u8_ne (c := c) (d := 61) (n := 61) rfl hcl.1
  have e33 := u8_ne (c := c) (d := 33) (n := 33) rfl hcl.2.1
  have e60 := u8_ne (c := c) (d := 60) (n := 60) rfl hcl.2.2.1
  have e62 := u8_ne (c := c) (d := 62) (n := 62) rfl hcl.2.2.2.1
  have e40 := u8_ne (c := c) (d := 40) (n := 40) rfl hcl.2.2.2.2.1
  have e41 := u8_ne (c := c) (d := 41) (n := 41) rfl hcl.2.2.2.2.2.1
  have e36 := u8_ne (c := c) (d := 36) (n := 36) rfl hcl.2.2.2.2.2.2
  have e32 := u8_ne (c := c) (d := 32) (n := 32) rfl hsp
  have HCL := Lib.hid hcl
  clear hcl
  go_wp2
  go_loop [6] (fun vi => ∃ j : Nat, k ≤ j ∧ j ≤ s.size ∧ vi = .int .i64 (j : Int) ∧ Hid (∀ c' ∈ (c :: t).take (j - k), wordy c' = true)) (fun vi => s.size - (intOf vi).toNat)
  case atStart => exact ⟨k, by omega, by omega, by simp, fun c h => by simp at h⟩
  case round =>
    obtain ⟨j, hj0, hj1, rfl, hall⟩ := hrel
    have hb5 : (0 : Int) ≤ (j : Int) := by omega
    have hb6 : (k : Int) ≤ (j : Int) := by omega
    have hb8 : (j : Int) ≤ (s.size : Int) := by omega
    by_cases hjs : j < s.size
    · have hb7 : (j : Int) < (s.size : Int) := by omega
      obtain ⟨hm, hg⟩ := drop_get s k j hj0 hjs
      simp only [HDK.out] at hm hg
      obtain ⟨cj, hcj⟩ : ∃ cj, s[j] = cj := ⟨_, rfl⟩
      rw [hcj] at hg
      have q45 := bq (c := cj) (d := 45) (n := 45) rfl
      have q46 := bq (c := cj) (d := 46) (n := 46) rfl
      cases hsm : wordy cj with
      | true =>
        have HA : Hid (∀ c' ∈ (c :: t).take (j - k + 1), wordy c' = true) := scan_more hm hall.out (by rw [hg]; exact hsm)
        have h3 := wordy_cases hsm
        clear hg hm hsm
        rcases h3 with h1 | ⟨h1, h2⟩ | ⟨h1, h2, h3⟩ | ⟨h1, h2, h3, h4⟩ | ⟨h1, h2, h3, h4, h5⟩
        all_goals (try rw [h4] at q45)
        all_goals (try rw [h5] at q46)
        all_goals (try clear h4)
        all_goals (try clear h5)
        all_goals
          go_wp2_with (first | (go_at_call 33; (with_reducible refine (in_lower cj _).mono ?_); rintro e w' ⟨rfl, rfl⟩) | (go_at_call 33; (with_reducible refine (in_digit cj _).mono ?_); rintro e w' ⟨rfl, rfl⟩) | (go_at_call 33; (with_reducible refine (in_upper cj _).mono ?_); rintro e w' ⟨rfl, rfl⟩) | fail)
          go_round
          case rel => exact ⟨j + 1, by omega, by omega, by simp, by rw [show j + 1 - k = j - k + 1 by omega]; exact HA⟩
          case measure => (try simp only [intOf]); (try simp); omega
      | false =>
        have HTW : Hid ((c :: t).takeWhile wordy = (c :: t).take (j - k)) := scan_stop hm hall.out (by rw [hg]; exact hsm)
        obtain ⟨h1, h2, h3, h4, h5⟩ := wordy_no hsm
        rw [h4] at q45
        rw [h5] at q46
        clear hsm hg hm h4 h5
        obtain ⟨X, hX⟩ : ∃ X, (c :: t).takeWhile wordy = X := ⟨_, rfl⟩
        have hex : s.extract k j = bs X := by rw [take_drop_bs, HDK.out, ← hX, HTW.out]
        have hXl : X.length = j - k := by rw [← hX, HTW.out, List.length_take, ← HDK.out, List.length_drop, size_L]; omega
        have HLT : Hid (WordTok (c :: t) X) := ⟨by rw [← hX]; exact lexTok_word HCL.out⟩
        have HXL := Lib.hid hXl
        have hXs : (bs X).size ≤ 1000000 := by rw [size_bs]; omega
        clear hXl hX HTW
        by_cases hw : X ∈ words
        · have HWT := Lib.hid (HLT.out.word hw)
          have hw4 := words_cases hw
          clear hw
          rcases hw4 with rfl | rfl | rfl | rfl
          · have w1 := str_eq (s := bs [97, 110, 100]) (l := [97, 110, 100]) rfl
            go_wp2_with (first
              | (go_at_call 33; (with_reducible refine (in_lower cj _).mono ?_); rintro e w' ⟨rfl, rfl⟩) | (go_at_call 33; (with_reducible refine (in_digit cj _).mono ?_); rintro e w' ⟨rfl, rfl⟩) | (go_at_call 33; (with_reducible refine (in_upper cj _).mono ?_); rintro e w' ⟨rfl, rfl⟩) | (at_builtin; refine app_own2 (w0 := w) (W := wr.alloc _) (e := 38) (news := [_, _, _, _, _, _, _, _]) _ (by rfl) (by rfl) _ _ 23 (.agg #[.int .i64 0, .int .i64 0, .string ⟨#[]⟩, .int .i64 0, .int .i64 0, .int .i64 0, .string ⟨#[]⟩, .int .u64 0]) 8 80 (by rfl) (by kernel_rfl) (by kernel_rfl) (by decide) (by decide) (by decide) u5 ts.length 1 (wr.heap.size + 1) (by simp) _ (by rfl) (by rfl) (by rfl) (by simp [Value.oneCell']) (own_ext HO ((Ext.refl _).alloc _)) (he.alloc _) (by omega) ?_; rotate_left; intro v4 w4 ho4 he4; have HO4 := Lib.hid ho4; clear ho4)
              | fail)
            exact HC.out ⟨3, 0, [97, 110, 100], 0, vzero⟩ 3 _ v4 w4 HWT.out (by have := HXL.out; simp at this; omega) (by have := HXL.out; simp at this; omega) HO4.out he4
          · have w1 := str_ne (s := bs [111, 114]) (l := [97, 110, 100]) (by rw [L_bs]; decide)
            have w2 := str_eq (s := bs [111, 114]) (l := [111, 114]) rfl
            go_wp2_with (first
              | (go_at_call 33; (with_reducible refine (in_lower cj _).mono ?_); rintro e w' ⟨rfl, rfl⟩) | (go_at_call 33; (with_reducible refine (in_digit cj _).mono ?_); rintro e w' ⟨rfl, rfl⟩) | (go_at_call 33; (with_reducible refine (in_upper cj _).mono ?_); rintro e w' ⟨rfl, rfl⟩) | (at_builtin; refine app_own2 (w0 := w) (W := wr.alloc _) (e := 38) (news := [_, _, _, _, _, _, _, _]) _ (by rfl) (by rfl) _ _ 23 (.agg #[.int .i64 0, .int .i64 0, .string ⟨#[]⟩, .int .i64 0, .int .i64 0, .int .i64 0, .string ⟨#[]⟩, .int .u64 0]) 8 80 (by rfl) (by kernel_rfl) (by kernel_rfl) (by decide) (by decide) (by decide) u5 ts.length 1 (wr.heap.size + 1) (by simp) _ (by rfl) (by rfl) (by rfl) (by simp [Value.oneCell']) (own_ext HO ((Ext.refl _).alloc _)) (he.alloc _) (by omega) ?_; rotate_left; intro v4 w4 ho4 he4; have HO4 := Lib.hid ho4; clear ho4)
              | fail)
            exact HC.out ⟨3, 0, [111, 114], 0, vzero⟩ 2 _ v4 w4 HWT.out (by have := HXL.out; simp at this; omega) (by have := HXL.out; simp at this; omega) HO4.out he4
          · have w1 := str_ne (s := bs [110, 111, 116]) (l := [97, 110, 100]) (by rw [L_bs]; decide)
            have w2 := str_ne (s := bs [110, 111, 116]) (l := [111, 114]) (by rw [L_bs]; decide)
            have w3 := str_eq (s := bs [110, 111, 116]) (l := [110, 111, 116]) rfl
            go_wp2_with (first
              | (go_at_call 33; (with_reducible refine (in_lower cj _).mono ?_); rintro e w' ⟨rfl, rfl⟩) | (go_at_call 33; (with_reducible refine (in_digit cj _).mono ?_); rintro e w' ⟨rfl, rfl⟩) | (go_at_call 33; (with_reducible refine (in_upper cj _).mono ?_); rintro e w' ⟨rfl, rfl⟩) | (at_builtin; refine app_own2 (w0 := w) (W := wr.alloc _) (e := 38) (news := [_, _, _, _, _, _, _, _]) _ (by rfl) (by rfl) _ _ 23 (.agg #[.int .i64 0, .int .i64 0, .string ⟨#[]⟩, .int .i64 0, .int .i64 0, .int .i64 0, .string ⟨#[]⟩, .int .u64 0]) 8 80 (by rfl) (by kernel_rfl) (by kernel_rfl) (by decide) (by decide) (by decide) u5 ts.length 1 (wr.heap.size + 1) (by simp) _ (by rfl) (by rfl) (by rfl) (by simp [Value.oneCell']) (own_ext HO ((Ext.refl _).alloc _)) (he.alloc _) (by omega) ?_; rotate_left; intro v4 w4 ho4 he4; have HO4 := Lib.hid ho4; clear ho4)
              | fail)
            exact HC.out ⟨3, 0, [110, 111, 116], 0, vzero⟩ 3 _ v4 w4 HWT.out (by have := HXL.out; simp at this; omega) (by have := HXL.out; simp at this; omega) HO4.out he4
          · have w1 := str_ne (s := bs [105, 115]) (l := [97, 110, 100]) (by rw [L_bs]; decide)
            have w2 := str_ne (s := bs [105, 115]) (l := [111, 114]) (by rw [L_bs]; decide)
            have w3 := str_ne (s := bs [105, 115]) (l := [110, 111, 116]) (by rw [L_bs]; decide)
            have w4 := str_eq (s := bs [105, 115]) (l := [105, 115]) rfl
            go_wp2_with (first
              | (go_at_call 33; (with_reducible refine (in_lower cj _).mono ?_); rintro e w' ⟨rfl, rfl⟩) | (go_at_call 33; (with_reducible refine (in_digit cj _).mono ?_); rintro e w' ⟨rfl, rfl⟩) | (go_at_call 33; (with_reducible refine (in_upper cj _).mono ?_); rintro e w' ⟨rfl, rfl⟩) | (at_builtin; refine app_own2 (w0 := w) (W := wr.alloc _) (e := 38) (news := [_, _, _, _, _, _, _, _]) _ (by rfl) (by rfl) _ _ 23 (.agg #[.int .i64 0, .int .i64 0, .string ⟨#[]⟩, .int .i64 0, .int .i64 0, .int .i64 0, .string ⟨#[]⟩, .int .u64 0]) 8 80 (by rfl) (by kernel_rfl) (by kernel_rfl) (by decide) (by decide) (by decide) u5 ts.length 1 (wr.heap.size + 1) (by simp) _ (by rfl) (by rfl) (by rfl) (by simp [Value.oneCell']) (own_ext HO ((Ext.refl _).alloc _)) (he.alloc _) (by omega) ?_; rotate_left; intro v4 w4 ho4 he4; have HO4 := Lib.hid ho4; clear ho4)
              | fail)
            exact HC.out ⟨3, 0, [105, 115], 0, vzero⟩ 2 _ v4 _ HWT.out (by have := HXL.out; simp at this; omega) (by have := HXL.out; simp at this; omega) HO4.out he4
        · obtain ⟨n1, n2, n3, n4⟩ := words_no hw
          have m1 := str_ne (s := bs X) (l := [97, 110, 100]) (by rw [L_bs]; exact n1)
          have m2 := str_ne (s := bs X) (l := [111, 114]) (by rw [L_bs]; exact n2)
          have m3 := str_ne (s := bs X) (l := [110, 111, 116]) (by rw [L_bs]; exact n3)
          have m4 := str_ne (s := bs X) (l := [105, 115]) (by rw [L_bs]; exact n4)
          have HVP := Lib.hid (rvParse_any (bs X) hXs)
          rw [L_bs] at HVP
          cases hv : vparse X with
          | none =>
            have HWT := Lib.hid (HLT.out.no hw hv)
            have HVN := Lib.hid hv
            clear n1 n2 n3 n4 hw hv
            go_wp2_with (first
              | (go_at_call 33; (with_reducible refine (in_lower cj _).mono ?_); rintro e w' ⟨rfl, rfl⟩) | (go_at_call 33; (with_reducible refine (in_digit cj _).mono ?_); rintro e w' ⟨rfl, rfl⟩) | (go_at_call 33; (with_reducible refine (in_upper cj _).mono ?_); rintro e w' ⟨rfl, rfl⟩) | (go_at_call 34; refine (HVP.out _).mono ?_; rintro e w1 ⟨rfl, he1⟩; rw [HVN.out]; simp only [Option.getD_none, Option.isSome_none, encV, vzero]; have HE1 := Lib.hid ((he.alloc _).trans he1))
              | fail)
            exact HR.out _ HWT.out (by have h := HE1.out; (repeat (first | with_reducible exact Ext.refl _ | with_reducible assumption | (with_reducible refine Ext.setCell ?_ ?_ _; rotate_left; (first | exact Nat.le_refl _ | (simp; try omega))) | with_reducible apply Ext.alloc | with_reducible apply Ext.drew | with_reducible apply Ext.drewN' | (with_reducible refine Ext.trans ?_ (by with_reducible assumption)))))
          | some v =>
            have HWT := Lib.hid (HLT.out.lit hw hv)
            have HVN := Lib.hid hv
            have hne : X ≠ [] := by rintro rfl; rw [vparse_nil] at hv; cases hv
            have m5 := str_ne (s := bs X) (l := []) (by rw [L_bs]; exact hne)
            have m6 : (bs X).toList.isEmpty = false := by rw [toList_L, L_bs]; simpa using hne
            clear n1 n2 n3 n4 hw hv hne
            go_wp2_with (first
              | (go_at_call 33; (with_reducible refine (in_lower cj _).mono ?_); rintro e w' ⟨rfl, rfl⟩) | (go_at_call 33; (with_reducible refine (in_digit cj _).mono ?_); rintro e w' ⟨rfl, rfl⟩) | (go_at_call 33; (with_reducible refine (in_upper cj _).mono ?_); rintro e w' ⟨rfl, rfl⟩) | fail)
            refine (HVP.out _).mono ?_
            rintro e w1 ⟨rfl, he1⟩
            rw [HVN.out]
            simp only [Option.getD_some, Option.isSome_some, encV]
            have hltw : wr.heap.size < w1.heap.size := by have h := he1.le; simp at h; omega
            have hltn : ¬ wr.heap.size = w1.heap.size := by omega
            have hltm : ¬ w1.heap.size = wr.heap.size := by omega
            obtain ⟨hcx, hfx⟩ := cells_of (blk_ext (blk_new wr _) he1)
            have k0 := hcx 0
            have k1 := hcx 1
            have k2 := hcx 2
            have k3 := hcx 3
            have k4 := hcx 4
            have k5 := hcx 5
            have k6 := hcx 6
            have k7 := hcx 7
            simp at k0 k1 k2 k3 k4 k5 k6 k7
            have f0 := hfx 0
            have f4 := hfx 4
            have f5 := hfx 5
            have f6 := hfx 6
            have f7 := hfx 7
            have HE1 := Lib.hid he1
            clear hcx hfx he1
            go_upto_region 55 with (fail)
            refine (?_ : ∀ W, W = _ → Code.wp _ _ _ _ W) _ rfl
            intro W hW
            have HEV : Hid (Ext wr W) := by
              show Ext _ _
              rw [hW]
              have h := (Ext.refl wr).alloc _ |>.trans HE1.out
              (repeat (first | with_reducible exact Ext.refl _ | with_reducible assumption | (with_reducible refine Ext.setCell ?_ ?_ _; rotate_left; (first | exact Nat.le_refl _ | (simp; try omega))) | with_reducible apply Ext.alloc | with_reducible apply Ext.drew | with_reducible apply Ext.drewN' | (with_reducible refine Ext.trans ?_ (by with_reducible assumption))))
            have HOW := Lib.hid (own_ext HO HEV.out)
            have HEW := Lib.hid (he.trans HEV.out)
            have j0 : W.cell? ⟨wr.heap.size, 0, none⟩ = some (.int .i64 1) := by rw [hW]; go_simp
            have j1 : W.cell? ⟨wr.heap.size, 1, none⟩ = some (.int .i64 (k : Int)) := by rw [hW]; go_simp
            have j2 : W.cell? ⟨wr.heap.size, 2, none⟩ = some (.string ⟨#[]⟩) := by rw [hW]; go_simp
            have j3 : W.cell? ⟨wr.heap.size, 3, none⟩ = some (.int .i64 0) := by rw [hW]; go_simp
            have j4 : W.cell? ⟨wr.heap.size, 4, none⟩ = some (.int .i64 v.kind) := by rw [hW]; go_simp
            have j5 : W.cell? ⟨wr.heap.size, 5, none⟩ = some (.int .i64 v.n) := by rw [hW]; go_simp
            have j6 : W.cell? ⟨wr.heap.size, 6, none⟩ = some (.string (bs v.s)) := by rw [hW]; go_simp
            have j7 : W.cell? ⟨wr.heap.size, 7, none⟩ = some (.int .u64 (v.f : Int)) := by rw [hW]; go_simp
            clear hW k0 k1 k2 k3 k4 k5 k6 k7 f0 f4 f5 f6 f7 HEV
            go_wp2_with (first
              | (at_builtin; refine app_own2 (w0 := w) (W := W) (e := 38) (news := [_, _, _, _, _, _, _, _]) _ (by rfl) (by rfl) _ _ 23 (.agg #[.int .i64 0, .int .i64 0, .string ⟨#[]⟩, .int .i64 0, .int .i64 0, .int .i64 0, .string ⟨#[]⟩, .int .u64 0]) 8 80 (by rfl) (by kernel_rfl) (by kernel_rfl) (by decide) (by decide) (by decide) u5 ts.length 1 W.heap.size rfl _ (by rfl) (by rfl) (by rfl) (by simp [Value.oneCell']) HOW.out HEW.out (by omega) ?_; rotate_left; intro v4 w4 ho4 he4; have HO4 := Lib.hid ho4; clear ho4)
              | fail)
            exact HC.out ⟨1, 0, [], 0, v⟩ X.length _ v4 w4 HWT.out (by have := HXL.out; omega) (by have := HXL.out; omega) HO4.out he4
    · have HTW : Hid ((c :: t).takeWhile wordy = (c :: t).take (j - k)) := scan_end (by rw [← HDK.out, List.length_drop, size_L]; omega) hall.out
      obtain ⟨X, hX⟩ : ∃ X, (c :: t).takeWhile wordy = X := ⟨_, rfl⟩
      have hex : s.extract k j = bs X := by rw [take_drop_bs, HDK.out, ← hX, HTW.out]
      have hXl : X.length = j - k := by rw [← hX, HTW.out, List.length_take, ← HDK.out, List.length_drop, size_L]; omega
      have HLT : Hid (WordTok (c :: t) X) := ⟨by rw [← hX]; exact lexTok_word HCL.out⟩
      have HXL := Lib.hid hXl
      have hXs : (bs X).size ≤ 1000000 := by rw [size_bs]; omega
      clear hXl hX HTW
      by_cases hw : X ∈ words
      · have HWT := Lib.hid (HLT.out.word hw)
        have hw4 := words_cases hw
        clear hw
        rcases hw4 with rfl | rfl | rfl | rfl
        · have w1 := str_eq (s := bs [97, 110, 100]) (l := [97, 110, 100]) rfl
          go_wp2_with (first
            | (at_builtin; refine app_own2 (w0 := w) (W := wr.alloc _) (e := 38) (news := [_, _, _, _, _, _, _, _]) _ (by rfl) (by rfl) _ _ 23 (.agg #[.int .i64 0, .int .i64 0, .string ⟨#[]⟩, .int .i64 0, .int .i64 0, .int .i64 0, .string ⟨#[]⟩, .int .u64 0]) 8 80 (by rfl) (by kernel_rfl) (by kernel_rfl) (by decide) (by decide) (by decide) u5 ts.length 1 (wr.heap.size + 1) (by simp) _ (by rfl) (by rfl) (by rfl) (by simp [Value.oneCell']) (own_ext HO ((Ext.refl _).alloc _)) (he.alloc _) (by omega) ?_; rotate_left; intro v4 w4 ho4 he4; have HO4 := Lib.hid ho4; clear ho4)
            | fail)
          exact HC.out ⟨3, 0, [97, 110, 100], 0, vzero⟩ 3 _ v4 w4 HWT.out (by have := HXL.out; simp at this; omega) (by have := HXL.out; simp at this; omega) HO4.out he4
        · have w1 := str_ne (s := bs [111, 114]) (l := [97, 110, 100]) (by rw [L_bs]; decide)
          have w2 := str_eq (s := bs [111, 114]) (l := [111, 114]) rfl
          go_wp2_with (first
            | (at_builtin; refine app_own2 (w0 := w) (W := wr.alloc _) (e := 38) (news := [_, _, _, _, _, _, _, _]) _ (by rfl) (by rfl) _ _ 23 (.agg #[.int .i64 0, .int .i64 0, .string ⟨#[]⟩, .int .i64 0, .int .i64 0, .int .i64 0, .string ⟨#[]⟩, .int .u64 0]) 8 80 (by rfl) (by kernel_rfl) (by kernel_rfl) (by decide) (by decide) (by decide) u5 ts.length 1 (wr.heap.size + 1) (by simp) _ (by rfl) (by rfl) (by rfl) (by simp [Value.oneCell']) (own_ext HO ((Ext.refl _).alloc _)) (he.alloc _) (by omega) ?_; rotate_left; intro v4 w4 ho4 he4; have HO4 := Lib.hid ho4; clear ho4)
            | fail)
          exact HC.out ⟨3, 0, [111, 114], 0, vzero⟩ 2 _ v4 w4 HWT.out (by have := HXL.out; simp at this; omega) (by have := HXL.out; simp at this; omega) HO4.out he4
        · have w1 := str_ne (s := bs [110, 111, 116]) (l := [97, 110, 100]) (by rw [L_bs]; decide)
          have w2 := str_ne (s := bs [110, 111, 116]) (l := [111, 114]) (by rw [L_bs]; decide)
          have w3 := str_eq (s := bs [110, 111, 116]) (l := [110, 111, 116]) rfl
          go_wp2_with (first
            | (at_builtin; refine app_own2 (w0 := w) (W := wr.alloc _) (e := 38) (news := [_, _, _, _, _, _, _, _]) _ (by rfl) (by rfl) _ _ 23 (.agg #[.int .i64 0, .int .i64 0, .string ⟨#[]⟩, .int .i64 0, .int .i64 0, .int .i64 0, .string ⟨#[]⟩, .int .u64 0]) 8 80 (by rfl) (by kernel_rfl) (by kernel_rfl) (by decide) (by decide) (by decide) u5 ts.length 1 (wr.heap.size + 1) (by simp) _ (by rfl) (by rfl) (by rfl) (by simp [Value.oneCell']) (own_ext HO ((Ext.refl _).alloc _)) (he.alloc _) (by omega) ?_; rotate_left; intro v4 w4 ho4 he4; have HO4 := Lib.hid ho4; clear ho4)
            | fail)
          exact HC.out ⟨3, 0, [110, 111, 116], 0, vzero⟩ 3 _ v4 w4 HWT.out (by have := HXL.out; simp at this; omega) (by have := HXL.out; simp at this; omega) HO4.out he4
        · have w1 := str_ne (s := bs [105, 115]) (l := [97, 110, 100]) (by rw [L_bs]; decide)
          have w2 := str_ne (s := bs [105, 115]) (l := [111, 114]) (by rw [L_bs]; decide)
          have w3 := str_ne (s := bs [105, 115]) (l := [110, 111, 116]) (by rw [L_bs]; decide)
          have w4 := str_eq (s := bs [105, 115]) (l := [105, 115]) rfl
          go_wp2_with (first
            | (at_builtin; refine app_own2 (w0 := w) (W := wr.alloc _) (e := 38) (news := [_, _, _, _, _, _, _, _]) _ (by rfl) (by rfl) _ _ 23 (.agg #[.int .i64 0, .int .i64 0, .string ⟨#[]⟩, .int .i64 0, .int .i64 0, .int .i64 0, .string ⟨#[]⟩, .int .u64 0]) 8 80 (by rfl) (by kernel_rfl) (by kernel_rfl) (by decide) (by decide) (by decide) u5 ts.length 1 (wr.heap.size + 1) (by simp) _ (by rfl) (by rfl) (by rfl) (by simp [Value.oneCell']) (own_ext HO ((Ext.refl _).alloc _)) (he.alloc _) (by omega) ?_; rotate_left; intro v4 w4 ho4 he4; have HO4 := Lib.hid ho4; clear ho4)
            | fail)
          exact HC.out ⟨3, 0, [105, 115], 0, vzero⟩ 2 _ v4 _ HWT.out (by have := HXL.out; simp at this; omega) (by have := HXL.out; simp at this; omega) HO4.out he4
      · obtain ⟨n1, n2, n3, n4⟩ := words_no hw
        have m1 := str_ne (s := bs X) (l := [97, 110, 100]) (by rw [L_bs]; exact n1)
        have m2 := str_ne (s := bs X) (l := [111, 114]) (by rw [L_bs]; exact n2)
        have m3 := str_ne (s := bs X) (l := [110, 111, 116]) (by rw [L_bs]; exact n3)
        have m4 := str_ne (s := bs X) (l := [105, 115]) (by rw [L_bs]; exact n4)
        have HVP := Lib.hid (rvParse_any (bs X) hXs)
        rw [L_bs] at HVP
        cases hv : vparse X with
        | none =>
          have HWT := Lib.hid (HLT.out.no hw hv)
          have HVN := Lib.hid hv
          clear n1 n2 n3 n4 hw hv
          go_wp2_with (first
            | (go_at_call 34; refine (HVP.out _).mono ?_; rintro e w1 ⟨rfl, he1⟩; rw [HVN.out]; simp only [Option.getD_none, Option.isSome_none, encV, vzero]; have HE1 := Lib.hid ((he.alloc _).trans he1))
            | fail)
          exact HR.out _ HWT.out (by have h := HE1.out; (repeat (first | with_reducible exact Ext.refl _ | with_reducible assumption | (with_reducible refine Ext.setCell ?_ ?_ _; rotate_left; (first | exact Nat.le_refl _ | (simp; try omega))) | with_reducible apply Ext.alloc | with_reducible apply Ext.drew | with_reducible apply Ext.drewN' | (with_reducible refine Ext.trans ?_ (by with_reducible assumption)))))
        | some v =>
          have HWT := Lib.hid (HLT.out.lit hw hv)
          have HVN := Lib.hid hv
          have hne : X ≠ [] := by rintro rfl; rw [vparse_nil] at hv; cases hv
          have m5 := str_ne (s := bs X) (l := []) (by rw [L_bs]; exact hne)
          have m6 : (bs X).toList.isEmpty = false := by rw [toList_L, L_bs]; simpa using hne
          clear n1 n2 n3 n4 hw hv hne
          go_wp2_with (first
            | fail)
          refine (HVP.out _).mono ?_
          rintro e w1 ⟨rfl, he1⟩
          rw [HVN.out]
          simp only [Option.getD_some, Option.isSome_some, encV]
          have hltw : wr.heap.size < w1.heap.size := by have h := he1.le; simp at h; omega
          have hltn : ¬ wr.heap.size = w1.heap.size := by omega
          have hltm : ¬ w1.heap.size = wr.heap.size := by omega
          obtain ⟨hcx, hfx⟩ := cells_of (blk_ext (blk_new wr _) he1)
          have k0 := hcx 0
          have k1 := hcx 1
          have k2 := hcx 2
          have k3 := hcx 3
          have k4 := hcx 4
          have k5 := hcx 5
          have k6 := hcx 6
          have k7 := hcx 7
          simp at k0 k1 k2 k3 k4 k5 k6 k7
          have f0 := hfx 0
          have f4 := hfx 4
          have f5 := hfx 5
          have f6 := hfx 6
          have f7 := hfx 7
          have HE1 := Lib.hid he1
          clear hcx hfx he1
          go_upto_region 55 with (fail)
          refine (?_ : ∀ W, W = _ → Code.wp _ _ _ _ W) _ rfl
          intro W hW
          have HEV : Hid (Ext wr W) := by
            show Ext _ _
            rw [hW]
            have h := (Ext.refl wr).alloc _ |>.trans HE1.out
            (repeat (first | with_reducible exact Ext.refl _ | with_reducible assumption | (with_reducible refine Ext.setCell ?_ ?_ _; rotate_left; (first | exact Nat.le_refl _ | (simp; try omega))) | with_reducible apply Ext.alloc | with_reducible apply Ext.drew | with_reducible apply Ext.drewN' | (with_reducible refine Ext.trans ?_ (by with_reducible assumption))))
          have HOW := Lib.hid (own_ext HO HEV.out)
          have HEW := Lib.hid (he.trans HEV.out)
          have j0 : W.cell? ⟨wr.heap.size, 0, none⟩ = some (.int .i64 1) := by rw [hW]; go_simp
          have j1 : W.cell? ⟨wr.heap.size, 1, none⟩ = some (.int .i64 (k : Int)) := by rw [hW]; go_simp
          have j2 : W.cell? ⟨wr.heap.size, 2, none⟩ = some (.string ⟨#[]⟩) := by rw [hW]; go_simp
          have j3 : W.cell? ⟨wr.heap.size, 3, none⟩ = some (.int .i64 0) := by rw [hW]; go_simp
          have j4 : W.cell? ⟨wr.heap.size, 4, none⟩ = some (.int .i64 v.kind) := by rw [hW]; go_simp
          have j5 : W.cell? ⟨wr.heap.size, 5, none⟩ = some (.int .i64 v.n) := by rw [hW]; go_simp
          have j6 : W.cell? ⟨wr.heap.size, 6, none⟩ = some (.string (bs v.s)) := by rw [hW]; go_simp
          have j7 : W.cell? ⟨wr.heap.size, 7, none⟩ = some (.int .u64 (v.f : Int)) := by rw [hW]; go_simp
          clear hW k0 k1 k2 k3 k4 k5 k6 k7 f0 f4 f5 f6 f7 HEV
          go_wp2_with (first
            | (at_builtin; refine app_own2 (w0 := w) (W := W) (e := 38) (news := [_, _, _, _, _, _, _, _]) _ (by rfl) (by rfl) _ _ 23 (.agg #[.int .i64 0, .int .i64 0, .string ⟨#[]⟩, .int .i64 0, .int .i64 0, .int .i64 0, .string ⟨#[]⟩, .int .u64 0]) 8 80 (by rfl) (by kernel_rfl) (by kernel_rfl) (by decide) (by decide) (by decide) u5 ts.length 1 W.heap.size rfl _ (by rfl) (by rfl) (by rfl) (by simp [Value.oneCell']) HOW.out HEW.out (by omega) ?_; rotate_left; intro v4 w4 ho4 he4; have HO4 := Lib.hid ho4; clear ho4)
            | fail)
          exact HC.out ⟨1, 0, [], 0, v⟩ X.length _ v4 w4 HWT.out (by have := HXL.out; omega) (by have := HXL.out; omega) HO4.out he4
end Go.Proofs.YtcnnpedmccjdkaaGreatDoor
