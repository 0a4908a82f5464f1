/- The reference's Lex: comparisons. -/
import Derived.Test.YtcnnpedmccjdkaaGreatDoorRLex

set_option linter.unusedSimpArgs false
set_option linter.unusedVariables false
namespace Go.Proofs.YtcnnpedmccjdkaaGreatDoor
open Go.RowKit
set_option maxRecDepth 1000000 in
set_option maxHeartbeats 4000000 in
theorem rl_g2 (s : ByteArray) (w wr : World) (k : Nat) (c : UInt8) (t : B) (ts : List Tok) (Q : Exit → Act → World → Prop) (hbig : ¬ 2000 < s.size) (hlt : k < s.size) (hc : s[k] = c) (ht : (L s).drop (k + 1) = t) (htl : ts.length ≤ k)
    (u2 u3 u4 u5 u7 u8 u9 u10 u11 u12 u13 u17 u18 u19 u20 u21 u22 u23 u24 u25 u26 u27 u28 u29 u30 u31 u32 u33 u34 u35 u36 u37 u38 u39 u40 u41 u42 u43 u44 u45 u46 u47 u48 u49 u50 u51 u52 u53 u54 u55 u56 u57 u58 u59 u60 u61 u62 u63 u64 u65 u66 u67 u68 u69 u70 u71 u72 u73 u74 u75 u76 u77 u78 u79 u80 u81 u82 u83 u84 u85 u86 u87 u88 u89 u90 u91 u92 u93 u94 u95 u96 u97 u98 u99 u100 u101 u102 u103 u104 u105 u106 u107 u108 u109 u110 u111 u112 u113 u114 u115 u116 u117 u118 u119 u120 u121 u122 u123 u124 u125 u126 u127 u128 u129 u130 u131 u132 u133 u134 u135 u136 u137 u138 u139 u140 u141 u142 u143 u144 u145 u146 u147 u148 u149 u150 u151 u152 u153 u154 u155 u156 u157 u158 u159 u160 u161 u162 u163 u164 u165 u166 u167 u168 u169 u170 u171 u172 u173 u174 u175 u176 u177 u178 u179 u180 u181 u182 u183 u184 u185 u186 u187 u188 : Value) (HO : Hid (wr.ownsRow w.heap.size 38 8 u5 ts.length (toksCells ts))) (he : Ext w wr)
    (HC : Hid (∀ (x : Tok) (n : Nat) (i : Int) (v5 : Value) (w4 : World) {u2 u3 u4 u7 u8 u9 u10 u11 u12 u13 u17 u18 u19 u20 u21 u22 u23 u24 u25 u26 u27 u28 u29 u30 u31 u32 u33 u34 u35 u36 u37 u38 u39 u40 u41 u42 u43 u44 u45 u46 u47 u48 u49 u50 u51 u52 u53 u54 u55 u56 u57 u58 u59 u60 u61 u62 u63 u64 u65 u66 u67 u68 u69 u70 u71 u72 u73 u74 u75 u76 u77 u78 u79 u80 u81 u82 u83 u84 u85 u86 u87 u88 u89 u90 u91 u92 u93 u94 u95 u96 u97 u98 u99 u100 u101 u102 u103 u104 u105 u106 u107 u108 u109 u110 u111 u112 u113 u114 u115 u116 u117 u118 u119 u120 u121 u122 u123 u124 u125 u126 u127 u128 u129 u130 u131 u132 u133 u134 u135 u136 u137 u138 u139 u140 u141 u142 u143 u144 u145 u146 u147 u148 u149 u150 u151 u152 u153 u154 u155 u156 u157 u158 u159 u160 u161 u162 u163 u164 u165 u166 u167 u168 u169 u170 u171 u172 u173 u174 u175 u176 u177 u178 u179 u180 u181 u182 u183 u184 u185 u186 u187 u188 : Value}, lexTok (c :: t) = some (x, n) → i = ((k + n : Nat) : Int) → k + n ≤ s.size → w4.ownsRow w.heap.size 38 8 v5 (ts.length + 1) (toksCells ts ++ tokCells { x with at_ := (k : Int) }) → Ext w w4 →
      Q .normal ⟨#[.string s, undef, u2, u3, u4, v5, .int .i64 i, u7, u8, u9, u10, u11, u12, u13, .string s, .int .i64 (s.size : Int), .bool (decide (2000 < (s.size : Int))), u17, u18, u19, u20, u21, u22, u23, u24, u25, u26, u27, u28, u29, u30, u31, u32, u33, u34, u35, u36, u37, u38, u39, u40, u41, u42, u43, u44, u45, u46, u47, u48, u49, u50, u51, u52, u53, u54, u55, u56, u57, u58, u59, u60, u61, u62, u63, u64, u65, u66, u67, u68, u69, u70, u71, u72, u73, u74, u75, u76, u77, u78, u79, u80, u81, u82, u83, u84, u85, u86, u87, u88, u89, u90, u91, u92, u93, u94, u95, u96, u97, u98, u99, u100, u101, u102, u103, u104, u105, u106, u107, u108, u109, u110, u111, u112, u113, u114, u115, u116, u117, u118, u119, u120, u121, u122, u123, u124, u125, u126, u127, u128, u129, u130, u131, u132, u133, u134, u135, u136, u137, u138, u139, u140, u141, u142, u143, u144, u145, u146, u147, u148, u149, u150, u151, u152, u153, u154, u155, u156, u157, u158, u159, u160, u161, u162, u163, u164, u165, u166, u167, u168, u169, u170, u171, u172, u173, u174, u175, u176, u177, u178, u179, u180, u181, u182, u183, u184, u185, u186, u187, u188, undef], []⟩ w4))
    (HR : Hid (∀ (w4 : World) {u6 u5 u7 u8 u9 u10 u11 u12 u13 u17 u18 u19 u20 u21 u22 u23 u24 u25 u26 u27 u28 u29 u30 u31 u32 u33 u34 u35 u36 u37 u38 u39 u40 u41 u42 u43 u44 u45 u46 u47 u48 u49 u50 u51 u52 u53 u54 u55 u56 u57 u58 u59 u60 u61 u62 u63 u64 u65 u66 u67 u68 u69 u70 u71 u72 u73 u74 u75 u76 u77 u78 u79 u80 u81 u82 u83 u84 u85 u86 u87 u88 u89 u90 u91 u92 u93 u94 u95 u96 u97 u98 u99 u100 u101 u102 u103 u104 u105 u106 u107 u108 u109 u110 u111 u112 u113 u114 u115 u116 u117 u118 u119 u120 u121 u122 u123 u124 u125 u126 u127 u128 u129 u130 u131 u132 u133 u134 u135 u136 u137 u138 u139 u140 u141 u142 u143 u144 u145 u146 u147 u148 u149 u150 u151 u152 u153 u154 u155 u156 u157 u158 u159 u160 u161 u162 u163 u164 u165 u166 u167 u168 u169 u170 u171 u172 u173 u174 u175 u176 u177 u178 u179 u180 u181 u182 u183 u184 u185 u186 u187 u188 : Value}, lexTok (c :: t) = none → Ext w w4 → Q .ret ⟨#[.string s, undef, .slice none 0 0, .int .i64 (k : Int), .bool false, u5, u6, u7, u8, u9, u10, u11, u12, u13, .string s, .int .i64 (s.size : Int), .bool (decide (2000 < (s.size : Int))), u17, u18, u19, u20, u21, u22, u23, u24, u25, u26, u27, u28, u29, u30, u31, u32, u33, u34, u35, u36, u37, u38, u39, u40, u41, u42, u43, u44, u45, u46, u47, u48, u49, u50, u51, u52, u53, u54, u55, u56, u57, u58, u59, u60, u61, u62, u63, u64, u65, u66, u67, u68, u69, u70, u71, u72, u73, u74, u75, u76, u77, u78, u79, u80, u81, u82, u83, u84, u85, u86, u87, u88, u89, u90, u91, u92, u93, u94, u95, u96, u97, u98, u99, u100, u101, u102, u103, u104, u105, u106, u107, u108, u109, u110, u111, u112, u113, u114, u115, u116, u117, u118, u119, u120, u121, u122, u123, u124, u125, u126, u127, u128, u129, u130, u131, u132, u133, u134, u135, u136, u137, u138, u139, u140, u141, u142, u143, u144, u145, u146, u147, u148, u149, u150, u151, u152, u153, u154, u155, u156, u157, u158, u159, u160, u161, u162, u163, u164, u165, u166, u167, u168, u169, u170, u171, u172, u173, u174, u175, u176, u177, u178, u179, u180, u181, u182, u183, u184, u185, u186, u187, u188, undef], []⟩ w4)) (hcl : c = 33) :
    Code.wp Tryz.prog rlBody Q ⟨#[.string s, undef, u2, u3, u4, u5, .int .i64 (k : Int), u7, u8, u9, u10, u11, u12, u13, .string s, .int .i64 (s.size : Int), .bool (decide (2000 < (s.size : Int))), u17, u18, u19, u20, u21, u22, u23, u24, u25, u26, u27, u28, u29, u30, u31, u32, u33, u34, u35, u36, u37, u38, u39, u40, u41, u42, u43, u44, u45, u46, u47, u48, u49, u50, u51, u52, u53, u54, u55, u56, u57, u58, u59, u60, u61, u62, u63, u64, u65, u66, u67, u68, u69, u70, u71, u72, u73, u74, u75, u76, u77, u78, u79, u80, u81, u82, u83, u84, u85, u86, u87, u88, u89, u90, u91, u92, u93, u94, u95, u96, u97, u98, u99, u100, u101, u102, u103, u104, u105, u106, u107, u108, u109, u110, u111, u112, u113, u114, u115, u116, u117, u118, u119, u120, u121, u122, u123, u124, u125, u126, u127, u128, u129, u130, u131, u132, u133, u134, u135, u136, u137, u138, u139, u140, u141, u142, u143, u144, u145, u146, u147, u148, u149, u150, u151, u152, u153, u154, u155, u156, u157, u158, u159, u160, u161, u162, u163, u164, u165, u166, u167, u168, u169, u170, u171, u172, u173, u174, u175, u176, u177, u178, u179, u180, u181, u182, u183, u184, u185, u186, u187, u188, undef], []⟩ wr := by
  conv => arg 2; whnf
  have hb1 : (0 : Int) ≤ (k : Int) := by omega
  have hb2 : (k : Int) < (s.size : Int) := by omega
  have hbig2 : (s.size : Int) ≤ 2000 := by omega
  by_cases c33 : c = 33
  · subst c33
    by_cases hn1 : k + 1 < s.size
    · have hb3 : (0 : Int) ≤ (k : Int) + 1 := by omega
      have hb4 : (k : Int) + 1 < (s.size : Int) := by omega
      have hd1 := drop_L s (k + 1) hn1
      rw [ht] at hd1
      obtain ⟨c1, hc1⟩ : ∃ c1, s[k + 1] = c1 := ⟨_, rfl⟩
      rw [hc1] at hd1
      have HD := Lib.hid hd1
      clear hd1
      by_cases hq : c1 = 61
      · subst hq
        go_wp2_with (first
          | (at_builtin; refine app_own2 (w0 := w) (W := wr.alloc _) (e := 38) (news := [_, _, _, _, _, _, _, _]) _ (by rfl) (by rfl) _ _ 23 (.agg #[.int .i64 0, .int .i64 0, .string ⟨#[]⟩, .int .i64 0, .int .i64 0, .int .i64 0, .string ⟨#[]⟩, .int .u64 0]) 8 80 (by rfl) (by kernel_rfl) (by kernel_rfl) (by decide) (by decide) (by decide) u5 ts.length 1 (wr.heap.size + 1) (by simp) _ (by rfl) (by rfl) (by rfl) (by simp [Value.oneCell']) (own_ext HO ((Ext.refl _).alloc _)) (he.alloc _) (by omega) ?_; rotate_left; intro v4 w4 ho4 he4; have HO4 := Lib.hid ho4; clear ho4)
          | fail)
        exact HC.out ⟨2, 0, [], 1, vzero⟩ 2 _ v4 w4 (by rw [HD.out]; rfl) (by omega) (by omega) HO4.out he4
      · have e61b := u8_ne (c := c1) (d := 61) (n := 61) rfl hq
        have HQ := Lib.hid hq
        clear hq
        go_wp2
        exact HR.out _ (by rw [HD.out]; exact lexTok_bang HQ.out) (he.alloc _)
    · have HD : Hid (t = []) := by show _ = _; rw [← ht, List.drop_of_length_le (by rw [size_L]; omega)]
      go_wp2
      exact HR.out _ (by rw [HD.out]; rfl) (he.alloc _)
  have e33 := u8_ne (c := c) (d := 33) (n := 33) rfl c33
  exact absurd hcl c33
set_option maxRecDepth 1000000 in
set_option maxHeartbeats 4000000 in
theorem rl_g3 (s : ByteArray) (w wr : World) (k : Nat) (c : UInt8) (t : B) (ts : List Tok) (Q : Exit → Act → World → Prop) (hbig : ¬ 2000 < s.size) (hlt : k < s.size) (hc : s[k] = c) (ht : (L s).drop (k + 1) = t) (htl : ts.length ≤ k)
    (u2 u3 u4 u5 u7 u8 u9 u10 u11 u12 u13 u17 u18 u19 u20 u21 u22 u23 u24 u25 u26 u27 u28 u29 u30 u31 u32 u33 u34 u35 u36 u37 u38 u39 u40 u41 u42 u43 u44 u45 u46 u47 u48 u49 u50 u51 u52 u53 u54 u55 u56 u57 u58 u59 u60 u61 u62 u63 u64 u65 u66 u67 u68 u69 u70 u71 u72 u73 u74 u75 u76 u77 u78 u79 u80 u81 u82 u83 u84 u85 u86 u87 u88 u89 u90 u91 u92 u93 u94 u95 u96 u97 u98 u99 u100 u101 u102 u103 u104 u105 u106 u107 u108 u109 u110 u111 u112 u113 u114 u115 u116 u117 u118 u119 u120 u121 u122 u123 u124 u125 u126 u127 u128 u129 u130 u131 u132 u133 u134 u135 u136 u137 u138 u139 u140 u141 u142 u143 u144 u145 u146 u147 u148 u149 u150 u151 u152 u153 u154 u155 u156 u157 u158 u159 u160 u161 u162 u163 u164 u165 u166 u167 u168 u169 u170 u171 u172 u173 u174 u175 u176 u177 u178 u179 u180 u181 u182 u183 u184 u185 u186 u187 u188 : Value) (HO : Hid (wr.ownsRow w.heap.size 38 8 u5 ts.length (toksCells ts))) (he : Ext w wr)
    (HC : Hid (∀ (x : Tok) (n : Nat) (i : Int) (v5 : Value) (w4 : World) {u2 u3 u4 u7 u8 u9 u10 u11 u12 u13 u17 u18 u19 u20 u21 u22 u23 u24 u25 u26 u27 u28 u29 u30 u31 u32 u33 u34 u35 u36 u37 u38 u39 u40 u41 u42 u43 u44 u45 u46 u47 u48 u49 u50 u51 u52 u53 u54 u55 u56 u57 u58 u59 u60 u61 u62 u63 u64 u65 u66 u67 u68 u69 u70 u71 u72 u73 u74 u75 u76 u77 u78 u79 u80 u81 u82 u83 u84 u85 u86 u87 u88 u89 u90 u91 u92 u93 u94 u95 u96 u97 u98 u99 u100 u101 u102 u103 u104 u105 u106 u107 u108 u109 u110 u111 u112 u113 u114 u115 u116 u117 u118 u119 u120 u121 u122 u123 u124 u125 u126 u127 u128 u129 u130 u131 u132 u133 u134 u135 u136 u137 u138 u139 u140 u141 u142 u143 u144 u145 u146 u147 u148 u149 u150 u151 u152 u153 u154 u155 u156 u157 u158 u159 u160 u161 u162 u163 u164 u165 u166 u167 u168 u169 u170 u171 u172 u173 u174 u175 u176 u177 u178 u179 u180 u181 u182 u183 u184 u185 u186 u187 u188 : Value}, lexTok (c :: t) = some (x, n) → i = ((k + n : Nat) : Int) → k + n ≤ s.size → w4.ownsRow w.heap.size 38 8 v5 (ts.length + 1) (toksCells ts ++ tokCells { x with at_ := (k : Int) }) → Ext w w4 →
      Q .normal ⟨#[.string s, undef, u2, u3, u4, v5, .int .i64 i, u7, u8, u9, u10, u11, u12, u13, .string s, .int .i64 (s.size : Int), .bool (decide (2000 < (s.size : Int))), u17, u18, u19, u20, u21, u22, u23, u24, u25, u26, u27, u28, u29, u30, u31, u32, u33, u34, u35, u36, u37, u38, u39, u40, u41, u42, u43, u44, u45, u46, u47, u48, u49, u50, u51, u52, u53, u54, u55, u56, u57, u58, u59, u60, u61, u62, u63, u64, u65, u66, u67, u68, u69, u70, u71, u72, u73, u74, u75, u76, u77, u78, u79, u80, u81, u82, u83, u84, u85, u86, u87, u88, u89, u90, u91, u92, u93, u94, u95, u96, u97, u98, u99, u100, u101, u102, u103, u104, u105, u106, u107, u108, u109, u110, u111, u112, u113, u114, u115, u116, u117, u118, u119, u120, u121, u122, u123, u124, u125, u126, u127, u128, u129, u130, u131, u132, u133, u134, u135, u136, u137, u138, u139, u140, u141, u142, u143, u144, u145, u146, u147, u148, u149, u150, u151, u152, u153, u154, u155, u156, u157, u158, u159, u160, u161, u162, u163, u164, u165, u166, u167, u168, u169, u170, u171, u172, u173, u174, u175, u176, u177, u178, u179, u180, u181, u182, u183, u184, u185, u186, u187, u188, undef], []⟩ w4))
    (HR : Hid (∀ (w4 : World) {u6 u5 u7 u8 u9 u10 u11 u12 u13 u17 u18 u19 u20 u21 u22 u23 u24 u25 u26 u27 u28 u29 u30 u31 u32 u33 u34 u35 u36 u37 u38 u39 u40 u41 u42 u43 u44 u45 u46 u47 u48 u49 u50 u51 u52 u53 u54 u55 u56 u57 u58 u59 u60 u61 u62 u63 u64 u65 u66 u67 u68 u69 u70 u71 u72 u73 u74 u75 u76 u77 u78 u79 u80 u81 u82 u83 u84 u85 u86 u87 u88 u89 u90 u91 u92 u93 u94 u95 u96 u97 u98 u99 u100 u101 u102 u103 u104 u105 u106 u107 u108 u109 u110 u111 u112 u113 u114 u115 u116 u117 u118 u119 u120 u121 u122 u123 u124 u125 u126 u127 u128 u129 u130 u131 u132 u133 u134 u135 u136 u137 u138 u139 u140 u141 u142 u143 u144 u145 u146 u147 u148 u149 u150 u151 u152 u153 u154 u155 u156 u157 u158 u159 u160 u161 u162 u163 u164 u165 u166 u167 u168 u169 u170 u171 u172 u173 u174 u175 u176 u177 u178 u179 u180 u181 u182 u183 u184 u185 u186 u187 u188 : Value}, lexTok (c :: t) = none → Ext w w4 → Q .ret ⟨#[.string s, undef, .slice none 0 0, .int .i64 (k : Int), .bool false, u5, u6, u7, u8, u9, u10, u11, u12, u13, .string s, .int .i64 (s.size : Int), .bool (decide (2000 < (s.size : Int))), u17, u18, u19, u20, u21, u22, u23, u24, u25, u26, u27, u28, u29, u30, u31, u32, u33, u34, u35, u36, u37, u38, u39, u40, u41, u42, u43, u44, u45, u46, u47, u48, u49, u50, u51, u52, u53, u54, u55, u56, u57, u58, u59, u60, u61, u62, u63, u64, u65, u66, u67, u68, u69, u70, u71, u72, u73, u74, u75, u76, u77, u78, u79, u80, u81, u82, u83, u84, u85, u86, u87, u88, u89, u90, u91, u92, u93, u94, u95, u96, u97, u98, u99, u100, u101, u102, u103, u104, u105, u106, u107, u108, u109, u110, u111, u112, u113, u114, u115, u116, u117, u118, u119, u120, u121, u122, u123, u124, u125, u126, u127, u128, u129, u130, u131, u132, u133, u134, u135, u136, u137, u138, u139, u140, u141, u142, u143, u144, u145, u146, u147, u148, u149, u150, u151, u152, u153, u154, u155, u156, u157, u158, u159, u160, u161, u162, u163, u164, u165, u166, u167, u168, u169, u170, u171, u172, u173, u174, u175, u176, u177, u178, u179, u180, u181, u182, u183, u184, u185, u186, u187, u188, undef], []⟩ w4)) (hcl : c = 60 ∨ c = 62) :
    Code.wp Tryz.prog rlBody Q ⟨#[.string s, undef, u2, u3, u4, u5, .int .i64 (k : Int), u7, u8, u9, u10, u11, u12, u13, .string s, .int .i64 (s.size : Int), .bool (decide (2000 < (s.size : Int))), u17, u18, u19, u20, u21, u22, u23, u24, u25, u26, u27, u28, u29, u30, u31, u32, u33, u34, u35, u36, u37, u38, u39, u40, u41, u42, u43, u44, u45, u46, u47, u48, u49, u50, u51, u52, u53, u54, u55, u56, u57, u58, u59, u60, u61, u62, u63, u64, u65, u66, u67, u68, u69, u70, u71, u72, u73, u74, u75, u76, u77, u78, u79, u80, u81, u82, u83, u84, u85, u86, u87, u88, u89, u90, u91, u92, u93, u94, u95, u96, u97, u98, u99, u100, u101, u102, u103, u104, u105, u106, u107, u108, u109, u110, u111, u112, u113, u114, u115, u116, u117, u118, u119, u120, u121, u122, u123, u124, u125, u126, u127, u128, u129, u130, u131, u132, u133, u134, u135, u136, u137, u138, u139, u140, u141, u142, u143, u144, u145, u146, u147, u148, u149, u150, u151, u152, u153, u154, u155, u156, u157, u158, u159, u160, u161, u162, u163, u164, u165, u166, u167, u168, u169, u170, u171, u172, u173, u174, u175, u176, u177, u178, u179, u180, u181, u182, u183, u184, u185, u186, u187, u188, undef], []⟩ wr := by
  conv => arg 2; whnf
  have hb1 : (0 : Int) ≤ (k : Int) := by omega
  have hb2 : (k : Int) < (s.size : Int) := by omega
  have hbig2 : (s.size : Int) ≤ 2000 := by omega
  by_cases c60 : c = 60
  · subst c60
    by_cases hn1 : k + 1 < s.size
    · have hb3 : (0 : Int) ≤ (k : Int) + 1 := by omega
      have hb4 : (k : Int) + 1 < (s.size : Int) := by omega
      have hd1 := drop_L s (k + 1) hn1
      rw [ht] at hd1
      obtain ⟨c1, hc1⟩ : ∃ c1, s[k + 1] = c1 := ⟨_, rfl⟩
      rw [hc1] at hd1
      have HD := Lib.hid hd1
      clear hd1
      by_cases hq : c1 = 61
      · subst hq
        go_wp2_with (first
          | (at_builtin; refine app_own2 (w0 := w) (W := wr.alloc _) (e := 38) (news := [_, _, _, _, _, _, _, _]) _ (by rfl) (by rfl) _ _ 23 (.agg #[.int .i64 0, .int .i64 0, .string ⟨#[]⟩, .int .i64 0, .int .i64 0, .int .i64 0, .string ⟨#[]⟩, .int .u64 0]) 8 80 (by rfl) (by kernel_rfl) (by kernel_rfl) (by decide) (by decide) (by decide) u5 ts.length 1 (wr.heap.size + 1) (by simp) _ (by rfl) (by rfl) (by rfl) (by simp [Value.oneCell']) (own_ext HO ((Ext.refl _).alloc _)) (he.alloc _) (by omega) ?_; rotate_left; intro v4 w4 ho4 he4; have HO4 := Lib.hid ho4; clear ho4)
          | fail)
        exact HC.out ⟨2, 0, [], 3, vzero⟩ 2 _ v4 w4 (by rw [HD.out]; rfl) (by omega) (by omega) HO4.out he4
      · have e61b := u8_ne (c := c1) (d := 61) (n := 61) rfl hq
        have HQ := Lib.hid hq
        clear hq
        go_wp2_with (first
          | (at_builtin; refine app_own2 (w0 := w) (W := wr.alloc _) (e := 38) (news := [_, _, _, _, _, _, _, _]) _ (by rfl) (by rfl) _ _ 23 (.agg #[.int .i64 0, .int .i64 0, .string ⟨#[]⟩, .int .i64 0, .int .i64 0, .int .i64 0, .string ⟨#[]⟩, .int .u64 0]) 8 80 (by rfl) (by kernel_rfl) (by kernel_rfl) (by decide) (by decide) (by decide) u5 ts.length 1 (wr.heap.size + 1) (by simp) _ (by rfl) (by rfl) (by rfl) (by simp [Value.oneCell']) (own_ext HO ((Ext.refl _).alloc _)) (he.alloc _) (by omega) ?_; rotate_left; intro v4 w4 ho4 he4; have HO4 := Lib.hid ho4; clear ho4)
          | fail)
        exact HC.out ⟨2, 0, [], 2, vzero⟩ 1 _ v4 w4 (by rw [HD.out]; exact lexTok_60 HQ.out) (by omega) (by omega) HO4.out he4
    · have HD : Hid (t = []) := by show _ = _; rw [← ht, List.drop_of_length_le (by rw [size_L]; omega)]
      go_wp2_with (first
        | (at_builtin; refine app_own2 (w0 := w) (W := wr.alloc _) (e := 38) (news := [_, _, _, _, _, _, _, _]) _ (by rfl) (by rfl) _ _ 23 (.agg #[.int .i64 0, .int .i64 0, .string ⟨#[]⟩, .int .i64 0, .int .i64 0, .int .i64 0, .string ⟨#[]⟩, .int .u64 0]) 8 80 (by rfl) (by kernel_rfl) (by kernel_rfl) (by decide) (by decide) (by decide) u5 ts.length 1 (wr.heap.size + 1) (by simp) _ (by rfl) (by rfl) (by rfl) (by simp [Value.oneCell']) (own_ext HO ((Ext.refl _).alloc _)) (he.alloc _) (by omega) ?_; rotate_left; intro v4 w4 ho4 he4; have HO4 := Lib.hid ho4; clear ho4)
        | fail)
      exact HC.out ⟨2, 0, [], 2, vzero⟩ 1 _ v4 w4 (by rw [HD.out]; rfl) (by omega) (by omega) HO4.out he4
  have e60 := u8_ne (c := c) (d := 60) (n := 60) rfl c60
  by_cases c62 : c = 62
  · subst c62
    by_cases hn1 : k + 1 < s.size
    · have hb3 : (0 : Int) ≤ (k : Int) + 1 := by omega
      have hb4 : (k : Int) + 1 < (s.size : Int) := by omega
      have hd1 := drop_L s (k + 1) hn1
      rw [ht] at hd1
      obtain ⟨c1, hc1⟩ : ∃ c1, s[k + 1] = c1 := ⟨_, rfl⟩
      rw [hc1] at hd1
      have HD := Lib.hid hd1
      clear hd1
      by_cases hq : c1 = 61
      · subst hq
        go_wp2_with (first
          | (at_builtin; refine app_own2 (w0 := w) (W := wr.alloc _) (e := 38) (news := [_, _, _, _, _, _, _, _]) _ (by rfl) (by rfl) _ _ 23 (.agg #[.int .i64 0, .int .i64 0, .string ⟨#[]⟩, .int .i64 0, .int .i64 0, .int .i64 0, .string ⟨#[]⟩, .int .u64 0]) 8 80 (by rfl) (by kernel_rfl) (by kernel_rfl) (by decide) (by decide) (by decide) u5 ts.length 1 (wr.heap.size + 1) (by simp) _ (by rfl) (by rfl) (by rfl) (by simp [Value.oneCell']) (own_ext HO ((Ext.refl _).alloc _)) (he.alloc _) (by omega) ?_; rotate_left; intro v4 w4 ho4 he4; have HO4 := Lib.hid ho4; clear ho4)
          | fail)
        exact HC.out ⟨2, 0, [], 5, vzero⟩ 2 _ v4 w4 (by rw [HD.out]; rfl) (by omega) (by omega) HO4.out he4
      · have e61b := u8_ne (c := c1) (d := 61) (n := 61) rfl hq
        have HQ := Lib.hid hq
        clear hq
        go_wp2_with (first
          | (at_builtin; refine app_own2 (w0 := w) (W := wr.alloc _) (e := 38) (news := [_, _, _, _, _, _, _, _]) _ (by rfl) (by rfl) _ _ 23 (.agg #[.int .i64 0, .int .i64 0, .string ⟨#[]⟩, .int .i64 0, .int .i64 0, .int .i64 0, .string ⟨#[]⟩, .int .u64 0]) 8 80 (by rfl) (by kernel_rfl) (by kernel_rfl) (by decide) (by decide) (by decide) u5 ts.length 1 (wr.heap.size + 1) (by simp) _ (by rfl) (by rfl) (by rfl) (by simp [Value.oneCell']) (own_ext HO ((Ext.refl _).alloc _)) (he.alloc _) (by omega) ?_; rotate_left; intro v4 w4 ho4 he4; have HO4 := Lib.hid ho4; clear ho4)
          | fail)
        exact HC.out ⟨2, 0, [], 4, vzero⟩ 1 _ v4 w4 (by rw [HD.out]; exact lexTok_62 HQ.out) (by omega) (by omega) HO4.out he4
    · have HD : Hid (t = []) := by show _ = _; rw [← ht, List.drop_of_length_le (by rw [size_L]; omega)]
      go_wp2_with (first
        | (at_builtin; refine app_own2 (w0 := w) (W := wr.alloc _) (e := 38) (news := [_, _, _, _, _, _, _, _]) _ (by rfl) (by rfl) _ _ 23 (.agg #[.int .i64 0, .int .i64 0, .string ⟨#[]⟩, .int .i64 0, .int .i64 0, .int .i64 0, .string ⟨#[]⟩, .int .u64 0]) 8 80 (by rfl) (by kernel_rfl) (by kernel_rfl) (by decide) (by decide) (by decide) u5 ts.length 1 (wr.heap.size + 1) (by simp) _ (by rfl) (by rfl) (by rfl) (by simp [Value.oneCell']) (own_ext HO ((Ext.refl _).alloc _)) (he.alloc _) (by omega) ?_; rotate_left; intro v4 w4 ho4 he4; have HO4 := Lib.hid ho4; clear ho4)
        | fail)
      exact HC.out ⟨2, 0, [], 4, vzero⟩ 1 _ v4 w4 (by rw [HD.out]; rfl) (by omega) (by omega) HO4.out he4
  have e62 := u8_ne (c := c) (d := 62) (n := 62) rfl c62
  exact absurd hcl (by simp [c60, c62])
end Go.Proofs.YtcnnpedmccjdkaaGreatDoor
