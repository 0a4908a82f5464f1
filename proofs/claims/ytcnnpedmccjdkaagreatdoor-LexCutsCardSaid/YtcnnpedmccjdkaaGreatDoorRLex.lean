/- The reference's Lex. -/
import Derived.Test.YtcnnpedmccjdkaaGreatDoorRParseV
import Derived.Test.YtcnnpedmccjdkaaGreatDoorLawB

set_option linter.unusedSimpArgs false
set_option linter.unusedVariables false
namespace Go.Proofs.YtcnnpedmccjdkaaGreatDoor
open Go.RowKit
theorem lexGo_succ (f : Nat) (c : UInt8) (t : B) (k : Nat) (hc : c ≠ 32) : lexGo (f + 1) (c :: t) k = (match lexTok (c :: t) with | none => .error k | some (x, n) => pre [{ x with at_ := k }] (lexGo f ((c :: t).drop n) (k + n))) := if_neg hc
theorem lex_step {l : B} {k f : Nat} {ts : List Tok} {c : UInt8} {t : B} (h : lexS l = pre ts (lexGo (f + 1) (l.drop k) k)) (hd : l.drop k = c :: t) (hc : c ≠ 32) {x : Tok} {n : Nat} (ht : lexTok (c :: t) = some (x, n)) :
    lexS l = pre (ts ++ [{ x with at_ := (k : Int) }]) (lexGo f (l.drop (k + n)) (k + n)) ∧ 1 ≤ n ∧ k + n ≤ l.length := by
  have hn := lexTok_len ht
  rw [← hd, List.length_drop] at hn
  refine ⟨?_, hn.1, by omega⟩
  rw [h, hd, lexGo_succ f c t k hc, ht]
  show pre ts (pre _ (lexGo f ((c :: t).drop n) (k + n))) = _
  rw [pre_pre, ← hd, List.drop_drop]
theorem lex_stop {l : B} {k f : Nat} {ts : List Tok} {c : UInt8} {t : B} (h : lexS l = pre ts (lexGo (f + 1) (l.drop k) k)) (hd : l.drop k = c :: t) (hc : c ≠ 32) (ht : lexTok (c :: t) = none) :
    lexS l = .error k := by
  rw [h, hd, lexGo_succ f c t k hc, ht]; rfl
def RlPost (l : B) (w : World) (e : Ending) (w' : World) : Prop :=
  match lexS l with
  | .ok ts => ∃ v, e = .returned (.tuple #[v, .int .i64 0, .bool true]) ∧ w'.ownsRow w.heap.size 38 8 v ts.length (toksCells ts) ∧ Ext w w'
  | .error p => e = .returned (.tuple #[.slice none 0 0, .int .i64 (p : Int), .bool false]) ∧ Ext w w'
theorem rlPost_ok {l : B} {w w' : World} {ts : List Tok} {v : Value} (h : lexS l = .ok ts) (ho : w'.ownsRow w.heap.size 38 8 v ts.length (toksCells ts)) (he : Ext w w') :
    RlPost l w (.returned (.tuple #[v, .int .i64 0, .bool true])) w' := by unfold RlPost; rw [h]; exact ⟨v, rfl, ho, he⟩
theorem rlPost_err {l : B} {w w' : World} {p : Nat} (h : lexS l = .error p) (he : Ext w w') :
    RlPost l w (.returned (.tuple #[.slice none 0 0, .int .i64 (p : Int), .bool false])) w' := by unfold RlPost; rw [h]; exact ⟨rfl, he⟩
theorem in_lower (c : UInt8) (w : World) : Calls Tryz.prog 33 #[.int .u8 (c.toNat : Int), .int .u8 97, .int .u8 122] w fun e w' => e = .returned (.bool (lower c)) ∧ w = w' := by
  have h := in_any (c.toNat : Int) 97 122 w
  rwa [show (decide ((97 : Int) ≤ (c.toNat : Int)) && decide ((c.toNat : Int) ≤ 122)) = lower c by
    rw [Bool.eq_iff_iff, lower_iff]; simp] at h
theorem in_upper (c : UInt8) (w : World) : Calls Tryz.prog 33 #[.int .u8 (c.toNat : Int), .int .u8 65, .int .u8 90] w fun e w' => e = .returned (.bool (upper c)) ∧ w = w' := by
  have h := in_any (c.toNat : Int) 65 90 w
  rwa [show (decide ((65 : Int) ≤ (c.toNat : Int)) && decide ((c.toNat : Int) ≤ 90)) = upper c by
    rw [Bool.eq_iff_iff]; unfold upper; simp only [Bool.and_eq_true, decide_eq_true_eq, UInt8.le_iff_toNat_le]; simp; omega] at h
theorem in_digit (c : UInt8) (w : World) : Calls Tryz.prog 33 #[.int .u8 (c.toNat : Int), .int .u8 48, .int .u8 57] w fun e w' => e = .returned (.bool (digit c)) ∧ w = w' := by
  have h := in_any (c.toNat : Int) 48 57 w
  rwa [show (decide ((48 : Int) ≤ (c.toNat : Int)) && decide ((c.toNat : Int) ≤ 57)) = digit c by
    rw [Bool.eq_iff_iff, digit_iff]; simp; omega] at h
theorem lexTok_bang {c : UInt8} {t : B} (h : c ≠ 61) : lexTok (33 :: c :: t) = none := by
  unfold lexTok
  split <;> simp_all
  intro hne
  exact absurd (List.takeWhile_cons_of_neg (by decide)) hne
theorem lexTok_60 {c : UInt8} {t : B} (h : c ≠ 61) : lexTok (60 :: c :: t) = some (⟨2, 0, [], 2, vzero⟩, 1) := by
  unfold lexTok; split <;> simp_all <;> exact ⟨rfl, rfl⟩
theorem lexTok_62 {c : UInt8} {t : B} (h : c ≠ 61) : lexTok (62 :: c :: t) = some (⟨2, 0, [], 4, vzero⟩, 1) := by
  unfold lexTok; split <;> simp_all <;> exact ⟨rfl, rfl⟩
theorem u8_ne {c d : UInt8} {n : Int} (hn : (d.toNat : Int) = n) (h : c ≠ d) : ((c.toNat : Int) == n) = false := by
  have hne : c.toNat ≠ d.toNat := fun e => h (UInt8.toNat_inj.1 e)
  simp; omega
/-- The body of a function's first loop, out of the translation. -/
def firstLoop : Code → Option Code
  | .loop c => some c
  | .seq a b => match firstLoop a with
    | some c => some c
    | none => firstLoop b
  | .block _ c => firstLoop c
  | .scope c => firstLoop c
  | .cond _ a b => match firstLoop a with
    | some c => some c
    | none => firstLoop b
  | _ => none
noncomputable def rlBody : Code := ((Tryz.f15.body.bind firstLoop).getD .skip)
set_option maxRecDepth 1000000 in
set_option maxHeartbeats 4000000 in
theorem rl_g1 (s : ByteArray) (w wr : World) (k : Nat) (c : UInt8) (t : B) (ts : List Tok) (Q : Exit → Act → World → Prop) (hbig : ¬ 2000 < s.size) (hlt : k < s.size) (hc : s[k] = c) (ht : (L s).drop (k + 1) = t) (htl : ts.length ≤ k)
    (u2 u3 u4 u5 u7 u8 u9 u10 u11 u12 u13 u17 u18 u19 u20 u21 u22 u23 u24 u25 u26 u27 u28 u29 u30 u31 u32 u33 u34 u35 u36 u37 u38 u39 u40 u41 u42 u43 u44 u45 u46 u47 u48 u49 u50 u51 u52 u53 u54 u55 u56 u57 u58 u59 u60 u61 u62 u63 u64 u65 u66 u67 u68 u69 u70 u71 u72 u73 u74 u75 u76 u77 u78 u79 u80 u81 u82 u83 u84 u85 u86 u87 u88 u89 u90 u91 u92 u93 u94 u95 u96 u97 u98 u99 u100 u101 u102 u103 u104 u105 u106 u107 u108 u109 u110 u111 u112 u113 u114 u115 u116 u117 u118 u119 u120 u121 u122 u123 u124 u125 u126 u127 u128 u129 u130 u131 u132 u133 u134 u135 u136 u137 u138 u139 u140 u141 u142 u143 u144 u145 u146 u147 u148 u149 u150 u151 u152 u153 u154 u155 u156 u157 u158 u159 u160 u161 u162 u163 u164 u165 u166 u167 u168 u169 u170 u171 u172 u173 u174 u175 u176 u177 u178 u179 u180 u181 u182 u183 u184 u185 u186 u187 u188 : Value) (HO : Hid (wr.ownsRow w.heap.size 38 8 u5 ts.length (toksCells ts))) (he : Ext w wr)
    (HC : Hid (∀ (x : Tok) (n : Nat) (i : Int) (v5 : Value) (w4 : World) {u2 u3 u4 u7 u8 u9 u10 u11 u12 u13 u17 u18 u19 u20 u21 u22 u23 u24 u25 u26 u27 u28 u29 u30 u31 u32 u33 u34 u35 u36 u37 u38 u39 u40 u41 u42 u43 u44 u45 u46 u47 u48 u49 u50 u51 u52 u53 u54 u55 u56 u57 u58 u59 u60 u61 u62 u63 u64 u65 u66 u67 u68 u69 u70 u71 u72 u73 u74 u75 u76 u77 u78 u79 u80 u81 u82 u83 u84 u85 u86 u87 u88 u89 u90 u91 u92 u93 u94 u95 u96 u97 u98 u99 u100 u101 u102 u103 u104 u105 u106 u107 u108 u109 u110 u111 u112 u113 u114 u115 u116 u117 u118 u119 u120 u121 u122 u123 u124 u125 u126 u127 u128 u129 u130 u131 u132 u133 u134 u135 u136 u137 u138 u139 u140 u141 u142 u143 u144 u145 u146 u147 u148 u149 u150 u151 u152 u153 u154 u155 u156 u157 u158 u159 u160 u161 u162 u163 u164 u165 u166 u167 u168 u169 u170 u171 u172 u173 u174 u175 u176 u177 u178 u179 u180 u181 u182 u183 u184 u185 u186 u187 u188 : Value}, lexTok (c :: t) = some (x, n) → i = ((k + n : Nat) : Int) → k + n ≤ s.size → w4.ownsRow w.heap.size 38 8 v5 (ts.length + 1) (toksCells ts ++ tokCells { x with at_ := (k : Int) }) → Ext w w4 →
      Q .normal ⟨#[.string s, undef, u2, u3, u4, v5, .int .i64 i, u7, u8, u9, u10, u11, u12, u13, .string s, .int .i64 (s.size : Int), .bool (decide (2000 < (s.size : Int))), u17, u18, u19, u20, u21, u22, u23, u24, u25, u26, u27, u28, u29, u30, u31, u32, u33, u34, u35, u36, u37, u38, u39, u40, u41, u42, u43, u44, u45, u46, u47, u48, u49, u50, u51, u52, u53, u54, u55, u56, u57, u58, u59, u60, u61, u62, u63, u64, u65, u66, u67, u68, u69, u70, u71, u72, u73, u74, u75, u76, u77, u78, u79, u80, u81, u82, u83, u84, u85, u86, u87, u88, u89, u90, u91, u92, u93, u94, u95, u96, u97, u98, u99, u100, u101, u102, u103, u104, u105, u106, u107, u108, u109, u110, u111, u112, u113, u114, u115, u116, u117, u118, u119, u120, u121, u122, u123, u124, u125, u126, u127, u128, u129, u130, u131, u132, u133, u134, u135, u136, u137, u138, u139, u140, u141, u142, u143, u144, u145, u146, u147, u148, u149, u150, u151, u152, u153, u154, u155, u156, u157, u158, u159, u160, u161, u162, u163, u164, u165, u166, u167, u168, u169, u170, u171, u172, u173, u174, u175, u176, u177, u178, u179, u180, u181, u182, u183, u184, u185, u186, u187, u188, undef], []⟩ w4))
    (HR : Hid (∀ (w4 : World) {u6 u5 u7 u8 u9 u10 u11 u12 u13 u17 u18 u19 u20 u21 u22 u23 u24 u25 u26 u27 u28 u29 u30 u31 u32 u33 u34 u35 u36 u37 u38 u39 u40 u41 u42 u43 u44 u45 u46 u47 u48 u49 u50 u51 u52 u53 u54 u55 u56 u57 u58 u59 u60 u61 u62 u63 u64 u65 u66 u67 u68 u69 u70 u71 u72 u73 u74 u75 u76 u77 u78 u79 u80 u81 u82 u83 u84 u85 u86 u87 u88 u89 u90 u91 u92 u93 u94 u95 u96 u97 u98 u99 u100 u101 u102 u103 u104 u105 u106 u107 u108 u109 u110 u111 u112 u113 u114 u115 u116 u117 u118 u119 u120 u121 u122 u123 u124 u125 u126 u127 u128 u129 u130 u131 u132 u133 u134 u135 u136 u137 u138 u139 u140 u141 u142 u143 u144 u145 u146 u147 u148 u149 u150 u151 u152 u153 u154 u155 u156 u157 u158 u159 u160 u161 u162 u163 u164 u165 u166 u167 u168 u169 u170 u171 u172 u173 u174 u175 u176 u177 u178 u179 u180 u181 u182 u183 u184 u185 u186 u187 u188 : Value}, lexTok (c :: t) = none → Ext w w4 → Q .ret ⟨#[.string s, undef, .slice none 0 0, .int .i64 (k : Int), .bool false, u5, u6, u7, u8, u9, u10, u11, u12, u13, .string s, .int .i64 (s.size : Int), .bool (decide (2000 < (s.size : Int))), u17, u18, u19, u20, u21, u22, u23, u24, u25, u26, u27, u28, u29, u30, u31, u32, u33, u34, u35, u36, u37, u38, u39, u40, u41, u42, u43, u44, u45, u46, u47, u48, u49, u50, u51, u52, u53, u54, u55, u56, u57, u58, u59, u60, u61, u62, u63, u64, u65, u66, u67, u68, u69, u70, u71, u72, u73, u74, u75, u76, u77, u78, u79, u80, u81, u82, u83, u84, u85, u86, u87, u88, u89, u90, u91, u92, u93, u94, u95, u96, u97, u98, u99, u100, u101, u102, u103, u104, u105, u106, u107, u108, u109, u110, u111, u112, u113, u114, u115, u116, u117, u118, u119, u120, u121, u122, u123, u124, u125, u126, u127, u128, u129, u130, u131, u132, u133, u134, u135, u136, u137, u138, u139, u140, u141, u142, u143, u144, u145, u146, u147, u148, u149, u150, u151, u152, u153, u154, u155, u156, u157, u158, u159, u160, u161, u162, u163, u164, u165, u166, u167, u168, u169, u170, u171, u172, u173, u174, u175, u176, u177, u178, u179, u180, u181, u182, u183, u184, u185, u186, u187, u188, undef], []⟩ w4)) (hcl : c = 40 ∨ c = 41 ∨ c = 61) :
    Code.wp Tryz.prog rlBody Q ⟨#[.string s, undef, u2, u3, u4, u5, .int .i64 (k : Int), u7, u8, u9, u10, u11, u12, u13, .string s, .int .i64 (s.size : Int), .bool (decide (2000 < (s.size : Int))), u17, u18, u19, u20, u21, u22, u23, u24, u25, u26, u27, u28, u29, u30, u31, u32, u33, u34, u35, u36, u37, u38, u39, u40, u41, u42, u43, u44, u45, u46, u47, u48, u49, u50, u51, u52, u53, u54, u55, u56, u57, u58, u59, u60, u61, u62, u63, u64, u65, u66, u67, u68, u69, u70, u71, u72, u73, u74, u75, u76, u77, u78, u79, u80, u81, u82, u83, u84, u85, u86, u87, u88, u89, u90, u91, u92, u93, u94, u95, u96, u97, u98, u99, u100, u101, u102, u103, u104, u105, u106, u107, u108, u109, u110, u111, u112, u113, u114, u115, u116, u117, u118, u119, u120, u121, u122, u123, u124, u125, u126, u127, u128, u129, u130, u131, u132, u133, u134, u135, u136, u137, u138, u139, u140, u141, u142, u143, u144, u145, u146, u147, u148, u149, u150, u151, u152, u153, u154, u155, u156, u157, u158, u159, u160, u161, u162, u163, u164, u165, u166, u167, u168, u169, u170, u171, u172, u173, u174, u175, u176, u177, u178, u179, u180, u181, u182, u183, u184, u185, u186, u187, u188, undef], []⟩ wr := by
  conv => arg 2; whnf
  have hb1 : (0 : Int) ≤ (k : Int) := by omega
  have hb2 : (k : Int) < (s.size : Int) := by omega
  have hbig2 : (s.size : Int) ≤ 2000 := by omega
  by_cases c40 : c = 40
  · subst c40
    by_cases hn1 : k + 1 < s.size
    all_goals
      go_wp2_with (first
        | (at_builtin; refine app_own2 (w0 := w) (W := wr.alloc _) (e := 38) (news := [_, _, _, _, _, _, _, _]) _ (by rfl) (by rfl) _ _ 23 (.agg #[.int .i64 0, .int .i64 0, .string ⟨#[]⟩, .int .i64 0, .int .i64 0, .int .i64 0, .string ⟨#[]⟩, .int .u64 0]) 8 80 (by rfl) (by kernel_rfl) (by kernel_rfl) (by decide) (by decide) (by decide) u5 ts.length 1 (wr.heap.size + 1) (by simp) _ (by rfl) (by rfl) (by rfl) (by simp [Value.oneCell']) (own_ext HO ((Ext.refl _).alloc _)) (he.alloc _) (by omega) ?_; rotate_left; intro v4 w4 ho4 he4; have HO4 := Lib.hid ho4; clear ho4)
        | fail)
      exact HC.out ⟨4, 0, [], 0, vzero⟩ 1 _ v4 w4 rfl (by omega) (by omega) HO4.out he4
  have e40 := u8_ne (c := c) (d := 40) (n := 40) rfl c40
  by_cases c41 : c = 41
  · subst c41
    by_cases hn1 : k + 1 < s.size
    all_goals
      go_wp2_with (first
        | (at_builtin; refine app_own2 (w0 := w) (W := wr.alloc _) (e := 38) (news := [_, _, _, _, _, _, _, _]) _ (by rfl) (by rfl) _ _ 23 (.agg #[.int .i64 0, .int .i64 0, .string ⟨#[]⟩, .int .i64 0, .int .i64 0, .int .i64 0, .string ⟨#[]⟩, .int .u64 0]) 8 80 (by rfl) (by kernel_rfl) (by kernel_rfl) (by decide) (by decide) (by decide) u5 ts.length 1 (wr.heap.size + 1) (by simp) _ (by rfl) (by rfl) (by rfl) (by simp [Value.oneCell']) (own_ext HO ((Ext.refl _).alloc _)) (he.alloc _) (by omega) ?_; rotate_left; intro v4 w4 ho4 he4; have HO4 := Lib.hid ho4; clear ho4)
        | fail)
      exact HC.out ⟨5, 0, [], 0, vzero⟩ 1 _ v4 w4 rfl (by omega) (by omega) HO4.out he4
  have e41 := u8_ne (c := c) (d := 41) (n := 41) rfl c41
  by_cases c61 : c = 61
  · subst c61
    by_cases hn1 : k + 1 < s.size
    all_goals
      go_wp2_with (first
        | (at_builtin; refine app_own2 (w0 := w) (W := wr.alloc _) (e := 38) (news := [_, _, _, _, _, _, _, _]) _ (by rfl) (by rfl) _ _ 23 (.agg #[.int .i64 0, .int .i64 0, .string ⟨#[]⟩, .int .i64 0, .int .i64 0, .int .i64 0, .string ⟨#[]⟩, .int .u64 0]) 8 80 (by rfl) (by kernel_rfl) (by kernel_rfl) (by decide) (by decide) (by decide) u5 ts.length 1 (wr.heap.size + 1) (by simp) _ (by rfl) (by rfl) (by rfl) (by simp [Value.oneCell']) (own_ext HO ((Ext.refl _).alloc _)) (he.alloc _) (by omega) ?_; rotate_left; intro v4 w4 ho4 he4; have HO4 := Lib.hid ho4; clear ho4)
        | fail)
      exact HC.out ⟨2, 0, [], 0, vzero⟩ 1 _ v4 w4 rfl (by omega) (by omega) HO4.out he4
  have e61 := u8_ne (c := c) (d := 61) (n := 61) rfl c61
  exact absurd hcl (by simp [c40, c41, c61])
end Go.Proofs.YtcnnpedmccjdkaaGreatDoor
