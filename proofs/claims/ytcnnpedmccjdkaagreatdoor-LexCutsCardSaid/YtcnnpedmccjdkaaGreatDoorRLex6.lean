/- The reference's Lex, joined. -/
import Derived.Test.YtcnnpedmccjdkaaGreatDoorRLex5

set_option linter.unusedSimpArgs false
set_option linter.unusedVariables false
namespace Go.Proofs.YtcnnpedmccjdkaaGreatDoor
open Go.RowKit
set_option maxRecDepth 1000000 in
set_option maxHeartbeats 8000000 in
theorem rLex_any (s : ByteArray) (hs : s.size ≤ 9223372036854775807) (w : World) :
    Calls Tryz.prog 15 #[.string s] w (RlPost (L s) w) := by
  by_cases hbig : 2000 < s.size
  · have HL : Hid (lexS (L s) = .error 2000) := if_pos (by rw [size_L]; exact hbig)
    go_enter Tryz.func15, Tryz.ntmps15
    go_wp2
    go_ret3
    exact rlPost_err HL.out (Ext.refl _)
  have HL : Hid (lexS (L s) = lexGo (s.size + 1) (L s) 0) := by
    show _ = _; unfold lexS; rw [size_L]; exact if_neg (by omega)
  go_enter Tryz.func15, Tryz.ntmps15
  go_wp2
  go_loopw [5, 6] (fun vo vi wr => ∃ (k f : Nat) (ts : List Tok), k ≤ s.size ∧ vi = .int .i64 (k : Int) ∧ wr.ownsRow w.heap.size 38 8 vo ts.length (toksCells ts) ∧ Ext w wr ∧ s.size + 1 ≤ f + k ∧ ts.length ≤ k ∧ lexS (L s) = pre ts (lexGo f ((L s).drop k) k)) (fun _ vi _ => s.size - (intOf vi).toNat)
  case atStart => exact ⟨0, s.size + 1, [], by omega, rfl, own_nil, Ext.refl _, by omega, by simp, by rw [HL.out]; simp [pre]; cases lexGo (s.size + 1) (L s) 0 <;> rfl⟩
  case round =>
    obtain ⟨k, f, ts, hk, rfl, ho, he, hf, htl, hl⟩ := hrel
    have HO := Lib.hid ho
    have HL2 := Lib.hid hl
    have HF := Lib.hid hf
    clear ho hl hf
    by_cases hlt : k < s.size
    · obtain ⟨f, rfl⟩ : ∃ f', f = f' + 1 := ⟨f - 1, by have := HF.out; omega⟩
      have hb1 : (0 : Int) ≤ (k : Int) := by omega
      have hb2 : (k : Int) < (s.size : Int) := by omega
      have hdk := drop_L s k hlt
      have hl3 := HL2.out
      obtain ⟨c, hc⟩ : ∃ c, s[k] = c := ⟨_, rfl⟩
      rw [hc] at hdk
      by_cases hsp : c = 32
      · subst hsp
        rw [hdk] at hl3
        have HL3 : Hid (lexS (L s) = pre ts (lexGo f ((L s).drop (k + 1)) (k + 1))) := hl3
        clear hl3 hdk
        by_cases hn1 : k + 1 < s.size
        · go_wp2
          go_roundw
          case rel => exact ⟨k + 1, f, ts, by omega, by simp, own_ext HO ((Ext.refl _).alloc _), he.alloc _, by have := HF.out; omega, by omega, HL3.out⟩
          case measure => (try simp only [intOf]); (try simp); omega
        · go_wp2
          go_roundw
          case rel => exact ⟨k + 1, f, ts, by omega, by simp, own_ext HO ((Ext.refl _).alloc _), he.alloc _, by have := HF.out; omega, by omega, HL3.out⟩
          case measure => (try simp only [intOf]); (try simp); omega
      obtain ⟨t, ht⟩ : ∃ t, (L s).drop (k + 1) = t := ⟨_, rfl⟩
      rw [ht] at hdk
      have q32 := u8_ne (c := c) (d := 32) (n := 32) rfl hsp
      have HDK := Lib.hid hdk
      have HL3 := Lib.hid hl3
      have HSP := Lib.hid hsp
      clear hl3 hdk q32
      by_cases g1 : c = 40 ∨ c = 41 ∨ c = 61
      · refine rl_g1 s w wr k c t ts _ hbig hlt hc ht htl _ _ _ _ _ _ _ _ _ _ _ _ _ _ _ _ _ _ _ _ _ _ _ _ _ _ _ _ _ _ _ _ _ _ _ _ _ _ _ _ _ _ _ _ _ _ _ _ _ _ _ _ _ _ _ _ _ _ _ _ _ _ _ _ _ _ _ _ _ _ _ _ _ _ _ _ _ _ _ _ _ _ _ _ _ _ _ _ _ _ _ _ _ _ _ _ _ _ _ _ _ _ _ _ _ _ _ _ _ _ _ _ _ _ _ _ _ _ _ _ _ _ _ _ _ _ _ _ _ _ _ _ _ _ _ _ _ _ _ _ _ _ _ _ _ _ _ _ _ _ _ _ _ _ _ _ _ _ _ _ _ _ _ _ _ _ _ _ _ _ _ _ _ _ _ _ _ _ _ _ _ _ _ HO he ?_ ?_ g1
        · intro x n i v5 w4 y2 y3 y4 y7 y8 y9 y10 y11 y12 y13 y17 y18 y19 y20 y21 y22 y23 y24 y25 y26 y27 y28 y29 y30 y31 y32 y33 y34 y35 y36 y37 y38 y39 y40 y41 y42 y43 y44 y45 y46 y47 y48 y49 y50 y51 y52 y53 y54 y55 y56 y57 y58 y59 y60 y61 y62 y63 y64 y65 y66 y67 y68 y69 y70 y71 y72 y73 y74 y75 y76 y77 y78 y79 y80 y81 y82 y83 y84 y85 y86 y87 y88 y89 y90 y91 y92 y93 y94 y95 y96 y97 y98 y99 y100 y101 y102 y103 y104 y105 y106 y107 y108 y109 y110 y111 y112 y113 y114 y115 y116 y117 y118 y119 y120 y121 y122 y123 y124 y125 y126 y127 y128 y129 y130 y131 y132 y133 y134 y135 y136 y137 y138 y139 y140 y141 y142 y143 y144 y145 y146 y147 y148 y149 y150 y151 y152 y153 y154 y155 y156 y157 y158 y159 y160 y161 y162 y163 y164 y165 y166 y167 y168 y169 y170 y171 y172 y173 y174 y175 y176 y177 y178 y179 y180 y181 y182 y183 y184 y185 y186 y187 y188 hx hi hkn ho4 he4
          subst hi
          have hst := lex_step HL3.out HDK.out HSP.out hx
          have HST := Lib.hid hst
          have HO4 := Lib.hid ho4
          clear hst ho4 hx
          have REL : ∃ (k' f' : Nat) (ts' : List Tok), k' ≤ s.size ∧ Value.int .i64 ((k + n : Nat) : Int) = .int .i64 (k' : Int) ∧ w4.ownsRow w.heap.size 38 8 v5 ts'.length (toksCells ts') ∧ Ext w w4 ∧ s.size + 1 ≤ f' + k' ∧ ts'.length ≤ k' ∧ lexS (L s) = pre ts' (lexGo f' ((L s).drop k') k') := by
            refine ⟨k + n, f, ts ++ [{ x with at_ := (k : Int) }], hkn, rfl, ?_, he4, by have h1 := HF.out; have h2 := HST.out.2.1; omega, by have h2 := HST.out.2.1; rw [List.length_append, List.length_singleton]; omega, HST.out.1⟩
            rw [toksCells_snoc, List.length_append]
            exact HO4.out
          refine ⟨?_, ?_⟩
          · exact ⟨_, _, _, _, _, _, _, _, _, _, _, _, _, _, _, _, _, _, _, _, _, _, _, _, _, _, _, _, _, _, _, _, _, _, _, _, _, _, _, _, _, _, _, _, _, _, _, _, _, _, _, _, _, _, _, _, _, _, _, _, _, _, _, _, _, _, _, _, _, _, _, _, _, _, _, _, _, _, _, _, _, _, _, _, _, _, _, _, _, _, _, _, _, _, _, _, _, _, _, _, _, _, _, _, _, _, _, _, _, _, _, _, _, _, _, _, _, _, _, _, _, _, _, _, _, _, _, _, _, _, _, _, _, _, _, _, _, _, _, _, _, _, _, _, _, _, _, _, _, _, _, _, _, _, _, _, _, _, _, _, _, _, _, _, _, _, _, _, _, _, _, _, _, _, _, _, _, _, _, _, _, _, _, _, REL, rfl⟩
          · have h2 := HST.out.2.1
            show s.size - ((k + n : Nat) : Int).toNat < s.size - ((k : Nat) : Int).toNat
            rw [Int.toNat_natCast, Int.toNat_natCast]; omega
        · intro w4 y6 y5 y7 y8 y9 y10 y11 y12 y13 y17 y18 y19 y20 y21 y22 y23 y24 y25 y26 y27 y28 y29 y30 y31 y32 y33 y34 y35 y36 y37 y38 y39 y40 y41 y42 y43 y44 y45 y46 y47 y48 y49 y50 y51 y52 y53 y54 y55 y56 y57 y58 y59 y60 y61 y62 y63 y64 y65 y66 y67 y68 y69 y70 y71 y72 y73 y74 y75 y76 y77 y78 y79 y80 y81 y82 y83 y84 y85 y86 y87 y88 y89 y90 y91 y92 y93 y94 y95 y96 y97 y98 y99 y100 y101 y102 y103 y104 y105 y106 y107 y108 y109 y110 y111 y112 y113 y114 y115 y116 y117 y118 y119 y120 y121 y122 y123 y124 y125 y126 y127 y128 y129 y130 y131 y132 y133 y134 y135 y136 y137 y138 y139 y140 y141 y142 y143 y144 y145 y146 y147 y148 y149 y150 y151 y152 y153 y154 y155 y156 y157 y158 y159 y160 y161 y162 y163 y164 y165 y166 y167 y168 y169 y170 y171 y172 y173 y174 y175 y176 y177 y178 y179 y180 y181 y182 y183 y184 y185 y186 y187 y188 hx he4
          have HST := Lib.hid (lex_stop HL3.out HDK.out HSP.out hx)
          clear hx
          dsimp only
          go_simp
          go_ret3
          exact rlPost_err HST.out he4
      by_cases g2 : c = 33
      · refine rl_g2 s w wr k c t ts _ hbig hlt hc ht htl _ _ _ _ _ _ _ _ _ _ _ _ _ _ _ _ _ _ _ _ _ _ _ _ _ _ _ _ _ _ _ _ _ _ _ _ _ _ _ _ _ _ _ _ _ _ _ _ _ _ _ _ _ _ _ _ _ _ _ _ _ _ _ _ _ _ _ _ _ _ _ _ _ _ _ _ _ _ _ _ _ _ _ _ _ _ _ _ _ _ _ _ _ _ _ _ _ _ _ _ _ _ _ _ _ _ _ _ _ _ _ _ _ _ _ _ _ _ _ _ _ _ _ _ _ _ _ _ _ _ _ _ _ _ _ _ _ _ _ _ _ _ _ _ _ _ _ _ _ _ _ _ _ _ _ _ _ _ _ _ _ _ _ _ _ _ _ _ _ _ _ _ _ _ _ _ _ _ _ _ _ _ _ HO he ?_ ?_ g2
        · intro x n i v5 w4 y2 y3 y4 y7 y8 y9 y10 y11 y12 y13 y17 y18 y19 y20 y21 y22 y23 y24 y25 y26 y27 y28 y29 y30 y31 y32 y33 y34 y35 y36 y37 y38 y39 y40 y41 y42 y43 y44 y45 y46 y47 y48 y49 y50 y51 y52 y53 y54 y55 y56 y57 y58 y59 y60 y61 y62 y63 y64 y65 y66 y67 y68 y69 y70 y71 y72 y73 y74 y75 y76 y77 y78 y79 y80 y81 y82 y83 y84 y85 y86 y87 y88 y89 y90 y91 y92 y93 y94 y95 y96 y97 y98 y99 y100 y101 y102 y103 y104 y105 y106 y107 y108 y109 y110 y111 y112 y113 y114 y115 y116 y117 y118 y119 y120 y121 y122 y123 y124 y125 y126 y127 y128 y129 y130 y131 y132 y133 y134 y135 y136 y137 y138 y139 y140 y141 y142 y143 y144 y145 y146 y147 y148 y149 y150 y151 y152 y153 y154 y155 y156 y157 y158 y159 y160 y161 y162 y163 y164 y165 y166 y167 y168 y169 y170 y171 y172 y173 y174 y175 y176 y177 y178 y179 y180 y181 y182 y183 y184 y185 y186 y187 y188 hx hi hkn ho4 he4
          subst hi
          have hst := lex_step HL3.out HDK.out HSP.out hx
          have HST := Lib.hid hst
          have HO4 := Lib.hid ho4
          clear hst ho4 hx
          have REL : ∃ (k' f' : Nat) (ts' : List Tok), k' ≤ s.size ∧ Value.int .i64 ((k + n : Nat) : Int) = .int .i64 (k' : Int) ∧ w4.ownsRow w.heap.size 38 8 v5 ts'.length (toksCells ts') ∧ Ext w w4 ∧ s.size + 1 ≤ f' + k' ∧ ts'.length ≤ k' ∧ lexS (L s) = pre ts' (lexGo f' ((L s).drop k') k') := by
            refine ⟨k + n, f, ts ++ [{ x with at_ := (k : Int) }], hkn, rfl, ?_, he4, by have h1 := HF.out; have h2 := HST.out.2.1; omega, by have h2 := HST.out.2.1; rw [List.length_append, List.length_singleton]; omega, HST.out.1⟩
            rw [toksCells_snoc, List.length_append]
            exact HO4.out
          refine ⟨?_, ?_⟩
          · exact ⟨_, _, _, _, _, _, _, _, _, _, _, _, _, _, _, _, _, _, _, _, _, _, _, _, _, _, _, _, _, _, _, _, _, _, _, _, _, _, _, _, _, _, _, _, _, _, _, _, _, _, _, _, _, _, _, _, _, _, _, _, _, _, _, _, _, _, _, _, _, _, _, _, _, _, _, _, _, _, _, _, _, _, _, _, _, _, _, _, _, _, _, _, _, _, _, _, _, _, _, _, _, _, _, _, _, _, _, _, _, _, _, _, _, _, _, _, _, _, _, _, _, _, _, _, _, _, _, _, _, _, _, _, _, _, _, _, _, _, _, _, _, _, _, _, _, _, _, _, _, _, _, _, _, _, _, _, _, _, _, _, _, _, _, _, _, _, _, _, _, _, _, _, _, _, _, _, _, _, _, _, _, _, _, _, REL, rfl⟩
          · have h2 := HST.out.2.1
            show s.size - ((k + n : Nat) : Int).toNat < s.size - ((k : Nat) : Int).toNat
            rw [Int.toNat_natCast, Int.toNat_natCast]; omega
        · intro w4 y6 y5 y7 y8 y9 y10 y11 y12 y13 y17 y18 y19 y20 y21 y22 y23 y24 y25 y26 y27 y28 y29 y30 y31 y32 y33 y34 y35 y36 y37 y38 y39 y40 y41 y42 y43 y44 y45 y46 y47 y48 y49 y50 y51 y52 y53 y54 y55 y56 y57 y58 y59 y60 y61 y62 y63 y64 y65 y66 y67 y68 y69 y70 y71 y72 y73 y74 y75 y76 y77 y78 y79 y80 y81 y82 y83 y84 y85 y86 y87 y88 y89 y90 y91 y92 y93 y94 y95 y96 y97 y98 y99 y100 y101 y102 y103 y104 y105 y106 y107 y108 y109 y110 y111 y112 y113 y114 y115 y116 y117 y118 y119 y120 y121 y122 y123 y124 y125 y126 y127 y128 y129 y130 y131 y132 y133 y134 y135 y136 y137 y138 y139 y140 y141 y142 y143 y144 y145 y146 y147 y148 y149 y150 y151 y152 y153 y154 y155 y156 y157 y158 y159 y160 y161 y162 y163 y164 y165 y166 y167 y168 y169 y170 y171 y172 y173 y174 y175 y176 y177 y178 y179 y180 y181 y182 y183 y184 y185 y186 y187 y188 hx he4
          have HST := Lib.hid (lex_stop HL3.out HDK.out HSP.out hx)
          clear hx
          dsimp only
          go_simp
          go_ret3
          exact rlPost_err HST.out he4
      by_cases g3 : c = 60 ∨ c = 62
      · refine rl_g3 s w wr k c t ts _ hbig hlt hc ht htl _ _ _ _ _ _ _ _ _ _ _ _ _ _ _ _ _ _ _ _ _ _ _ _ _ _ _ _ _ _ _ _ _ _ _ _ _ _ _ _ _ _ _ _ _ _ _ _ _ _ _ _ _ _ _ _ _ _ _ _ _ _ _ _ _ _ _ _ _ _ _ _ _ _ _ _ _ _ _ _ _ _ _ _ _ _ _ _ _ _ _ _ _ _ _ _ _ _ _ _ _ _ _ _ _ _ _ _ _ _ _ _ _ _ _ _ _ _ _ _ _ _ _ _ _ _ _ _ _ _ _ _ _ _ _ _ _ _ _ _ _ _ _ _ _ _ _ _ _ _ _ _ _ _ _ _ _ _ _ _ _ _ _ _ _ _ _ _ _ _ _ _ _ _ _ _ _ _ _ _ _ _ _ HO he ?_ ?_ g3
        · intro x n i v5 w4 y2 y3 y4 y7 y8 y9 y10 y11 y12 y13 y17 y18 y19 y20 y21 y22 y23 y24 y25 y26 y27 y28 y29 y30 y31 y32 y33 y34 y35 y36 y37 y38 y39 y40 y41 y42 y43 y44 y45 y46 y47 y48 y49 y50 y51 y52 y53 y54 y55 y56 y57 y58 y59 y60 y61 y62 y63 y64 y65 y66 y67 y68 y69 y70 y71 y72 y73 y74 y75 y76 y77 y78 y79 y80 y81 y82 y83 y84 y85 y86 y87 y88 y89 y90 y91 y92 y93 y94 y95 y96 y97 y98 y99 y100 y101 y102 y103 y104 y105 y106 y107 y108 y109 y110 y111 y112 y113 y114 y115 y116 y117 y118 y119 y120 y121 y122 y123 y124 y125 y126 y127 y128 y129 y130 y131 y132 y133 y134 y135 y136 y137 y138 y139 y140 y141 y142 y143 y144 y145 y146 y147 y148 y149 y150 y151 y152 y153 y154 y155 y156 y157 y158 y159 y160 y161 y162 y163 y164 y165 y166 y167 y168 y169 y170 y171 y172 y173 y174 y175 y176 y177 y178 y179 y180 y181 y182 y183 y184 y185 y186 y187 y188 hx hi hkn ho4 he4
          subst hi
          have hst := lex_step HL3.out HDK.out HSP.out hx
          have HST := Lib.hid hst
          have HO4 := Lib.hid ho4
          clear hst ho4 hx
          have REL : ∃ (k' f' : Nat) (ts' : List Tok), k' ≤ s.size ∧ Value.int .i64 ((k + n : Nat) : Int) = .int .i64 (k' : Int) ∧ w4.ownsRow w.heap.size 38 8 v5 ts'.length (toksCells ts') ∧ Ext w w4 ∧ s.size + 1 ≤ f' + k' ∧ ts'.length ≤ k' ∧ lexS (L s) = pre ts' (lexGo f' ((L s).drop k') k') := by
            refine ⟨k + n, f, ts ++ [{ x with at_ := (k : Int) }], hkn, rfl, ?_, he4, by have h1 := HF.out; have h2 := HST.out.2.1; omega, by have h2 := HST.out.2.1; rw [List.length_append, List.length_singleton]; omega, HST.out.1⟩
            rw [toksCells_snoc, List.length_append]
            exact HO4.out
          refine ⟨?_, ?_⟩
          · exact ⟨_, _, _, _, _, _, _, _, _, _, _, _, _, _, _, _, _, _, _, _, _, _, _, _, _, _, _, _, _, _, _, _, _, _, _, _, _, _, _, _, _, _, _, _, _, _, _, _, _, _, _, _, _, _, _, _, _, _, _, _, _, _, _, _, _, _, _, _, _, _, _, _, _, _, _, _, _, _, _, _, _, _, _, _, _, _, _, _, _, _, _, _, _, _, _, _, _, _, _, _, _, _, _, _, _, _, _, _, _, _, _, _, _, _, _, _, _, _, _, _, _, _, _, _, _, _, _, _, _, _, _, _, _, _, _, _, _, _, _, _, _, _, _, _, _, _, _, _, _, _, _, _, _, _, _, _, _, _, _, _, _, _, _, _, _, _, _, _, _, _, _, _, _, _, _, _, _, _, _, _, _, _, _, _, REL, rfl⟩
          · have h2 := HST.out.2.1
            show s.size - ((k + n : Nat) : Int).toNat < s.size - ((k : Nat) : Int).toNat
            rw [Int.toNat_natCast, Int.toNat_natCast]; omega
        · intro w4 y6 y5 y7 y8 y9 y10 y11 y12 y13 y17 y18 y19 y20 y21 y22 y23 y24 y25 y26 y27 y28 y29 y30 y31 y32 y33 y34 y35 y36 y37 y38 y39 y40 y41 y42 y43 y44 y45 y46 y47 y48 y49 y50 y51 y52 y53 y54 y55 y56 y57 y58 y59 y60 y61 y62 y63 y64 y65 y66 y67 y68 y69 y70 y71 y72 y73 y74 y75 y76 y77 y78 y79 y80 y81 y82 y83 y84 y85 y86 y87 y88 y89 y90 y91 y92 y93 y94 y95 y96 y97 y98 y99 y100 y101 y102 y103 y104 y105 y106 y107 y108 y109 y110 y111 y112 y113 y114 y115 y116 y117 y118 y119 y120 y121 y122 y123 y124 y125 y126 y127 y128 y129 y130 y131 y132 y133 y134 y135 y136 y137 y138 y139 y140 y141 y142 y143 y144 y145 y146 y147 y148 y149 y150 y151 y152 y153 y154 y155 y156 y157 y158 y159 y160 y161 y162 y163 y164 y165 y166 y167 y168 y169 y170 y171 y172 y173 y174 y175 y176 y177 y178 y179 y180 y181 y182 y183 y184 y185 y186 y187 y188 hx he4
          have HST := Lib.hid (lex_stop HL3.out HDK.out HSP.out hx)
          clear hx
          dsimp only
          go_simp
          go_ret3
          exact rlPost_err HST.out he4
      by_cases g4 : c = 36
      · refine rl_g4 s w wr k c t ts _ hbig hlt hc ht htl _ _ _ _ _ _ _ _ _ _ _ _ _ _ _ _ _ _ _ _ _ _ _ _ _ _ _ _ _ _ _ _ _ _ _ _ _ _ _ _ _ _ _ _ _ _ _ _ _ _ _ _ _ _ _ _ _ _ _ _ _ _ _ _ _ _ _ _ _ _ _ _ _ _ _ _ _ _ _ _ _ _ _ _ _ _ _ _ _ _ _ _ _ _ _ _ _ _ _ _ _ _ _ _ _ _ _ _ _ _ _ _ _ _ _ _ _ _ _ _ _ _ _ _ _ _ _ _ _ _ _ _ _ _ _ _ _ _ _ _ _ _ _ _ _ _ _ _ _ _ _ _ _ _ _ _ _ _ _ _ _ _ _ _ _ _ _ _ _ _ _ _ _ _ _ _ _ _ _ _ _ _ _ HO he ?_ ?_ g4
        · intro x n i v5 w4 y2 y3 y4 y7 y8 y9 y10 y11 y12 y13 y17 y18 y19 y20 y21 y22 y23 y24 y25 y26 y27 y28 y29 y30 y31 y32 y33 y34 y35 y36 y37 y38 y39 y40 y41 y42 y43 y44 y45 y46 y47 y48 y49 y50 y51 y52 y53 y54 y55 y56 y57 y58 y59 y60 y61 y62 y63 y64 y65 y66 y67 y68 y69 y70 y71 y72 y73 y74 y75 y76 y77 y78 y79 y80 y81 y82 y83 y84 y85 y86 y87 y88 y89 y90 y91 y92 y93 y94 y95 y96 y97 y98 y99 y100 y101 y102 y103 y104 y105 y106 y107 y108 y109 y110 y111 y112 y113 y114 y115 y116 y117 y118 y119 y120 y121 y122 y123 y124 y125 y126 y127 y128 y129 y130 y131 y132 y133 y134 y135 y136 y137 y138 y139 y140 y141 y142 y143 y144 y145 y146 y147 y148 y149 y150 y151 y152 y153 y154 y155 y156 y157 y158 y159 y160 y161 y162 y163 y164 y165 y166 y167 y168 y169 y170 y171 y172 y173 y174 y175 y176 y177 y178 y179 y180 y181 y182 y183 y184 y185 y186 y187 y188 hx hi hkn ho4 he4
          subst hi
          have hst := lex_step HL3.out HDK.out HSP.out hx
          have HST := Lib.hid hst
          have HO4 := Lib.hid ho4
          clear hst ho4 hx
          have REL : ∃ (k' f' : Nat) (ts' : List Tok), k' ≤ s.size ∧ Value.int .i64 ((k + n : Nat) : Int) = .int .i64 (k' : Int) ∧ w4.ownsRow w.heap.size 38 8 v5 ts'.length (toksCells ts') ∧ Ext w w4 ∧ s.size + 1 ≤ f' + k' ∧ ts'.length ≤ k' ∧ lexS (L s) = pre ts' (lexGo f' ((L s).drop k') k') := by
            refine ⟨k + n, f, ts ++ [{ x with at_ := (k : Int) }], hkn, rfl, ?_, he4, by have h1 := HF.out; have h2 := HST.out.2.1; omega, by have h2 := HST.out.2.1; rw [List.length_append, List.length_singleton]; omega, HST.out.1⟩
            rw [toksCells_snoc, List.length_append]
            exact HO4.out
          refine ⟨?_, ?_⟩
          · exact ⟨_, _, _, _, _, _, _, _, _, _, _, _, _, _, _, _, _, _, _, _, _, _, _, _, _, _, _, _, _, _, _, _, _, _, _, _, _, _, _, _, _, _, _, _, _, _, _, _, _, _, _, _, _, _, _, _, _, _, _, _, _, _, _, _, _, _, _, _, _, _, _, _, _, _, _, _, _, _, _, _, _, _, _, _, _, _, _, _, _, _, _, _, _, _, _, _, _, _, _, _, _, _, _, _, _, _, _, _, _, _, _, _, _, _, _, _, _, _, _, _, _, _, _, _, _, _, _, _, _, _, _, _, _, _, _, _, _, _, _, _, _, _, _, _, _, _, _, _, _, _, _, _, _, _, _, _, _, _, _, _, _, _, _, _, _, _, _, _, _, _, _, _, _, _, _, _, _, _, _, _, _, _, _, _, REL, rfl⟩
          · have h2 := HST.out.2.1
            show s.size - ((k + n : Nat) : Int).toNat < s.size - ((k : Nat) : Int).toNat
            rw [Int.toNat_natCast, Int.toNat_natCast]; omega
        · intro w4 y6 y5 y7 y8 y9 y10 y11 y12 y13 y17 y18 y19 y20 y21 y22 y23 y24 y25 y26 y27 y28 y29 y30 y31 y32 y33 y34 y35 y36 y37 y38 y39 y40 y41 y42 y43 y44 y45 y46 y47 y48 y49 y50 y51 y52 y53 y54 y55 y56 y57 y58 y59 y60 y61 y62 y63 y64 y65 y66 y67 y68 y69 y70 y71 y72 y73 y74 y75 y76 y77 y78 y79 y80 y81 y82 y83 y84 y85 y86 y87 y88 y89 y90 y91 y92 y93 y94 y95 y96 y97 y98 y99 y100 y101 y102 y103 y104 y105 y106 y107 y108 y109 y110 y111 y112 y113 y114 y115 y116 y117 y118 y119 y120 y121 y122 y123 y124 y125 y126 y127 y128 y129 y130 y131 y132 y133 y134 y135 y136 y137 y138 y139 y140 y141 y142 y143 y144 y145 y146 y147 y148 y149 y150 y151 y152 y153 y154 y155 y156 y157 y158 y159 y160 y161 y162 y163 y164 y165 y166 y167 y168 y169 y170 y171 y172 y173 y174 y175 y176 y177 y178 y179 y180 y181 y182 y183 y184 y185 y186 y187 y188 hx he4
          have HST := Lib.hid (lex_stop HL3.out HDK.out HSP.out hx)
          clear hx
          dsimp only
          go_simp
          go_ret3
          exact rlPost_err HST.out he4
      have hcl : c ≠ 61 ∧ c ≠ 33 ∧ c ≠ 60 ∧ c ≠ 62 ∧ c ≠ 40 ∧ c ≠ 41 ∧ c ≠ 36 := ⟨fun h => g1 (.inr (.inr h)), g2, fun h => g3 (.inl h), fun h => g3 (.inr h), fun h => g1 (.inl h), fun h => g1 (.inr (.inl h)), g4⟩
      by_cases hn1 : k + 1 < s.size
      · refine rl_g5a s w wr k c t ts _ hbig hlt hc ht htl _ _ _ _ _ _ _ _ _ _ _ _ _ _ _ _ _ _ _ _ _ _ _ _ _ _ _ _ _ _ _ _ _ _ _ _ _ _ _ _ _ _ _ _ _ _ _ _ _ _ _ _ _ _ _ _ _ _ _ _ _ _ _ _ _ _ _ _ _ _ _ _ _ _ _ _ _ _ _ _ _ _ _ _ _ _ _ _ _ _ _ _ _ _ _ _ _ _ _ _ _ _ _ _ _ _ _ _ _ _ _ _ _ _ _ _ _ _ _ _ _ _ _ _ _ _ _ _ _ _ _ _ _ _ _ _ _ _ _ _ _ _ _ _ _ _ _ _ _ _ _ _ _ _ _ _ _ _ _ _ _ _ _ _ _ _ _ _ _ _ _ _ _ _ _ _ _ _ _ _ _ _ _ HO he ?_ ?_ hcl HSP.out hn1
        · intro x n i v5 w4 y2 y3 y4 y7 y8 y9 y10 y11 y12 y13 y17 y18 y19 y20 y21 y22 y23 y24 y25 y26 y27 y28 y29 y30 y31 y32 y33 y34 y35 y36 y37 y38 y39 y40 y41 y42 y43 y44 y45 y46 y47 y48 y49 y50 y51 y52 y53 y54 y55 y56 y57 y58 y59 y60 y61 y62 y63 y64 y65 y66 y67 y68 y69 y70 y71 y72 y73 y74 y75 y76 y77 y78 y79 y80 y81 y82 y83 y84 y85 y86 y87 y88 y89 y90 y91 y92 y93 y94 y95 y96 y97 y98 y99 y100 y101 y102 y103 y104 y105 y106 y107 y108 y109 y110 y111 y112 y113 y114 y115 y116 y117 y118 y119 y120 y121 y122 y123 y124 y125 y126 y127 y128 y129 y130 y131 y132 y133 y134 y135 y136 y137 y138 y139 y140 y141 y142 y143 y144 y145 y146 y147 y148 y149 y150 y151 y152 y153 y154 y155 y156 y157 y158 y159 y160 y161 y162 y163 y164 y165 y166 y167 y168 y169 y170 y171 y172 y173 y174 y175 y176 y177 y178 y179 y180 y181 y182 y183 y184 y185 y186 y187 y188 hx hi hkn ho4 he4
          subst hi
          have hst := lex_step HL3.out HDK.out HSP.out hx
          have HST := Lib.hid hst
          have HO4 := Lib.hid ho4
          clear hst ho4 hx
          have REL : ∃ (k' f' : Nat) (ts' : List Tok), k' ≤ s.size ∧ Value.int .i64 ((k + n : Nat) : Int) = .int .i64 (k' : Int) ∧ w4.ownsRow w.heap.size 38 8 v5 ts'.length (toksCells ts') ∧ Ext w w4 ∧ s.size + 1 ≤ f' + k' ∧ ts'.length ≤ k' ∧ lexS (L s) = pre ts' (lexGo f' ((L s).drop k') k') := by
            refine ⟨k + n, f, ts ++ [{ x with at_ := (k : Int) }], hkn, rfl, ?_, he4, by have h1 := HF.out; have h2 := HST.out.2.1; omega, by have h2 := HST.out.2.1; rw [List.length_append, List.length_singleton]; omega, HST.out.1⟩
            rw [toksCells_snoc, List.length_append]
            exact HO4.out
          refine ⟨?_, ?_⟩
          · exact ⟨_, _, _, _, _, _, _, _, _, _, _, _, _, _, _, _, _, _, _, _, _, _, _, _, _, _, _, _, _, _, _, _, _, _, _, _, _, _, _, _, _, _, _, _, _, _, _, _, _, _, _, _, _, _, _, _, _, _, _, _, _, _, _, _, _, _, _, _, _, _, _, _, _, _, _, _, _, _, _, _, _, _, _, _, _, _, _, _, _, _, _, _, _, _, _, _, _, _, _, _, _, _, _, _, _, _, _, _, _, _, _, _, _, _, _, _, _, _, _, _, _, _, _, _, _, _, _, _, _, _, _, _, _, _, _, _, _, _, _, _, _, _, _, _, _, _, _, _, _, _, _, _, _, _, _, _, _, _, _, _, _, _, _, _, _, _, _, _, _, _, _, _, _, _, _, _, _, _, _, _, _, _, _, _, REL, rfl⟩
          · have h2 := HST.out.2.1
            show s.size - ((k + n : Nat) : Int).toNat < s.size - ((k : Nat) : Int).toNat
            rw [Int.toNat_natCast, Int.toNat_natCast]; omega
        · intro w4 y6 y5 y7 y8 y9 y10 y11 y12 y13 y17 y18 y19 y20 y21 y22 y23 y24 y25 y26 y27 y28 y29 y30 y31 y32 y33 y34 y35 y36 y37 y38 y39 y40 y41 y42 y43 y44 y45 y46 y47 y48 y49 y50 y51 y52 y53 y54 y55 y56 y57 y58 y59 y60 y61 y62 y63 y64 y65 y66 y67 y68 y69 y70 y71 y72 y73 y74 y75 y76 y77 y78 y79 y80 y81 y82 y83 y84 y85 y86 y87 y88 y89 y90 y91 y92 y93 y94 y95 y96 y97 y98 y99 y100 y101 y102 y103 y104 y105 y106 y107 y108 y109 y110 y111 y112 y113 y114 y115 y116 y117 y118 y119 y120 y121 y122 y123 y124 y125 y126 y127 y128 y129 y130 y131 y132 y133 y134 y135 y136 y137 y138 y139 y140 y141 y142 y143 y144 y145 y146 y147 y148 y149 y150 y151 y152 y153 y154 y155 y156 y157 y158 y159 y160 y161 y162 y163 y164 y165 y166 y167 y168 y169 y170 y171 y172 y173 y174 y175 y176 y177 y178 y179 y180 y181 y182 y183 y184 y185 y186 y187 y188 hx he4
          have HST := Lib.hid (lex_stop HL3.out HDK.out HSP.out hx)
          clear hx
          dsimp only
          go_simp
          go_ret3
          exact rlPost_err HST.out he4
      · refine rl_g5b s w wr k c t ts _ hbig hlt hc ht htl _ _ _ _ _ _ _ _ _ _ _ _ _ _ _ _ _ _ _ _ _ _ _ _ _ _ _ _ _ _ _ _ _ _ _ _ _ _ _ _ _ _ _ _ _ _ _ _ _ _ _ _ _ _ _ _ _ _ _ _ _ _ _ _ _ _ _ _ _ _ _ _ _ _ _ _ _ _ _ _ _ _ _ _ _ _ _ _ _ _ _ _ _ _ _ _ _ _ _ _ _ _ _ _ _ _ _ _ _ _ _ _ _ _ _ _ _ _ _ _ _ _ _ _ _ _ _ _ _ _ _ _ _ _ _ _ _ _ _ _ _ _ _ _ _ _ _ _ _ _ _ _ _ _ _ _ _ _ _ _ _ _ _ _ _ _ _ _ _ _ _ _ _ _ _ _ _ _ _ _ _ _ _ HO he ?_ ?_ hcl HSP.out hn1
        · intro x n i v5 w4 y2 y3 y4 y7 y8 y9 y10 y11 y12 y13 y17 y18 y19 y20 y21 y22 y23 y24 y25 y26 y27 y28 y29 y30 y31 y32 y33 y34 y35 y36 y37 y38 y39 y40 y41 y42 y43 y44 y45 y46 y47 y48 y49 y50 y51 y52 y53 y54 y55 y56 y57 y58 y59 y60 y61 y62 y63 y64 y65 y66 y67 y68 y69 y70 y71 y72 y73 y74 y75 y76 y77 y78 y79 y80 y81 y82 y83 y84 y85 y86 y87 y88 y89 y90 y91 y92 y93 y94 y95 y96 y97 y98 y99 y100 y101 y102 y103 y104 y105 y106 y107 y108 y109 y110 y111 y112 y113 y114 y115 y116 y117 y118 y119 y120 y121 y122 y123 y124 y125 y126 y127 y128 y129 y130 y131 y132 y133 y134 y135 y136 y137 y138 y139 y140 y141 y142 y143 y144 y145 y146 y147 y148 y149 y150 y151 y152 y153 y154 y155 y156 y157 y158 y159 y160 y161 y162 y163 y164 y165 y166 y167 y168 y169 y170 y171 y172 y173 y174 y175 y176 y177 y178 y179 y180 y181 y182 y183 y184 y185 y186 y187 y188 hx hi hkn ho4 he4
          subst hi
          have hst := lex_step HL3.out HDK.out HSP.out hx
          have HST := Lib.hid hst
          have HO4 := Lib.hid ho4
          clear hst ho4 hx
          have REL : ∃ (k' f' : Nat) (ts' : List Tok), k' ≤ s.size ∧ Value.int .i64 ((k + n : Nat) : Int) = .int .i64 (k' : Int) ∧ w4.ownsRow w.heap.size 38 8 v5 ts'.length (toksCells ts') ∧ Ext w w4 ∧ s.size + 1 ≤ f' + k' ∧ ts'.length ≤ k' ∧ lexS (L s) = pre ts' (lexGo f' ((L s).drop k') k') := by
            refine ⟨k + n, f, ts ++ [{ x with at_ := (k : Int) }], hkn, rfl, ?_, he4, by have h1 := HF.out; have h2 := HST.out.2.1; omega, by have h2 := HST.out.2.1; rw [List.length_append, List.length_singleton]; omega, HST.out.1⟩
            rw [toksCells_snoc, List.length_append]
            exact HO4.out
          refine ⟨?_, ?_⟩
          · exact ⟨_, _, _, _, _, _, _, _, _, _, _, _, _, _, _, _, _, _, _, _, _, _, _, _, _, _, _, _, _, _, _, _, _, _, _, _, _, _, _, _, _, _, _, _, _, _, _, _, _, _, _, _, _, _, _, _, _, _, _, _, _, _, _, _, _, _, _, _, _, _, _, _, _, _, _, _, _, _, _, _, _, _, _, _, _, _, _, _, _, _, _, _, _, _, _, _, _, _, _, _, _, _, _, _, _, _, _, _, _, _, _, _, _, _, _, _, _, _, _, _, _, _, _, _, _, _, _, _, _, _, _, _, _, _, _, _, _, _, _, _, _, _, _, _, _, _, _, _, _, _, _, _, _, _, _, _, _, _, _, _, _, _, _, _, _, _, _, _, _, _, _, _, _, _, _, _, _, _, _, _, _, _, _, _, REL, rfl⟩
          · have h2 := HST.out.2.1
            show s.size - ((k + n : Nat) : Int).toNat < s.size - ((k : Nat) : Int).toNat
            rw [Int.toNat_natCast, Int.toNat_natCast]; omega
        · intro w4 y6 y5 y7 y8 y9 y10 y11 y12 y13 y17 y18 y19 y20 y21 y22 y23 y24 y25 y26 y27 y28 y29 y30 y31 y32 y33 y34 y35 y36 y37 y38 y39 y40 y41 y42 y43 y44 y45 y46 y47 y48 y49 y50 y51 y52 y53 y54 y55 y56 y57 y58 y59 y60 y61 y62 y63 y64 y65 y66 y67 y68 y69 y70 y71 y72 y73 y74 y75 y76 y77 y78 y79 y80 y81 y82 y83 y84 y85 y86 y87 y88 y89 y90 y91 y92 y93 y94 y95 y96 y97 y98 y99 y100 y101 y102 y103 y104 y105 y106 y107 y108 y109 y110 y111 y112 y113 y114 y115 y116 y117 y118 y119 y120 y121 y122 y123 y124 y125 y126 y127 y128 y129 y130 y131 y132 y133 y134 y135 y136 y137 y138 y139 y140 y141 y142 y143 y144 y145 y146 y147 y148 y149 y150 y151 y152 y153 y154 y155 y156 y157 y158 y159 y160 y161 y162 y163 y164 y165 y166 y167 y168 y169 y170 y171 y172 y173 y174 y175 y176 y177 y178 y179 y180 y181 y182 y183 y184 y185 y186 y187 y188 hx he4
          have HST := Lib.hid (lex_stop HL3.out HDK.out HSP.out hx)
          clear hx
          dsimp only
          go_simp
          go_ret3
          exact rlPost_err HST.out he4
    · have hkk : k = s.size := by omega
      subst hkk
      have HL3 : Hid (lexS (L s) = .ok ts) := by
        have h := HL2.out
        obtain ⟨f, rfl⟩ : ∃ f', f = f' + 1 := ⟨f - 1, by have := HF.out; omega⟩
        rw [List.drop_of_length_le (by rw [size_L]; omega)] at h
        show _ = _
        rw [h]
        simp [lexGo, pre]
      go_wp2
      go_ret3
      exact rlPost_ok HL3.out HO he
end Go.Proofs.YtcnnpedmccjdkaaGreatDoor
