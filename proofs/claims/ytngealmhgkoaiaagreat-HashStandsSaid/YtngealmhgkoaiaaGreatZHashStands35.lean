/- Walks: the reference's sum. -/
import Derived.Test.YtngealmhgkoaiaaGreatZHashStands04
import Derived.Test.YtngealmhgkoaiaaGreatZHashStands31
import Derived.Test.YtngealmhgkoaiaaGreatZHashStands26
import Derived.Test.YtngealmhgkoaiaaGreatZHashStands15
import Derived.StillTailTactics
import Derived.Deep.Cut
import Derived.Test.YtngealmhgkoaiaaGreatZHashStands34
import Derived.Test.YtngealmhgkoaiaaGreatZHashStands25
namespace Go.Proofs.YtngealmhgkoaiaaGreat
open Go.RowKit ShaM WireM
set_option linter.unusedVariables false
set_option maxRecDepth 100000 in
set_option maxHeartbeats 20000000 in
theorem rsum_any (v vh vk : Value) (L : List Nat) (w : World) (h : Rd w v (bvs L)) (hh : Rd w vh (qvs HL0)) (hk : Rd w vk (qvs KL)) (hL : ∀ x ∈ L, x < 256) (hl : L.length ≤ 1000000) :
  Calls Tryz.prog 186 #[v, vh, vk] w fun e w' => ∃ v', e = .returned v' ∧ Own w' w.heap.size 5 v' (bvs (shaF L)) ∧ Below w.heap.size w w' := by
 have hv : ∃ a c, v = .slice a L.length c := by obtain ⟨a, c, e, _⟩ := h; exact ⟨a, c, by rw [e, bvs_len]⟩
 obtain ⟨a0, c0, rfl⟩ := hv
 obtain ⟨a1, n1, c1, rfl⟩ := rdSl hh
 obtain ⟨a2, n2, c2, rfl⟩ := rdSl hk
 obtain ⟨n, hn⟩ : ∃ n, n = L.length := ⟨_, rfl⟩
 rw [← hn] at h hl ⊢
 obtain ⟨Z, hZ⟩ : ∃ Z, Z = (119 - n % 64) % 64 := ⟨_, rfl⟩
 have hTL : tailL n = ([128] ++ List.replicate Z 0) ++ beN 8 (8 * n) := by rw [tailL, ← hZ]; simp
 have HN := Lib.hid hn
 have HZ := Lib.hid hZ
 have HTL := Lib.hid hTL
 have H := Lib.hid h
 have HH := Lib.hid hh
 have HK := Lib.hid hk
 have HL := Lib.hid hL
 clear hn hZ hTL h hh hk hL
 go_enter Tryz.func186, Tryz.ntmps186
 go_wp2_with (first | (at_builtin; refine wpList_app rfl (.tmp 31) (.tmp 32) 192 rfl w.heap.size 126 _ 8 qvsE _ [] rfl (Own.lit0 rfl (Nat.le_refl _)) _ (qvs HL0) rfl (HH.out.alloc _) (qvs_one _) ?c2 ?c3 ?_))
 case c2 => rw [qvs_len, HL0_len]; simp
 case c3 => simp
 rintro v1 w1 hown - hb1
 have HO1 := Lib.hid hown
 have HB1 := Lib.hid (((Below.refl w.heap.size w).alloc (Nat.le_refl _) (.cells #[] 126)).trans hb1)
 obtain ⟨b1, b2, b3, rfl⟩ := slOf hown
 have R1 := Lib.hid (show Rd (w1.alloc (.cells #[] 5)) (.slice a0 n c0) (bvs L) from (H.out.below HB1.out (Nat.le_refl _)).alloc _)
 have O1 := Lib.hid (show Own (w1.alloc (.cells #[] 5)) w1.heap.size 5 (.slice (some ⟨w1.heap.size, 0, none⟩) 0 0) [] from Own.lit0 rfl (Nat.le_refl _))
 clear hown hb1
 go_wp2_with (first | (at_builtin; refine wpList_app rfl (.tmp 34) (.tmp 35) 25 rfl w1.heap.size 5 _ 1 bytesE _ [] rfl O1.out _ (bvs L) rfl R1.out (bvs_one _) ?d2 ?d3 ?_))
 case d2 => rw [bvs_len, ← HN.out]; simp; omega
 case d3 => simp
 rintro v2 w2 hown - hb2
 have HO2 := Lib.hid hown
 have HB2 := Lib.hid (((Below.refl w1.heap.size w1).alloc (Nat.le_refl _) (.cells #[] 5)).trans hb2)
 obtain ⟨d1, d2, d3, rfl⟩ := slOf hown
 clear hown hb2
 have O2 := Lib.hid (HO2.out.alloc (.cells #[.int .u8 128] 5))
 have R2 := Lib.hid (show Rd (w2.alloc (.cells #[.int .u8 128] 5)) (.slice (some ⟨w2.heap.size, 0, none⟩) 1 1) (bvs [128]) from (Own.full (B := 0) (cs := #[.int .u8 128]) rfl (Nat.zero_le _) (by unfold maxLen; simp) rfl).rd)
 go_wp2_with (first | (at_builtin; refine wpList_app rfl (.tmp 36) (.tmp 37) 25 rfl w1.heap.size 5 _ 1 bytesE _ (bvs L) rfl O2.out _ (bvs [128]) rfl R2.out (bvs_one _) ?e2 ?e3 ?_))
 case e2 => rw [bvs_len, ← HN.out, bvs_len]; simp; omega
 case e3 => have := HB2.out.size; simp; omega
 rintro v3 w3 hown - hb3
 rw [← bvs_append] at hown
 have HO3 := Lib.hid hown
 have HB3 := Lib.hid ((HB2.out.alloc HB2.out.size (.cells #[.int .u8 128] 5)).trans hb3)
 obtain ⟨e1, e2, e3, rfl⟩ := slOf hown
 clear hown hb3 O1 R1 O2 R2 HB2 HO2
 go_wp2_with fail
 go_loopg [8] Z (fun q m wr => ∃ j : Nat, j + q = Z ∧ Own wr w1.heap.size 5 m (bvs (padJ L j)) ∧ Below w1.heap.size w1 wr)
 case atStart => exact ⟨0, by omega, by rw [padJ_zero]; exact HO3.out, HB3.out⟩
 case round =>
  obtain ⟨j, hj, hown, hb⟩ := hrel
  obtain ⟨m1, m2, m3, rfl⟩ := slOf hown
  have hm2 : m2 = n + 1 + j := by
   obtain ⟨_, _, e, _⟩ := hown.rd
   simp only [Value.slice.injEq, bvs_len, padJ_len] at e
   have := HN.out
   omega
  subst hm2
  have HJ := Lib.hid hj
  have HOJ := Lib.hid hown
  have HBJ := Lib.hid hb
  have hz := HZ.out
  by_cases hlt : j < Z
  ·have hc : (((n + 1 + j : Nat) : Int) % 64 != 56) = true := by simp; omega
   have OJ := Lib.hid (HOJ.out.alloc (.cells #[.int .u8 0] 5))
   have RJ := Lib.hid (show Rd (wr.alloc (.cells #[.int .u8 0] 5)) (.slice (some ⟨wr.heap.size, 0, none⟩) 1 1) (bvs [0]) from (Own.full (B := 0) (cs := #[.int .u8 0]) rfl (Nat.zero_le _) (by unfold maxLen; simp) rfl).rd)
   clear hj hown hb hz
   go_wp2_with (first | (at_builtin; refine wpList_app rfl (.tmp 43) (.tmp 44) 25 rfl w1.heap.size 5 _ 1 bytesE _ _ rfl OJ.out _ (bvs [0]) rfl RJ.out (bvs_one _) ?f2 ?f3 ?_))
   case f2 => simp only [bvs_len, padJ_len, List.length_cons, List.length_nil]; have := HN.out; have := HZ.out; omega
   case f3 => have := HBJ.out.size; simp; omega
   rintro v4 w4 hown - hb4
   rw [← bvs_append, ← padJ_succ] at hown
   have HO4 := Lib.hid hown
   have HB4 := Lib.hid ((HBJ.out.alloc HBJ.out.size (.cells #[.int .u8 0] 5)).trans hb4)
   obtain ⟨f1, f2, f3, rfl⟩ := slOf hown
   clear hown hb4 OJ RJ
   go_wp2_with fail
   go_roundg (gk - 1)
   case measure => have := HJ.out; omega
   case rel => exact ⟨j + 1, by have := HJ.out; omega, HO4.out, HB4.out⟩
  ·obtain rfl : j = Z := by omega
   have hc : (((n + 1 + j : Nat) : Int) % 64 != 56) = false := by simp; omega
   clear hj hown hb hz hlt
   obtain ⟨wo, rfl⟩ : ∃ wo : World, wo = wr := ⟨_, rfl⟩
   go_wp2_with fail
   have hcq : (((n : Int) + 1 + (j : Int)) % 64 != 56) = false := by simpa using hc
   simp only [hcq]
   clear hcq hc
   have HQ := Lib.hid (show Own wo w1.heap.size 5 (.slice m1 (n + 1 + j) m3) (bvs (padI L j 0)) by rw [padI_zero]; exact HOJ.out)
   go_loopg [8, 10] 8 (fun q m iv wr => ∃ i : Nat, i + q = 8 ∧ iv = .int .i64 (i : Nat) ∧ Own wr w1.heap.size 5 m (bvs (padI L j i)) ∧ Below w1.heap.size w1 wr)
   case atStart => exact ⟨0, rfl, rfl, HQ.out, HBJ.out⟩
   case round =>
    obtain ⟨i, hi, rfl, hown, hb⟩ := hrel
    have HI := Lib.hid hi
    have HOI := Lib.hid hown
    have HBI := Lib.hid hb
    obtain ⟨p1, p2, p3, rfl⟩ := slOf hown
    clear hown hb
    obtain ⟨wi, rfl⟩ : ∃ wi : World, wi = wr := ⟨_, rfl⟩
    obtain ⟨g2, rfl⟩ : ∃ g2, g2 = gk := ⟨_, rfl⟩
    by_cases hlt : i < 8
    ·have hltd : decide ((i : Int) < 8) = true := by rw [decide_eq_true_iff]; omega
     clear hi
     go_wp2_with fail
     go_loopg [11, 12] (7 - i) (fun q uv kv wr => ∃ k u : Nat, k + q = 7 - i ∧ kv = .int .i64 (k : Nat) ∧ uv = .int .u64 (u : Nat) ∧ u = 256 ^ k ∧ wi = wr)
     case atStart => exact ⟨0, 1, by omega, rfl, rfl, rfl, rfl⟩
     case round =>
      obtain ⟨k, u, hk, rfl, rfl, hu, rfl⟩ := hrel
      have hu7 : u ≤ 256 ^ 7 := by rw [hu]; exact Nat.pow_le_pow_right (by omega) (by omega)
      have hup : 0 < u := by rw [hu]; exact Nat.pow_pos (by omega)
      have HU := Lib.hid hu
      have HKK := Lib.hid hk
      by_cases hlk : k < 7 - i
      ·have hlkd : decide ((k : Int) < 7 - (i : Int)) = true := by rw [decide_eq_true_iff]; omega
       have hu6 : u ≤ 256 ^ 6 := by rw [hu]; exact Nat.pow_le_pow_right (by omega) (by omega)
       clear hk hu hu7
       go_wp2_with fail
       go_roundg (gk - 1)
       case measure => have := HKK.out; omega
       case rel => exact ⟨k + 1, u * 256, by have := HKK.out; omega, by go_num, by go_num, by rw [HU.out, Nat.pow_succ], rfl⟩
      ·have hlkd : decide ((k : Int) < 7 - (i : Int)) = false := by rw [decide_eq_false_iff_not]; omega
       obtain rfl : k = 7 - i := by omega
       obtain ⟨x, hx⟩ : ∃ x : Nat, x = 8 * n / u := ⟨_, rfl⟩
       have hxl : x ≤ 8000000 := by rw [hx]; exact Nat.le_trans (Nat.div_le_self _ _) (by omega)
       have hxq : (n : Int) * 8 / (u : Int) = (x : Int) := by rw [hx, Int.natCast_ediv, Nat.mul_comm 8 n]; rfl
       have HX := Lib.hid hx
       have hp2 : p2 = n + 1 + j + i := by
        obtain ⟨_, _, e, _⟩ := HOI.out.rd
        simp only [Value.slice.injEq, bvs_len] at e
        rw [padI_len _ _ (by omega)] at e
        have := HN.out
        omega
       subst hp2
       have hu0 : ¬ u = 0 := by omega
       have hu1 : ¬ (u : Int) = 0 := by omega
       clear hk hu hx hu7
       have OI := Lib.hid (HOI.out.alloc (.cells #[.int .u8 ((x : Int) % 256)] 5))
       have RI := Lib.hid (show Rd (wi.alloc (.cells #[.int .u8 ((x : Int) % 256)] 5)) (.slice (some ⟨wi.heap.size, 0, none⟩) 1 1) (bvs [x % 256]) from (Own.full (B := 0) (cs := #[.int .u8 ((x : Int) % 256)]) rfl (Nat.zero_le _) (by unfold maxLen; simp) rfl).rd)
       go_wp2_with (first | (at_builtin; refine wpList_app rfl (.tmp 62) (.tmp 68) 25 rfl w1.heap.size 5 _ 1 bytesE _ _ rfl OI.out _ (bvs [x % 256]) rfl RI.out (bvs_one _) ?g2 ?g3 ?_))
       case g2 => simp only [bvs_len, List.length_cons, List.length_nil]; rw [padI_len _ _ (by omega)]; have := HN.out; have := HZ.out; omega
       case g3 => have := HBI.out.size; simp; omega
       rintro v4 w4 hown - hb4
       have ex : x = 8 * L.length / 256 ^ (7 - i) := by rw [HX.out, HU.out, HN.out]
       rw [← bvs_append, ex, ← padI_succ _ _ hlt] at hown
       have HO4 := Lib.hid hown
       have HB4 := Lib.hid ((HBI.out.alloc HBI.out.size (.cells #[.int .u8 ((x : Int) % 256)] 5)).trans hb4)
       obtain ⟨f1, f2, f3, rfl⟩ := slOf hown
       clear hown hb4 OI RI ex
       go_wp2_with fail
       go_roundg (g2 - 1)
       case measure => have := HI.out; omega
       case rel => exact ⟨i + 1, by have := HI.out; omega, by go_num, HO4.out, HB4.out⟩
    ·obtain rfl : i = 8 := by omega
     clear hi
     go_wp2_with fail
     have hPE : padI L j 8 = padL L := by have e1 := HZ.out; have e2 := HN.out; rw [e1, e2]; exact padI_end L
     rw [hPE] at HOI
     have hpl := padL_len L
     have hpb := padL_lt HL.out
     have hpl2 := padL_len2 L
     obtain ⟨P, hP⟩ : ∃ P, P = padL L := ⟨_, rfl⟩
     rw [← hP] at HOI hpl hpb hpl2
     obtain ⟨nb, hnb⟩ : ∃ nb, P.length = 64 * nb := ⟨P.length / 64, by omega⟩
     have hnb0 : 0 < nb := by
      rcases Nat.eq_zero_or_pos nb with h | h
      ·have : P.length = 0 := by rw [hnb, h]
       rw [hP, padL, List.length_append, tailL, List.length_cons] at this
       omega
      ·exact h
     have hp2 : p2 = 64 * nb := by
      obtain ⟨_, _, e, _⟩ := HOI.out.rd
      simp only [Value.slice.injEq, bvs_len] at e
      omega
     obtain ⟨mb, hp1, hmb, hmbl⟩ : ∃ mb, p1 = some ⟨mb, 0, none⟩ ∧ w1.heap.size ≤ mb ∧ mb < wi.heap.size := by
      rcases HOI.out.2 with ⟨e, e0⟩ | ⟨g, cp, cur, e, hb, hg, _⟩
      ·simp only [Value.slice.injEq] at e; omega
      ·simp only [Value.slice.injEq] at e
       refine ⟨g, e.1, hb, ?_⟩
       rcases Nat.lt_or_ge g wi.heap.size with h | h
       ·exact h
       ·rw [Array.getElem?_eq_none h] at hg; cases hg
     obtain ⟨hb, hb1, hbl, hbu, hb2⟩ : ∃ hb, b1 = some ⟨hb, 0, none⟩ ∧ w.heap.size ≤ hb ∧ hb < w1.heap.size ∧ b2 = 8 := by
      rcases HO1.out.2 with ⟨e, e0⟩ | ⟨g, cp, cur, e, hb, hg, _⟩
      ·simp [HL0_len] at e0
      ·simp only [Value.slice.injEq] at e
       refine ⟨g, e.1, hb, ?_, by rw [e.2.1]; simp [HL0_len]⟩
       rcases Nat.lt_or_ge g w1.heap.size with h | h
       ·exact h
       ·rw [Array.getElem?_eq_none h] at hg; cases hg
     subst hp2 hp1 hb1 hb2
     obtain ⟨N, hN⟩ : ∃ N, N = 64 * nb := ⟨_, rfl⟩
     have HNN := Lib.hid hN
     have hNl : N ≤ 1000072 := by have := HN.out; omega
     rw [← hN] at HOI
     have HOH := Lib.hid (show Own wi w.heap.size 126 (.slice (some ⟨hb, 0, none⟩) 8 b3) (qvs HL0) from HO1.out.below HBI.out (Nat.le_refl _))
     have HP0 := Lib.hid HOI.out.rd
     have HBW := Lib.hid (HB1.out.trans (HBI.out.mono HB1.out.size))
     have HPP := Lib.hid hP
     have HNB := Lib.hid hnb
     have HPL := Lib.hid hpl2
     rw [← hN]
     clear hpl hP hPE hnb hpl2 HBI HOI HO3 HB3 HO1 hN
     clear HB1 HQ HOJ HBJ HTL
     go_wp2_with fail
     go_loopg [13] nb (fun q av wr => ∃ b a : Nat, b + q = nb ∧ a = 64 * b ∧ av = .int .i64 (a : Nat) ∧ Own wr w.heap.size 126 (.slice (some ⟨hb, 0, none⟩) 8 b3) (qvs (blocksN P HL0 b)) ∧ Rd wr (.slice (some ⟨mb, 0, none⟩) N p3) (bvs P) ∧ Below w.heap.size w wr)
     case atStart => exact ⟨0, 0, by omega, rfl, rfl, HOH.out, HP0.out, HBW.out⟩
     case round =>
      obtain ⟨b, a, hbq, hab, rfl, hoh, hpr, hbw⟩ := hrel
      have HOB := Lib.hid hoh
      have HPB := Lib.hid hpr
      have HBB := Lib.hid hbw
      have HQB := Lib.hid hbq
      have HAB := Lib.hid hab
      clear hoh hpr hbw
      obtain ⟨wo, rfl⟩ : ∃ wo : World, wo = wr := ⟨_, rfl⟩
      obtain ⟨g4, rfl⟩ : ∃ g4, g4 = gk := ⟨_, rfl⟩
      by_cases hlb : b < nb
      ·have haN : a + 64 ≤ N := by have := HNN.out; omega
       have hlbd : decide ((a : Int) < (N : Int)) = true := by rw [decide_eq_true_iff]; omega
       have hlbd' : decide (a < N) = true := by rw [decide_eq_true_iff]; omega
       obtain ⟨B, hB⟩ : ∃ B, B = (P.drop (64 * b)).take 64 := ⟨_, rfl⟩
       have hBl : B.length = 64 := by rw [hB, List.length_take, List.length_drop, HNB.out, ← HNN.out, ← HAB.out]; omega
       have hBb : ∀ x ∈ B, x < 256 := fun x hx => hpb x (List.mem_of_mem_drop (List.mem_of_mem_take (hB ▸ hx)))
       have hBg : ∀ j, j < 64 → B.getD j 0 = P.getD (a + j) 0 := by
        intro j hj
        rw [hB, List.getD_eq_getElem?_getD, List.getElem?_take, if_pos hj, List.getElem?_drop, ← HAB.out, List.getD_eq_getElem?_getD]
       have HBG := Lib.hid hBg
       have HBE := Lib.hid hB
       have HBL := Lib.hid hBl
       have HBN := Lib.hid hBb
       clear hB hbq hBg hBl hBb hab
       go_wp2_with fail
       go_loopg [14, 15] 64 (fun q wl tv wr => ∃ t : Nat, t + q = 64 ∧ tv = .int .i64 (t : Nat) ∧ Own wr wo.heap.size 126 wl (qvs (wL B t)) ∧ Below wo.heap.size wo wr)
       case atStart => exact ⟨0, rfl, rfl, Own.nil _ _ _, Below.refl _ _⟩
       case round =>
        obtain ⟨t, ht, rfl, hown, hbt⟩ := hrel
        have HT := Lib.hid ht
        have HOT := Lib.hid hown
        have HBT := Lib.hid hbt
        obtain ⟨q1, q2, q3, rfl⟩ := slOf hown
        obtain ⟨wt, rfl⟩ : ∃ wt : World, wt = wr := ⟨_, rfl⟩
        obtain ⟨g5, rfl⟩ : ∃ g5, g5 = gk := ⟨_, rfl⟩
        obtain rfl : q2 = t := by
         obtain ⟨_, _, e, _⟩ := hown.rd
         simp only [Value.slice.injEq, qvs_len, wL_len] at e
         exact e.2.1
        have HRB := Lib.hid (HPB.out.below hbt (Nat.le_refl _))
        clear hown hbt
        by_cases hlt : q2 < 64
        ·have hltd : decide ((q2 : Int) < 64) = true := by rw [decide_eq_true_iff]; omega
         clear ht
         by_cases h16 : q2 < 16
         ·have h16d : decide ((q2 : Int) < 16) = true := by rw [decide_eq_true_iff]; omega
          go_wp2_with fail
          go_loopg [16, 17] 4 (fun q xv iv wr => ∃ i x : Nat, i + q = 4 ∧ iv = .int .i64 (i : Nat) ∧ xv = .int .u64 (x : Nat) ∧ x = xN B q2 i ∧ wt = wr)
          case atStart => exact ⟨0, 0, rfl, rfl, rfl, rfl, rfl⟩
          case round =>
           obtain ⟨i, x, hi, rfl, rfl, hx, rfl⟩ := hrel
           have HI := Lib.hid hi
           have HX := Lib.hid hx
           by_cases hli : i < 4
           ·have hlid : decide ((i : Int) < 4) = true := by rw [decide_eq_true_iff]; omega
            have hx3 : x < 16777216 := by rw [hx]; exact xN_lt3 HBN.out q2 hli
            obtain ⟨p0, hp0⟩ : ∃ p, p = a + 4 * q2 := ⟨_, rfl⟩
            obtain ⟨p1, hp1⟩ : ∃ p, p = p0 + i := ⟨_, rfl⟩
            have i0 : (a : Int) + 4 * (q2 : Int) = (p0 : Int) := by omega
            have i1 : (p0 : Int) + (i : Int) = (p1 : Int) := by omega
            have l0 : p0 < N := by omega
            have l1 : p1 < N := by omega
            have hy := HRB.out.at3 (bvs_getD (show p1 < P.length by rw [HNB.out, ← HNN.out]; exact l1))
            obtain ⟨_, _, e, hml, hc⟩ := hy
            simp only [Option.some.injEq, Addr.mk.injEq, and_true] at e
            obtain ⟨rfl, rfl⟩ := e
            rw [Nat.zero_add] at hc
            obtain ⟨y, hye⟩ : ∃ y, y = P.getD p1 0 := ⟨_, rfl⟩
            rw [← hye] at hc
            have hy256 : y < 256 := by rw [hye]; exact getD_lt hpb (by omega) _
            have HY := Lib.hid (show y = B.getD (4 * q2 + i) 0 by rw [HBG.out _ (by omega), hye, hp1, hp0, Nat.add_assoc])
            clear hi hx hp0 hp1 hye
            go_wp2_with fail
            go_roundg (gk - 1)
            case measure => have := HI.out; omega
            case rel => exact ⟨i + 1, 256 * x + y, by have := HI.out; omega, by go_num, by go_num, by rw [xN, ← HX.out, ← HY.out], rfl⟩
           ·obtain rfl : i = 4 := by omega
            have hx4 : x < 4294967296 := by rw [hx]; exact xN_lt4 HBN.out q2
            clear hi hx hli
            have HXE := Lib.hid (show x = wNext B (wL B q2) q2 by rw [HX.out]; exact xN_four _ _ h16)
            have OT := Lib.hid (HOT.out.alloc (.cells #[.int .u64 (x : Int)] 126))
            have RT := Lib.hid (show Rd (wt.alloc (.cells #[.int .u64 (x : Int)] 126)) (.slice (some ⟨wt.heap.size, 0, none⟩) 1 1) (qvs [x]) from Rd.lit _ _ _ _ _ rfl rfl (by unfold maxLen; simp))
            go_wp2_with (first | (at_builtin; refine wpList_app rfl (.tmp 99) (.tmp 101) 192 rfl wo.heap.size 126 _ 8 qvsE _ _ rfl OT.out _ (qvs [x]) rfl RT.out (qvs_one _) ?h2 ?h3 ?_))
            case h2 => simp only [qvs_len, wL_len, List.length_cons, List.length_nil]; omega
            case h3 => have := HBT.out.size; simp; omega
            rintro v4 w4 hown - hb4
            rw [← qvs_append, HXE.out] at hown
            have HO4 := Lib.hid (show Own w4 wo.heap.size 126 v4 (qvs (wL B (q2 + 1))) from hown)
            have HB4 := Lib.hid ((HBT.out.alloc HBT.out.size (.cells #[.int .u64 (x : Int)] 126)).trans hb4)
            clear hown hb4 OT RT
            go_wp2_with fail
            go_roundg (g5 - 1)
            case measure => have := HT.out; omega
            case rel => exact ⟨q2 + 1, by have := HT.out; omega, by go_num, HO4.out, HB4.out⟩
         ·have h16d : decide ((q2 : Int) < 16) = false := by rw [decide_eq_false_iff_not]; omega
          obtain ⟨gw, hq1⟩ : ∃ g, q1 = some ⟨g, 0, none⟩ := by
           rcases HOT.out.2 with ⟨e, e0⟩ | ⟨g, cp, cur, e, _⟩
           ·simp only [Value.slice.injEq] at e; omega
           ·simp only [Value.slice.injEq] at e; exact ⟨g, e.1⟩
          subst hq1
          have CC := fun (j : Nat) (hj : j < q2) => (HOT.out.at).1 j _ (qvs_get (L := wL B q2) (i := j) (by rw [wL_len]; exact hj))
          have wl := wL_lt HBN.out q2
          obtain ⟨p0, hp0⟩ : ∃ p, p = q2 - 15 := ⟨_, rfl⟩
          obtain ⟨p1, hp1⟩ : ∃ p, p = q2 - 2 := ⟨_, rfl⟩
          obtain ⟨p2, hp2⟩ : ∃ p, p = q2 - 7 := ⟨_, rfl⟩
          obtain ⟨p4, hp4⟩ : ∃ p, p = q2 - 16 := ⟨_, rfl⟩
          have i0 : (q2 : Int) - 15 = (p0 : Int) := by omega
          have i1 : (q2 : Int) - 2 = (p1 : Int) := by omega
          have i2 : (q2 : Int) - 7 = (p2 : Int) := by omega
          have i4 : (q2 : Int) - 16 = (p4 : Int) := by omega
          have l0 : p0 < q2 := by omega
          have l1 : p1 < q2 := by omega
          have l2 : p2 < q2 := by omega
          have l4 : p4 < q2 := by omega
          have m0 : (p0 : Int) < (q2 : Int) := by omega
          have m1 : (p1 : Int) < (q2 : Int) := by omega
          have m2 : (p2 : Int) < (q2 : Int) := by omega
          have m4 : (p4 : Int) < (q2 : Int) := by omega
          have c0 := CC p0 l0
          have c1 := CC p1 l1
          have c2 := CC p2 l2
          have c4 := CC p4 l4
          obtain ⟨y0, hy0⟩ : ∃ y, y = (wL B q2).getD p0 0 := ⟨_, rfl⟩
          obtain ⟨y1, hy1⟩ : ∃ y, y = (wL B q2).getD p1 0 := ⟨_, rfl⟩
          obtain ⟨y2, hy2⟩ : ∃ y, y = (wL B q2).getD p2 0 := ⟨_, rfl⟩
          obtain ⟨y4, hy4⟩ : ∃ y, y = (wL B q2).getD p4 0 := ⟨_, rfl⟩
          rw [← hy0] at c0
          rw [← hy1] at c1
          rw [← hy2] at c2
          rw [← hy4] at c4
          have x0 : y0 < 4294967296 := by rw [hy0]; exact getD_lt32 wl _
          have x1 : y1 < 4294967296 := by rw [hy1]; exact getD_lt32 wl _
          have x2 : y2 < 4294967296 := by rw [hy2]; exact getD_lt32 wl _
          have x4 : y4 < 4294967296 := by rw [hy4]; exact getD_lt32 wl _
          obtain ⟨r1, hr1⟩ : ∃ r, r = rot y0 7 := ⟨_, rfl⟩
          obtain ⟨r2, hr2⟩ : ∃ r, r = rot y0 18 := ⟨_, rfl⟩
          obtain ⟨r3, hr3⟩ : ∃ r, r = rot y1 17 := ⟨_, rfl⟩
          obtain ⟨r4, hr4⟩ : ∃ r, r = rot y1 19 := ⟨_, rfl⟩
          obtain ⟨s1, hs1⟩ : ∃ r, r = y0 / 8 := ⟨_, rfl⟩
          obtain ⟨s2, hs2⟩ : ∃ r, r = y1 / 1024 := ⟨_, rfl⟩
          have R1 := Lib.hid (fun W => turnZ y0 7 r1 7 rfl x0 (by omega) hr1 W)
          have R2 := Lib.hid (fun W => turnZ y0 18 r2 18 rfl x0 (by omega) hr2 W)
          have R3 := Lib.hid (fun W => turnZ y1 17 r3 17 rfl x1 (by omega) hr3 W)
          have R4 := Lib.hid (fun W => turnZ y1 19 r4 19 rfl x1 (by omega) hr4 W)
          have S1 := Lib.hid (fun W => shiftZ y0 3 s1 3 rfl x0 (by omega) hs1 W)
          have S2 := Lib.hid (fun W => shiftZ y1 10 s2 10 rfl x1 (by omega) hs2 W)
          have b1 : r1 < 4294967296 := by rw [hr1]; exact rot_lt x0 (by omega)
          have b2 : r2 < 4294967296 := by rw [hr2]; exact rot_lt x0 (by omega)
          have b3 : r3 < 4294967296 := by rw [hr3]; exact rot_lt x1 (by omega)
          have b4 : r4 < 4294967296 := by rw [hr4]; exact rot_lt x1 (by omega)
          have X1 := u64_xor_nat r1 r2 (by omega) (by omega)
          have X2 := u64_xor_nat (r1 ^^^ r2) s1 (by have := xor_lt32 b1 b2; omega) (by omega)
          have X3 := u64_xor_nat r3 r4 (by omega) (by omega)
          have X4 := u64_xor_nat (r3 ^^^ r4) s2 (by have := xor_lt32 b3 b4; omega) (by omega)
          obtain ⟨z1, hz1⟩ : ∃ z, z = r1 ^^^ r2 := ⟨_, rfl⟩
          obtain ⟨z3, hz3⟩ : ∃ z, z = r3 ^^^ r4 := ⟨_, rfl⟩
          rw [← hz1] at X1 X2
          rw [← hz3] at X3 X4
          obtain ⟨z2, hz2⟩ : ∃ z, z = z1 ^^^ s1 := ⟨_, rfl⟩
          obtain ⟨z4, hz4⟩ : ∃ z, z = z3 ^^^ s2 := ⟨_, rfl⟩
          rw [← hz2] at X2
          rw [← hz4] at X4
          have HV := Lib.hid (show (z4 + y2 + z2 + y4) % 4294967296 = wNext B (wL B q2) q2 by
           unfold wNext
           rw [if_neg h16, s0N, s1N, ← hp0, ← hp1, ← hp2, ← hp4, ← hy0, ← hy1, ← hy2, ← hy4, ← hr1, ← hr2, ← hr3, ← hr4, ← hz1, ← hz3, ← hs1, ← hs2, ← hz2, ← hz4])
          have b5 : z2 < 4294967296 := by rw [hz2, hz1]; exact xor_lt32 (xor_lt32 b1 b2) (by omega)
          have b6 : z4 < 4294967296 := by rw [hz4, hz3]; exact xor_lt32 (xor_lt32 b3 b4) (by omega)
          clear hp0 hp1 hp2 hp4 hy0 hy1 hy2 hy4 CC wl hs1 hs2 hr1 hr2 hr3 hr4 hz1 hz2 hz3 hz4
          go_wp2_with fail
          go_quiet ((first | (go_at_call 233; first | with_reducible exact Calls.quiet_of_same (R1.out _) | with_reducible exact Calls.quiet_of_same (R2.out _)) | (go_at_call 234; with_reducible exact Calls.quiet_of_same (S1.out _))))
          obtain ⟨na, rfl⟩ : ∃ na, na = nq := ⟨_, rfl⟩
          go_wp2_with fail
          go_quiet ((first | (go_at_call 233; first | with_reducible exact quiet2 (R3.out _) | with_reducible exact quiet2 (R4.out _)) | (go_at_call 234; with_reducible exact quiet2 (S2.out _))))
          obtain ⟨nd, rfl⟩ : ∃ nd, nd = nq := ⟨_, rfl⟩
          go_wp2_with fail
          obtain ⟨wz, hwz⟩ : ∃ X, X = (wt.drewN na).drewN nd := ⟨_, rfl⟩
          rw [← hwz]
          have HOZ := Lib.hid (show Own wz wo.heap.size 126 (.slice (some ⟨gw, 0, none⟩) q2 q3) (qvs (wL B q2)) by rw [hwz]; exact (HOT.out.drewN _).drewN _)
          have HBZ := Lib.hid (show Below wo.heap.size wo wz by rw [hwz]; exact below_drewN' (below_drewN' HBT.out _) _)
          have k2 : wz.cell? ⟨gw, p2, none⟩ = some (.int .u64 (y2 : Int)) := by rw [hwz]; exact c2
          have k4 : wz.cell? ⟨gw, p4, none⟩ = some (.int .u64 (y4 : Int)) := by rw [hwz]; exact c4
          clear c0 c1 c2 c4 hwz
          obtain ⟨xx, hxx⟩ : ∃ x : Nat, x = wNext B (wL B q2) q2 := ⟨_, rfl⟩
          have HXX := Lib.hid hxx
          have e9 : ((z4 : Int) + (y2 : Int) + (z2 : Int) + (y4 : Int)) % 4294967296 = (xx : Int) := by rw [hxx, ← HV.out]; omega
          have hgl : gw < wz.heap.size := World.block_lt_of_cell? _ _ k2
          clear hxx
          refine wp_region_tail [fun v _ => v = .slice (some ⟨gw, 0, none⟩) q2 q3, fun v _ => v = .int .u64 (z4 : Nat), fun v _ => v = .slice (some ⟨gw, 0, none⟩) q2 q3, fun v _ => v = .int .i64 (q2 : Nat), fun v _ => v = .int .i64 (p2 : Nat), fun v _ => v = .pointer (some ⟨gw, p2, none⟩), fun v _ => v = .int .u64 (y2 : Nat), fun v _ => v = .int .u64 ((z4 : Int) + (y2 : Int)), fun v _ => v = .int .u64 (z2 : Nat), fun v _ => v = .int .u64 ((z4 : Int) + (y2 : Int) + (z2 : Int)), fun v _ => v = .slice (some ⟨gw, 0, none⟩) q2 q3, fun v _ => v = .int .i64 (q2 : Nat), fun v _ => v = .int .i64 (p4 : Nat), fun v _ => v = .pointer (some ⟨gw, p4, none⟩), fun v _ => v = .int .u64 (y4 : Nat), fun v _ => v = .int .u64 ((z4 : Int) + (y2 : Int) + (z2 : Int) + (y4 : Int)), fun v _ => v = .int .u64 (xx : Nat), fun v w' => ∃ g, v = .slice (some ⟨g, 0, none⟩) 1 1 ∧ Rd w' v [.int .u64 (xx : Nat)], fun v w' => Own w' wo.heap.size 126 v (qvs (wL B q2) ++ [.int .u64 (xx : Nat)]) ∧ Below wo.heap.size wz w', fun v w' => Own w' wo.heap.size 126 v (qvs (wL B q2) ++ [.int .u64 (xx : Nat)]) ∧ Below wo.heap.size wz w']
           [false, false, false, false, false, false, false, false, false, false, false, false, false, false, false, false, false, false, false, true] [false, false, false, false, false, false, false, false, false, false, false, false, false, false, false, false, false, false, false, true] 18 (by kernel_rfl) ?_ (by kernel_rfl) (by kernel_rfl) (by kernel_rfl) ?_ ?_
          ·exact keeps_cons (fun _ _ _ h _ => h) (keeps_cons (fun _ _ _ h _ => h) (keeps_cons (fun _ _ _ h _ => h) (keeps_cons (fun _ _ _ h _ => h) (keeps_cons (fun _ _ _ h _ => h) (keeps_cons (fun _ _ _ h _ => h) (keeps_cons (fun _ _ _ h _ => h) (keeps_cons (fun _ _ _ h _ => h) (keeps_cons (fun _ _ _ h _ => h) (keeps_cons (fun _ _ _ h _ => h) (keeps_cons (fun _ _ _ h _ => h) (keeps_cons (fun _ _ _ h _ => h) (keeps_cons (fun _ _ _ h _ => h) (keeps_cons (fun _ _ _ h _ => h) (keeps_cons (fun _ _ _ h _ => h) (keeps_cons (fun _ _ _ h _ => h) (keeps_cons (fun _ _ _ h _ => h) (keeps_cons (fun v w1 w2 h hb => let ⟨g, e, h2⟩ := h; ⟨g, e, h2.below hb (Nat.le_refl _)⟩) (keeps_cons (fun v w1 w2 h hb => ⟨Own.below h.1 hb (Nat.le_refl _), h.2.trans (hb.mono (Nat.le_trans (HBZ.out.size) h.2.size))⟩) (keeps_cons (fun v w1 w2 h hb => ⟨Own.below h.1 hb (Nat.le_refl _), h.2.trans (hb.mono (Nat.le_trans (HBZ.out.size) h.2.size))⟩) (keeps_nil))))))))))))))))))))
          ·refine .cons (owed6_go ?_) (.cons (owed6_go ?_) (.cons (owed6_go ?_) (.cons (owed6_go ?_) (.cons (owed6_go ?_) (.cons (owed6_go ?_) (.cons (owed6_go ?_) (.cons (owed6_go ?_) (.cons (owed6_go ?_) (.cons (owed6_go ?_) (.cons (owed6_go ?_) (.cons (owed6_go ?_) (.cons (owed6_go ?_) (.cons (owed6_go ?_) (.cons (owed6_go ?_) (.cons (owed6_go ?_) (.cons (owed6_go ?_) (.cons (owed6_go ?_) (.cons (owed6_go ?_) (.cons (owed6_go ?_) (.nil))))))))))))))))))))
           ·intro a wx hbx ho hf
            refine ⟨rfl, ?_⟩
            intro K hK
            have hbx := hbx rfl
            have e0 : a.tmps[14]?.getD undef = .slice (some ⟨gw, 0, none⟩) q2 q3 := ho 14 (by kernel_rfl)
            go_simp
            exact hK _ _ rfl (fun _ => Below.refl _ _)
           ·intro a wx hbx ho hf
            refine ⟨rfl, ?_⟩
            intro K hK
            have hbx := hbx rfl
            have e0 : a.tmps[19]?.getD undef = .int .u64 (z4 : Nat) := ho 19 (by kernel_rfl)
            go_simp
            exact hK _ _ rfl (fun _ => Below.refl _ _)
           ·intro a wx hbx ho hf
            refine ⟨rfl, ?_⟩
            intro K hK
            have hbx := hbx rfl
            have e0 : a.tmps[14]?.getD undef = .slice (some ⟨gw, 0, none⟩) q2 q3 := ho 14 (by kernel_rfl)
            go_simp
            exact hK _ _ rfl (fun _ => Below.refl _ _)
           ·intro a wx hbx ho hf
            refine ⟨rfl, ?_⟩
            intro K hK
            have hbx := hbx rfl
            have e0 : a.tmps[15]?.getD undef = .int .i64 (q2 : Nat) := ho 15 (by kernel_rfl)
            go_simp
            exact hK _ _ rfl (fun _ => Below.refl _ _)
           ·intro a wx hbx ho hf
            refine ⟨rfl, ?_⟩
            intro K hK
            have hbx := hbx rfl
            have e0 : a.tmps[146]?.getD undef = .int .i64 (q2 : Nat) := hf.1
            have gw1 : IntKind.i64.wrap ((p2 : Int)) = (p2 : Int) := by rw [IntKind.wrap_i64]; omega
            have gw2 : (q2 : Int) - 7 = (p2 : Int) := by omega
            have gw3 : IntKind.i64.wrap ((q2 : Int) - 7) = (p2 : Int) := by rw [gw2]; exact gw1
            go_simp
            exact hK _ _ rfl (fun _ => Below.refl _ _)
           ·intro a wx hbx ho hf
            refine ⟨rfl, ?_⟩
            intro K hK
            have hbx := hbx rfl
            have e0 : a.tmps[145]?.getD undef = .slice (some ⟨gw, 0, none⟩) q2 q3 := hf.1
            have e1 : a.tmps[147]?.getD undef = .int .i64 (p2 : Nat) := hf.2.1
            go_simp
            exact hK _ _ rfl (fun _ => Below.refl _ _)
           ·intro a wx hbx ho hf
            refine ⟨rfl, ?_⟩
            intro K hK
            have hbx := hbx rfl
            have e0 : a.tmps[148]?.getD undef = .pointer (some ⟨gw, p2, none⟩) := hf.1
            have d1 := (hbx.cell (p := ⟨gw, p2, none⟩) hgl).trans k2
            go_simp
            exact hK _ _ rfl (fun _ => Below.refl _ _)
           ·intro a wx hbx ho hf
            refine ⟨rfl, ?_⟩
            intro K hK
            have hbx := hbx rfl
            have e0 : a.tmps[144]?.getD undef = .int .u64 (z4 : Nat) := hf.1
            have e1 : a.tmps[149]?.getD undef = .int .u64 (y2 : Nat) := hf.2.1
            have gw1 : IntKind.u64.wrap (((z4 : Int) + (y2 : Int))) = ((z4 : Int) + (y2 : Int)) := by rw [IntKind.wrap_u64]; omega
            have gw2 : (z4 : Int) + (y2 : Int) = ((z4 : Int) + (y2 : Int)) := by omega
            have gw3 : IntKind.u64.wrap ((z4 : Int) + (y2 : Int)) = ((z4 : Int) + (y2 : Int)) := by rw [gw2]; exact gw1
            go_simp
            exact hK _ _ rfl (fun _ => Below.refl _ _)
           ·intro a wx hbx ho hf
            refine ⟨rfl, ?_⟩
            intro K hK
            have hbx := hbx rfl
            have e0 : a.tmps[18]?.getD undef = .int .u64 (z2 : Nat) := ho 18 (by kernel_rfl)
            go_simp
            exact hK _ _ rfl (fun _ => Below.refl _ _)
           ·intro a wx hbx ho hf
            refine ⟨rfl, ?_⟩
            intro K hK
            have hbx := hbx rfl
            have e0 : a.tmps[150]?.getD undef = .int .u64 ((z4 : Int) + (y2 : Int)) := hf.1
            have e1 : a.tmps[151]?.getD undef = .int .u64 (z2 : Nat) := hf.2.1
            have gw1 : IntKind.u64.wrap (((z4 : Int) + (y2 : Int) + (z2 : Int))) = ((z4 : Int) + (y2 : Int) + (z2 : Int)) := by rw [IntKind.wrap_u64]; omega
            have gw2 : ((z4 : Int) + (y2 : Int)) + (z2 : Int) = ((z4 : Int) + (y2 : Int) + (z2 : Int)) := by omega
            have gw3 : IntKind.u64.wrap (((z4 : Int) + (y2 : Int)) + (z2 : Int)) = ((z4 : Int) + (y2 : Int) + (z2 : Int)) := by rw [gw2]; exact gw1
            go_simp
            exact hK _ _ rfl (fun _ => Below.refl _ _)
           ·intro a wx hbx ho hf
            refine ⟨rfl, ?_⟩
            intro K hK
            have hbx := hbx rfl
            have e0 : a.tmps[14]?.getD undef = .slice (some ⟨gw, 0, none⟩) q2 q3 := ho 14 (by kernel_rfl)
            go_simp
            exact hK _ _ rfl (fun _ => Below.refl _ _)
           ·intro a wx hbx ho hf
            refine ⟨rfl, ?_⟩
            intro K hK
            have hbx := hbx rfl
            have e0 : a.tmps[15]?.getD undef = .int .i64 (q2 : Nat) := ho 15 (by kernel_rfl)
            go_simp
            exact hK _ _ rfl (fun _ => Below.refl _ _)
           ·intro a wx hbx ho hf
            refine ⟨rfl, ?_⟩
            intro K hK
            have hbx := hbx rfl
            have e0 : a.tmps[154]?.getD undef = .int .i64 (q2 : Nat) := hf.1
            have gw1 : IntKind.i64.wrap ((p4 : Int)) = (p4 : Int) := by rw [IntKind.wrap_i64]; omega
            have gw2 : (q2 : Int) - 16 = (p4 : Int) := by omega
            have gw3 : IntKind.i64.wrap ((q2 : Int) - 16) = (p4 : Int) := by rw [gw2]; exact gw1
            go_simp
            exact hK _ _ rfl (fun _ => Below.refl _ _)
           ·intro a wx hbx ho hf
            refine ⟨rfl, ?_⟩
            intro K hK
            have hbx := hbx rfl
            have e0 : a.tmps[153]?.getD undef = .slice (some ⟨gw, 0, none⟩) q2 q3 := hf.1
            have e1 : a.tmps[155]?.getD undef = .int .i64 (p4 : Nat) := hf.2.1
            go_simp
            exact hK _ _ rfl (fun _ => Below.refl _ _)
           ·intro a wx hbx ho hf
            refine ⟨rfl, ?_⟩
            intro K hK
            have hbx := hbx rfl
            have e0 : a.tmps[156]?.getD undef = .pointer (some ⟨gw, p4, none⟩) := hf.1
            have d1 := (hbx.cell (p := ⟨gw, p4, none⟩) hgl).trans k4
            go_simp
            exact hK _ _ rfl (fun _ => Below.refl _ _)
           ·intro a wx hbx ho hf
            refine ⟨rfl, ?_⟩
            intro K hK
            have hbx := hbx rfl
            have e0 : a.tmps[152]?.getD undef = .int .u64 ((z4 : Int) + (y2 : Int) + (z2 : Int)) := hf.1
            have e1 : a.tmps[157]?.getD undef = .int .u64 (y4 : Nat) := hf.2.1
            have gw1 : IntKind.u64.wrap (((z4 : Int) + (y2 : Int) + (z2 : Int) + (y4 : Int))) = ((z4 : Int) + (y2 : Int) + (z2 : Int) + (y4 : Int)) := by rw [IntKind.wrap_u64]; omega
            have gw2 : ((z4 : Int) + (y2 : Int) + (z2 : Int)) + (y4 : Int) = ((z4 : Int) + (y2 : Int) + (z2 : Int) + (y4 : Int)) := by omega
            have gw3 : IntKind.u64.wrap (((z4 : Int) + (y2 : Int) + (z2 : Int)) + (y4 : Int)) = ((z4 : Int) + (y2 : Int) + (z2 : Int) + (y4 : Int)) := by rw [gw2]; exact gw1
            go_simp
            exact hK _ _ rfl (fun _ => Below.refl _ _)
           ·intro a wx hbx ho hf
            refine ⟨rfl, ?_⟩
            intro K hK
            have hbx := hbx rfl
            have e0 : a.tmps[158]?.getD undef = .int .u64 ((z4 : Int) + (y2 : Int) + (z2 : Int) + (y4 : Int)) := hf.1
            have gw1 : IntKind.u64.wrap ((xx : Int)) = (xx : Int) := by rw [IntKind.wrap_u64]; omega
            have gw2 : ((z4 : Int) + (y2 : Int) + (z2 : Int) + (y4 : Int)) % 4294967296 = (xx : Int) := by omega
            have gw3 : IntKind.u64.wrap (((z4 : Int) + (y2 : Int) + (z2 : Int) + (y4 : Int)) % 4294967296) = (xx : Int) := by rw [gw2]; exact gw1
            have gw4 : Int.tmod (((z4 : Int) + (y2 : Int) + (z2 : Int) + (y4 : Int))) 4294967296 = (xx : Int) := by rw [Int.tmod_eq_emod_of_nonneg (by omega)]; omega
            have gw5 : IntKind.u64.wrap (Int.tmod (((z4 : Int) + (y2 : Int) + (z2 : Int) + (y4 : Int))) 4294967296) = (xx : Int) := by rw [gw4]; exact gw1
            go_simp
            exact hK _ _ rfl (fun _ => Below.refl _ _)
           ·intro a wx hbx ho hf
            refine ⟨rfl, ?_⟩
            intro K hK
            have hbx := hbx rfl
            have e0 : a.tmps[159]?.getD undef = .int .u64 (xx : Nat) := hf.1
            go_simp
            exact hK _ _ ⟨_, rfl, (Own.full (B := wx.heap.size) (cs := #[.int .u64 (xx : Nat)]) rfl (Nat.le_refl _) (by unfold maxLen; simp) rfl).rd⟩ (fun _ => (Below.refl _ _).alloc (Nat.le_refl _) _)
           ·intro a wx hbx ho hf
            refine ⟨rfl, ?_⟩
            intro K hK
            have hbx := hbx rfl
            have e0 : a.tmps[143]?.getD undef = .slice (some ⟨gw, 0, none⟩) q2 q3 := hf.1
            obtain ⟨ga, hv1, o1⟩ : ∃ g, a.tmps[160]?.getD undef = .slice (some ⟨g, 0, none⟩) 1 1 ∧ Rd wx (a.tmps[160]?.getD undef) [.int .u64 (xx : Nat)] := hf.2.1
            rw [hv1] at o1
            refine wp_app (.tmp 143) (.tmp 160) 192 rfl (wo.heap.size) 126 _ 8 qvsE _ (qvs (wL B q2)) (evs e0) ((HOZ.out).below hbx (Nat.le_refl _)) _ [.int .u64 (xx : Nat)] (evs hv1) o1 ?_ ?_ ?_ ?_
            ·intro u hu; simp only [List.mem_cons, List.not_mem_nil, or_false] at hu; subst hu; rfl
            ·simp only [qvs_len, wL_len, List.length_cons, List.length_nil]; omega
            ·exact Nat.le_trans (HBZ.out.size) hbx.size
            ·intro v' w4 hown4 hb4
             exact hK _ _ ⟨hown4, (hbx.mono (HBZ.out.size)).trans hb4⟩ (fun hne => absurd rfl hne)
           ·rintro a wx - ho hf
            refine ⟨rfl, ?_⟩
            intro K hK
            have o0 : (fun v w' => Own w' wo.heap.size 126 v (qvs (wL B q2) ++ [.int .u64 (xx : Nat)]) ∧ Below wo.heap.size wz w') (a.tmps[161]?.getD undef) wx := hf.1
            obtain ⟨v0, hv0⟩ : ∃ v, v = a.tmps[161]?.getD undef := ⟨_, rfl⟩
            rw [← hv0] at o0
            have e0 := hv0.symm
            clear hv0
            go_simp
            exact hK _ _ o0 (fun _ => Below.refl _ _)
          ·rintro f w9 hfin
           have S9 : Own w9 wo.heap.size 126 (f 14) (qvs (wL B q2) ++ [.int .u64 (xx : Nat)]) ∧ Below wo.heap.size wz w9 := hfin.2.2.2.2.2.2.2.2.2.2.2.2.2.2.2.2.2.2.2.1
           clear hfin
           simp only [frameOf, dstsOf, zipF, List.filterMap_cons, List.filterMap_nil, List.contains_cons, List.contains_nil, Nat.reduceBEq, Nat.reduceAdd, Bool.or_false, Bool.or_true, cond_true, cond_false]
           obtain ⟨u, hu⟩ : ∃ u, u = f 14 := ⟨_, rfl⟩
           rw [← hu] at S9 ⊢
           rw [← qvs_snoc, HXX.out] at S9
           have HO4 := Lib.hid (show Own w9 wo.heap.size 126 u (qvs (wL B (q2 + 1))) from S9.1)
           have HB4 := Lib.hid (HBZ.out.trans S9.2)
           clear S9 hu
           go_wp2_with fail
           go_roundg (g5 - 1)
           case measure => have := HT.out; omega
           case rel => exact ⟨q2 + 1, by have := HT.out; omega, by go_num, HO4.out, HB4.out⟩
        ·obtain rfl : q2 = 64 := by omega
         clear ht hlt
         obtain ⟨S, hS⟩ : ∃ S, S = blocksN P HL0 b := ⟨_, rfl⟩
         have ok := blocksN_ok P HL0_len HL0_lt b
         rw [← hS] at HOB ok
         have hsn : stepN S B = blocksN P HL0 (b + 1) := by rw [HBE.out, blocksN, ← hS]
         have HSN := Lib.hid hsn
         obtain rfl : n2 = 64 := by
          obtain ⟨_, _, e, _⟩ := HK.out
          simp only [Value.slice.injEq, qvs_len, KL_len] at e
          exact e.2.1
         have hkw : Rd wt (.slice a2 64 c2) (qvs KL) := (HK.out.below HBB.out (Nat.le_refl _)).below HBT.out (Nat.le_refl _)
         have HKW := Lib.hid hkw
         have hhw := HOB.out.below HBT.out (Nat.le_refl _)
         have HHW := Lib.hid hhw
         have HOK := Lib.hid ok
         have hmh : mb ≠ hb := by omega
         have hsz : w.heap.size ≤ wt.heap.size := Nat.le_trans HBB.out.size HBT.out.size
         clear hS ok hsn hkw hhw
         go_upto_region 32 with (fail)
         refine rsum_rest _ _ _ _ _ _ _ _ _ _ _ _ _ _ _ _ _ _ _ _ _ _ _ _ _ _ _ _ _ _ _ _ _ _ _ _ _ _ _ _ _ _ _ _ _ _ _ _ _ _ _ _ _ _ _ _ _ _ _ _ _ _ _ _ _ _ _ _ _ _ _ _ _ _ _ _ _ _ _ _ _ _ _ _ _ _ _ _ _ _ _ _ _ _ _ _ _ _ _ _ _ _ _ _ _ _ _ _ _ _ _ _ _ _ _ _ _ _ _ _ _ _ _ _ _ _ _ _ _ _ _ _ _ _ _ _ _ _ _ _ _ _ _ _ _ _ _ _ _ _ _ _ _ _ _ _ _ _ _ _ _ _ _ _ _ _ _ _ _ _ _ _ _ _ _ _ _ _ _ _ _ _ _ _ _ _ _ _ _ _ _ _ _ _ _ _ _ _ _ _ _ _ _ _ _ _ _ _ _ _ _ _ _ _ _ _ _ _ _ _ _ _ _ _ _ _ _ _ _ _ _ _ _ _ _ _ _ _ _ _ _ _ _ _ _ _ _ _ _ _ _ _ _ _ _ _ _ _ _ _ _ _ _ _ _ _ _ _ _ _ _ _ _ _ _ _ _ _ _ _ _ _ _ _ _ _ _ _ _ _ _ _ _ _ _ _ _ _ _ _ _ _ _ _ _ _ _ _ _ _ _ _ _ _ _ _ _ _ _ _ _ _ _ _ _ _ _ _ _ _ _ _ _ _ _ _ _ _ _ _ _ _ _ _ _ _ _ _ _ _ _ wt w.heap.size wo.heap.size hb b3 mb N p3 q3 c2 q1 a2 P S B ?hk HOT.out HKW.out HHW.out HRB.out HBN.out HOK.out.2 HOK.out.1 hmh hbl hsz ?_
         case hk => assumption
         intro f w9 hO9 hR9 hB9
         rw [HSN.out] at hO9
         have HO9 := Lib.hid hO9
         have HR9 := Lib.hid hR9
         have HB9 := Lib.hid (HBB.out.trans ((HBT.out.mono HBB.out.size).trans hB9))
         clear hO9 hR9 hB9
         go_wp2_with fail
         go_roundg (g4 - 1)
         case measure => have := HQB.out; omega
         case rel => exact ⟨b + 1, a + 64, by have := HQB.out; omega, by have := HAB.out; omega, by go_num, HO9.out, HR9.out, HB9.out⟩
      ·obtain rfl : b = nb := by omega
       clear hbq
       have haN : a = N := by rw [hab, HNN.out]
       subst haN
       obtain ⟨S, hS⟩ : ∃ S, S = blocksN P HL0 b := ⟨_, rfl⟩
       have ok := blocksN_ok P HL0_len HL0_lt b
       rw [← hS] at HOB ok
       have HSF := Lib.hid (show (S.map (beN 4)).flatten = shaF L by
        rw [hS, shaF, ← HPP.out, HNB.out, Nat.mul_div_cancel_left _ (by omega)])
       have HSL := Lib.hid ok.2
       have HSN := Lib.hid ok.1
       have hlad : decide ((a : Int) < (a : Int)) = false := by rw [decide_eq_false_iff_not]; omega
       have hlad' : decide (a < a) = false := by rw [decide_eq_false_iff_not]; omega
       clear hS ok hab hlb
       go_wp2_with fail
       go_loopg [29, 30] 8 (fun q ov iv wr => ∃ i : Nat, i + q = 8 ∧ iv = .int .i64 (i : Nat) ∧ Own wr wo.heap.size 5 ov (bvs (outT S i)) ∧ Below wo.heap.size wo wr)
       case atStart => exact ⟨0, rfl, rfl, Own.nil _ _ _, Below.refl _ _⟩
       case round =>
        obtain ⟨i, hi, rfl, hown, hbo⟩ := hrel
        have HI := Lib.hid hi
        have HOO := Lib.hid hown
        have HBO := Lib.hid hbo
        obtain ⟨o1, o2, o3, rfl⟩ := slOf hown
        obtain ⟨wz, rfl⟩ : ∃ wz : World, wz = wr := ⟨_, rfl⟩
        by_cases hlt : i < 8
        ·have hltd : decide ((i : Int) < 8) = true := by rw [decide_eq_true_iff]; omega
         have k0 := ((HOB.out.below hbo (Nat.le_refl _)).at).1 i _ (qvs_get (L := S) (by rw [HSN.out]; exact hlt))
         have hhl : hb < wz.heap.size := World.block_lt_of_cell? wz ⟨hb, i, none⟩ k0
         have hi8 : (i : Int) < 8 := by omega
         have xl := getD_lt32 HSL.out i
         have hsu := fun (x : Nat) (hx : x = S.getD i 0) (hl : x < 4294967296) => outT_succ HSN.out hlt hx hl
         obtain ⟨x, hx⟩ : ∃ x, x = S.getD i 0 := ⟨_, rfl⟩
         rw [← hx] at k0 xl
         have hsu := hsu x hx xl
         obtain ⟨y0, hy0⟩ : ∃ y, y = x / 16777216 := ⟨_, rfl⟩
         obtain ⟨z1, hz1⟩ : ∃ y, y = x / 65536 := ⟨_, rfl⟩
         obtain ⟨z2, hz2⟩ : ∃ y, y = x / 256 := ⟨_, rfl⟩
         obtain ⟨y1, hy1⟩ : ∃ y, y = z1 % 256 := ⟨_, rfl⟩
         obtain ⟨y2, hy2⟩ : ∃ y, y = z2 % 256 := ⟨_, rfl⟩
         obtain ⟨y3, hy3⟩ : ∃ y, y = x % 256 := ⟨_, rfl⟩
         rw [← hy0, ← hz1, ← hz2, ← hy1, ← hy2, ← hy3] at hsu
         have g0 : y0 < 256 := by omega
         have g1 : y1 < 256 := by omega
         have g2 : y2 < 256 := by omega
         have g3 : y3 < 256 := by omega
         have q1 : z1 < 4294967296 := by omega
         have q2 : z2 < 4294967296 := by omega
         have HSU := Lib.hid hsu
         have HY0 := Lib.hid hy0
         have HZ1 := Lib.hid hz1
         have HZ2 := Lib.hid hz2
         have HY1 := Lib.hid hy1
         have HY2 := Lib.hid hy2
         have HY3 := Lib.hid hy3
         clear hi hown hbo hx hsu hy0 hz1 hz2 hy1 hy2 hy3
         go_wp2_with fail
         refine wp_region_tail [fun v _ => v = .slice o1 o2 o3, fun v _ => v = .slice (some ⟨hb, 0, none⟩) 8 b3, fun v _ => v = .int .i64 (i : Nat), fun v _ => v = .pointer (some ⟨hb, i, none⟩), fun v _ => v = .int .u64 (x : Nat), fun v _ => v = .int .u64 (y0 : Nat), fun v _ => v = .int .u8 (y0 : Nat), fun v _ => v = .slice (some ⟨hb, 0, none⟩) 8 b3, fun v _ => v = .int .i64 (i : Nat), fun v _ => v = .pointer (some ⟨hb, i, none⟩), fun v _ => v = .int .u64 (x : Nat), fun v _ => v = .int .u64 (z1 : Nat), fun v _ => v = .int .u64 (y1 : Nat), fun v _ => v = .int .u8 (y1 : Nat), fun v _ => v = .slice (some ⟨hb, 0, none⟩) 8 b3, fun v _ => v = .int .i64 (i : Nat), fun v _ => v = .pointer (some ⟨hb, i, none⟩), fun v _ => v = .int .u64 (x : Nat), fun v _ => v = .int .u64 (z2 : Nat), fun v _ => v = .int .u64 (y2 : Nat), fun v _ => v = .int .u8 (y2 : Nat), fun v _ => v = .slice (some ⟨hb, 0, none⟩) 8 b3, fun v _ => v = .int .i64 (i : Nat), fun v _ => v = .pointer (some ⟨hb, i, none⟩), fun v _ => v = .int .u64 (x : Nat), fun v _ => v = .int .u64 (y3 : Nat), fun v _ => v = .int .u8 (y3 : Nat), fun v w' => ∃ g, v = .slice (some ⟨g, 0, none⟩) 4 4 ∧ Rd w' v [.int .u8 (y0 : Nat), .int .u8 (y1 : Nat), .int .u8 (y2 : Nat), .int .u8 (y3 : Nat)], fun v w' => Own w' wo.heap.size 5 v ((bvs (outT S i)) ++ [.int .u8 (y0 : Nat), .int .u8 (y1 : Nat), .int .u8 (y2 : Nat), .int .u8 (y3 : Nat)]) ∧ Below wo.heap.size wz w', fun v w' => Own w' wo.heap.size 5 v ((bvs (outT S i)) ++ [.int .u8 (y0 : Nat), .int .u8 (y1 : Nat), .int .u8 (y2 : Nat), .int .u8 (y3 : Nat)]) ∧ Below wo.heap.size wz w']
          [false, false, false, false, false, false, false, false, false, false, false, false, false, false, false, false, false, false, false, false, false, false, false, false, false, false, false, false, false, true] [false, false, false, false, false, false, false, false, false, false, false, false, false, false, false, false, false, false, false, false, false, false, false, false, false, false, false, false, false, true] 28 (by kernel_rfl) ?_ (by kernel_rfl) (by kernel_rfl) (by kernel_rfl) ?_ ?_
         ·exact keeps_cons (fun _ _ _ h _ => h) (keeps_cons (fun _ _ _ h _ => h) (keeps_cons (fun _ _ _ h _ => h) (keeps_cons (fun _ _ _ h _ => h) (keeps_cons (fun _ _ _ h _ => h) (keeps_cons (fun _ _ _ h _ => h) (keeps_cons (fun _ _ _ h _ => h) (keeps_cons (fun _ _ _ h _ => h) (keeps_cons (fun _ _ _ h _ => h) (keeps_cons (fun _ _ _ h _ => h) (keeps_cons (fun _ _ _ h _ => h) (keeps_cons (fun _ _ _ h _ => h) (keeps_cons (fun _ _ _ h _ => h) (keeps_cons (fun _ _ _ h _ => h) (keeps_cons (fun _ _ _ h _ => h) (keeps_cons (fun _ _ _ h _ => h) (keeps_cons (fun _ _ _ h _ => h) (keeps_cons (fun _ _ _ h _ => h) (keeps_cons (fun _ _ _ h _ => h) (keeps_cons (fun _ _ _ h _ => h) (keeps_cons (fun _ _ _ h _ => h) (keeps_cons (fun _ _ _ h _ => h) (keeps_cons (fun _ _ _ h _ => h) (keeps_cons (fun _ _ _ h _ => h) (keeps_cons (fun _ _ _ h _ => h) (keeps_cons (fun _ _ _ h _ => h) (keeps_cons (fun _ _ _ h _ => h) (keeps_cons (fun v w1 w2 h hb => let ⟨g, e, h2⟩ := h; ⟨g, e, h2.below hb (Nat.le_refl _)⟩) (keeps_cons (fun v w1 w2 h hb => ⟨Own.below h.1 hb (Nat.le_refl _), h.2.trans (hb.mono (Nat.le_trans (HBO.out.size) h.2.size))⟩) (keeps_cons (fun v w1 w2 h hb => ⟨Own.below h.1 hb (Nat.le_refl _), h.2.trans (hb.mono (Nat.le_trans (HBO.out.size) h.2.size))⟩) (keeps_nil))))))))))))))))))))))))))))))
         ·refine .cons (owed6_go ?_) (.cons (owed6_go ?_) (.cons (owed6_go ?_) (.cons (owed6_go ?_) (.cons (owed6_go ?_) (.cons (owed6_go ?_) (.cons (owed6_go ?_) (.cons (owed6_go ?_) (.cons (owed6_go ?_) (.cons (owed6_go ?_) (.cons (owed6_go ?_) (.cons (owed6_go ?_) (.cons (owed6_go ?_) (.cons (owed6_go ?_) (.cons (owed6_go ?_) (.cons (owed6_go ?_) (.cons (owed6_go ?_) (.cons (owed6_go ?_) (.cons (owed6_go ?_) (.cons (owed6_go ?_) (.cons (owed6_go ?_) (.cons (owed6_go ?_) (.cons (owed6_go ?_) (.cons (owed6_go ?_) (.cons (owed6_go ?_) (.cons (owed6_go ?_) (.cons (owed6_go ?_) (.cons (owed6_go ?_) (.cons (owed6_go ?_) (.cons (owed6_go ?_) (.nil))))))))))))))))))))))))))))))
          ·intro a wx hbx ho hf
           refine ⟨rfl, ?_⟩
           intro K hK
           have hbx := hbx rfl
           have e0 : a.tmps[29]?.getD undef = .slice o1 o2 o3 := ho 29 (by kernel_rfl)
           go_simp
           exact hK _ _ rfl (fun _ => Below.refl _ _)
          ·intro a wx hbx ho hf
           refine ⟨rfl, ?_⟩
           intro K hK
           have hbx := hbx rfl
           have e0 : a.tmps[7]?.getD undef = .slice (some ⟨hb, 0, none⟩) 8 b3 := ho 7 (by kernel_rfl)
           go_simp
           exact hK _ _ rfl (fun _ => Below.refl _ _)
          ·intro a wx hbx ho hf
           refine ⟨rfl, ?_⟩
           intro K hK
           have hbx := hbx rfl
           have e0 : a.tmps[30]?.getD undef = .int .i64 (i : Nat) := ho 30 (by kernel_rfl)
           go_simp
           exact hK _ _ rfl (fun _ => Below.refl _ _)
          ·intro a wx hbx ho hf
           refine ⟨rfl, ?_⟩
           intro K hK
           have hbx := hbx rfl
           have e0 : a.tmps[323]?.getD undef = .slice (some ⟨hb, 0, none⟩) 8 b3 := hf.1
           have e1 : a.tmps[324]?.getD undef = .int .i64 (i : Nat) := hf.2.1
           go_simp
           exact hK _ _ rfl (fun _ => Below.refl _ _)
          ·intro a wx hbx ho hf
           refine ⟨rfl, ?_⟩
           intro K hK
           have hbx := hbx rfl
           have e0 : a.tmps[325]?.getD undef = .pointer (some ⟨hb, i, none⟩) := hf.1
           have d1 := (hbx.cell (p := ⟨hb, i, none⟩) hhl).trans k0
           go_simp
           exact hK _ _ rfl (fun _ => Below.refl _ _)
          ·intro a wx hbx ho hf
           refine ⟨rfl, ?_⟩
           intro K hK
           have hbx := hbx rfl
           have e0 : a.tmps[326]?.getD undef = .int .u64 (x : Nat) := hf.1
           have gw0 : (x : Int) / 16777216 = (y0 : Int) := by have := HY0.out; omega
           have gw1 : IntKind.u64.wrap ((y0 : Int)) = (y0 : Int) := by rw [IntKind.wrap_u64]; omega
           have gw2 : (x : Int) / 16777216 = (y0 : Int) := by omega
           have gw3 : IntKind.u64.wrap ((x : Int) / 16777216) = (y0 : Int) := by rw [gw2]; exact gw1
           have gw4 : Int.tdiv ((x : Int)) 16777216 = (y0 : Int) := by rw [Int.tdiv_eq_ediv_of_nonneg (by omega)]; omega
           have gw5 : IntKind.u64.wrap (Int.tdiv ((x : Int)) 16777216) = (y0 : Int) := by rw [gw4]; exact gw1
           go_simp
           exact hK _ _ rfl (fun _ => Below.refl _ _)
          ·intro a wx hbx ho hf
           refine ⟨rfl, ?_⟩
           intro K hK
           have hbx := hbx rfl
           have e0 : a.tmps[327]?.getD undef = .int .u64 (y0 : Nat) := hf.1
           have gw1 : IntKind.u8.wrap ((y0 : Int)) = (y0 : Int) := by rw [IntKind.wrap_u8]; omega
           go_simp
           exact hK _ _ rfl (fun _ => Below.refl _ _)
          ·intro a wx hbx ho hf
           refine ⟨rfl, ?_⟩
           intro K hK
           have hbx := hbx rfl
           have e0 : a.tmps[7]?.getD undef = .slice (some ⟨hb, 0, none⟩) 8 b3 := ho 7 (by kernel_rfl)
           go_simp
           exact hK _ _ rfl (fun _ => Below.refl _ _)
          ·intro a wx hbx ho hf
           refine ⟨rfl, ?_⟩
           intro K hK
           have hbx := hbx rfl
           have e0 : a.tmps[30]?.getD undef = .int .i64 (i : Nat) := ho 30 (by kernel_rfl)
           go_simp
           exact hK _ _ rfl (fun _ => Below.refl _ _)
          ·intro a wx hbx ho hf
           refine ⟨rfl, ?_⟩
           intro K hK
           have hbx := hbx rfl
           have e0 : a.tmps[329]?.getD undef = .slice (some ⟨hb, 0, none⟩) 8 b3 := hf.1
           have e1 : a.tmps[330]?.getD undef = .int .i64 (i : Nat) := hf.2.1
           go_simp
           exact hK _ _ rfl (fun _ => Below.refl _ _)
          ·intro a wx hbx ho hf
           refine ⟨rfl, ?_⟩
           intro K hK
           have hbx := hbx rfl
           have e0 : a.tmps[331]?.getD undef = .pointer (some ⟨hb, i, none⟩) := hf.1
           have d1 := (hbx.cell (p := ⟨hb, i, none⟩) hhl).trans k0
           go_simp
           exact hK _ _ rfl (fun _ => Below.refl _ _)
          ·intro a wx hbx ho hf
           refine ⟨rfl, ?_⟩
           intro K hK
           have hbx := hbx rfl
           have e0 : a.tmps[332]?.getD undef = .int .u64 (x : Nat) := hf.1
           have gw0 : (x : Int) / 65536 = (z1 : Int) := by have := HZ1.out; omega
           have gw1 : IntKind.u64.wrap ((z1 : Int)) = (z1 : Int) := by rw [IntKind.wrap_u64]; omega
           have gw2 : (x : Int) / 65536 = (z1 : Int) := by omega
           have gw3 : IntKind.u64.wrap ((x : Int) / 65536) = (z1 : Int) := by rw [gw2]; exact gw1
           have gw4 : Int.tdiv ((x : Int)) 65536 = (z1 : Int) := by rw [Int.tdiv_eq_ediv_of_nonneg (by omega)]; omega
           have gw5 : IntKind.u64.wrap (Int.tdiv ((x : Int)) 65536) = (z1 : Int) := by rw [gw4]; exact gw1
           go_simp
           exact hK _ _ rfl (fun _ => Below.refl _ _)
          ·intro a wx hbx ho hf
           refine ⟨rfl, ?_⟩
           intro K hK
           have hbx := hbx rfl
           have e0 : a.tmps[333]?.getD undef = .int .u64 (z1 : Nat) := hf.1
           have gw0 : (z1 : Int) % 256 = (y1 : Int) := by have := HY1.out; omega
           have gw1 : IntKind.u64.wrap ((y1 : Int)) = (y1 : Int) := by rw [IntKind.wrap_u64]; omega
           have gw2 : (z1 : Int) % 256 = (y1 : Int) := by omega
           have gw3 : IntKind.u64.wrap ((z1 : Int) % 256) = (y1 : Int) := by rw [gw2]; exact gw1
           have gw4 : Int.tmod ((z1 : Int)) 256 = (y1 : Int) := by rw [Int.tmod_eq_emod_of_nonneg (by omega)]; omega
           have gw5 : IntKind.u64.wrap (Int.tmod ((z1 : Int)) 256) = (y1 : Int) := by rw [gw4]; exact gw1
           go_simp
           exact hK _ _ rfl (fun _ => Below.refl _ _)
          ·intro a wx hbx ho hf
           refine ⟨rfl, ?_⟩
           intro K hK
           have hbx := hbx rfl
           have e0 : a.tmps[334]?.getD undef = .int .u64 (y1 : Nat) := hf.1
           have gw1 : IntKind.u8.wrap ((y1 : Int)) = (y1 : Int) := by rw [IntKind.wrap_u8]; omega
           go_simp
           exact hK _ _ rfl (fun _ => Below.refl _ _)
          ·intro a wx hbx ho hf
           refine ⟨rfl, ?_⟩
           intro K hK
           have hbx := hbx rfl
           have e0 : a.tmps[7]?.getD undef = .slice (some ⟨hb, 0, none⟩) 8 b3 := ho 7 (by kernel_rfl)
           go_simp
           exact hK _ _ rfl (fun _ => Below.refl _ _)
          ·intro a wx hbx ho hf
           refine ⟨rfl, ?_⟩
           intro K hK
           have hbx := hbx rfl
           have e0 : a.tmps[30]?.getD undef = .int .i64 (i : Nat) := ho 30 (by kernel_rfl)
           go_simp
           exact hK _ _ rfl (fun _ => Below.refl _ _)
          ·intro a wx hbx ho hf
           refine ⟨rfl, ?_⟩
           intro K hK
           have hbx := hbx rfl
           have e0 : a.tmps[336]?.getD undef = .slice (some ⟨hb, 0, none⟩) 8 b3 := hf.1
           have e1 : a.tmps[337]?.getD undef = .int .i64 (i : Nat) := hf.2.1
           go_simp
           exact hK _ _ rfl (fun _ => Below.refl _ _)
          ·intro a wx hbx ho hf
           refine ⟨rfl, ?_⟩
           intro K hK
           have hbx := hbx rfl
           have e0 : a.tmps[338]?.getD undef = .pointer (some ⟨hb, i, none⟩) := hf.1
           have d1 := (hbx.cell (p := ⟨hb, i, none⟩) hhl).trans k0
           go_simp
           exact hK _ _ rfl (fun _ => Below.refl _ _)
          ·intro a wx hbx ho hf
           refine ⟨rfl, ?_⟩
           intro K hK
           have hbx := hbx rfl
           have e0 : a.tmps[339]?.getD undef = .int .u64 (x : Nat) := hf.1
           have gw0 : (x : Int) / 256 = (z2 : Int) := by have := HZ2.out; omega
           have gw1 : IntKind.u64.wrap ((z2 : Int)) = (z2 : Int) := by rw [IntKind.wrap_u64]; omega
           have gw2 : (x : Int) / 256 = (z2 : Int) := by omega
           have gw3 : IntKind.u64.wrap ((x : Int) / 256) = (z2 : Int) := by rw [gw2]; exact gw1
           have gw4 : Int.tdiv ((x : Int)) 256 = (z2 : Int) := by rw [Int.tdiv_eq_ediv_of_nonneg (by omega)]; omega
           have gw5 : IntKind.u64.wrap (Int.tdiv ((x : Int)) 256) = (z2 : Int) := by rw [gw4]; exact gw1
           go_simp
           exact hK _ _ rfl (fun _ => Below.refl _ _)
          ·intro a wx hbx ho hf
           refine ⟨rfl, ?_⟩
           intro K hK
           have hbx := hbx rfl
           have e0 : a.tmps[340]?.getD undef = .int .u64 (z2 : Nat) := hf.1
           have gw0 : (z2 : Int) % 256 = (y2 : Int) := by have := HY2.out; omega
           have gw1 : IntKind.u64.wrap ((y2 : Int)) = (y2 : Int) := by rw [IntKind.wrap_u64]; omega
           have gw2 : (z2 : Int) % 256 = (y2 : Int) := by omega
           have gw3 : IntKind.u64.wrap ((z2 : Int) % 256) = (y2 : Int) := by rw [gw2]; exact gw1
           have gw4 : Int.tmod ((z2 : Int)) 256 = (y2 : Int) := by rw [Int.tmod_eq_emod_of_nonneg (by omega)]; omega
           have gw5 : IntKind.u64.wrap (Int.tmod ((z2 : Int)) 256) = (y2 : Int) := by rw [gw4]; exact gw1
           go_simp
           exact hK _ _ rfl (fun _ => Below.refl _ _)
          ·intro a wx hbx ho hf
           refine ⟨rfl, ?_⟩
           intro K hK
           have hbx := hbx rfl
           have e0 : a.tmps[341]?.getD undef = .int .u64 (y2 : Nat) := hf.1
           have gw1 : IntKind.u8.wrap ((y2 : Int)) = (y2 : Int) := by rw [IntKind.wrap_u8]; omega
           go_simp
           exact hK _ _ rfl (fun _ => Below.refl _ _)
          ·intro a wx hbx ho hf
           refine ⟨rfl, ?_⟩
           intro K hK
           have hbx := hbx rfl
           have e0 : a.tmps[7]?.getD undef = .slice (some ⟨hb, 0, none⟩) 8 b3 := ho 7 (by kernel_rfl)
           go_simp
           exact hK _ _ rfl (fun _ => Below.refl _ _)
          ·intro a wx hbx ho hf
           refine ⟨rfl, ?_⟩
           intro K hK
           have hbx := hbx rfl
           have e0 : a.tmps[30]?.getD undef = .int .i64 (i : Nat) := ho 30 (by kernel_rfl)
           go_simp
           exact hK _ _ rfl (fun _ => Below.refl _ _)
          ·intro a wx hbx ho hf
           refine ⟨rfl, ?_⟩
           intro K hK
           have hbx := hbx rfl
           have e0 : a.tmps[343]?.getD undef = .slice (some ⟨hb, 0, none⟩) 8 b3 := hf.1
           have e1 : a.tmps[344]?.getD undef = .int .i64 (i : Nat) := hf.2.1
           go_simp
           exact hK _ _ rfl (fun _ => Below.refl _ _)
          ·intro a wx hbx ho hf
           refine ⟨rfl, ?_⟩
           intro K hK
           have hbx := hbx rfl
           have e0 : a.tmps[345]?.getD undef = .pointer (some ⟨hb, i, none⟩) := hf.1
           have d1 := (hbx.cell (p := ⟨hb, i, none⟩) hhl).trans k0
           go_simp
           exact hK _ _ rfl (fun _ => Below.refl _ _)
          ·intro a wx hbx ho hf
           refine ⟨rfl, ?_⟩
           intro K hK
           have hbx := hbx rfl
           have e0 : a.tmps[346]?.getD undef = .int .u64 (x : Nat) := hf.1
           have gw0 : (x : Int) % 256 = (y3 : Int) := by have := HY3.out; omega
           have gw1 : IntKind.u64.wrap ((y3 : Int)) = (y3 : Int) := by rw [IntKind.wrap_u64]; omega
           have gw2 : (x : Int) % 256 = (y3 : Int) := by omega
           have gw3 : IntKind.u64.wrap ((x : Int) % 256) = (y3 : Int) := by rw [gw2]; exact gw1
           have gw4 : Int.tmod ((x : Int)) 256 = (y3 : Int) := by rw [Int.tmod_eq_emod_of_nonneg (by omega)]; omega
           have gw5 : IntKind.u64.wrap (Int.tmod ((x : Int)) 256) = (y3 : Int) := by rw [gw4]; exact gw1
           go_simp
           exact hK _ _ rfl (fun _ => Below.refl _ _)
          ·intro a wx hbx ho hf
           refine ⟨rfl, ?_⟩
           intro K hK
           have hbx := hbx rfl
           have e0 : a.tmps[347]?.getD undef = .int .u64 (y3 : Nat) := hf.1
           have gw1 : IntKind.u8.wrap ((y3 : Int)) = (y3 : Int) := by rw [IntKind.wrap_u8]; omega
           go_simp
           exact hK _ _ rfl (fun _ => Below.refl _ _)
          ·intro a wx hbx ho hf
           refine ⟨rfl, ?_⟩
           intro K hK
           have hbx := hbx rfl
           have e0 : a.tmps[328]?.getD undef = .int .u8 (y0 : Nat) := hf.1
           have e1 : a.tmps[335]?.getD undef = .int .u8 (y1 : Nat) := hf.2.1
           have e2 : a.tmps[342]?.getD undef = .int .u8 (y2 : Nat) := hf.2.2.1
           have e3 : a.tmps[348]?.getD undef = .int .u8 (y3 : Nat) := hf.2.2.2.1
           go_simp
           exact hK _ _ ⟨_, rfl, (Own.full (B := wx.heap.size) (cs := #[.int .u8 (y0 : Nat), .int .u8 (y1 : Nat), .int .u8 (y2 : Nat), .int .u8 (y3 : Nat)]) rfl (Nat.le_refl _) (by unfold maxLen; simp) rfl).rd⟩ (fun _ => (Below.refl _ _).alloc (Nat.le_refl _) _)
          ·intro a wx hbx ho hf
           refine ⟨rfl, ?_⟩
           intro K hK
           have hbx := hbx rfl
           have e0 : a.tmps[322]?.getD undef = .slice o1 o2 o3 := hf.1
           obtain ⟨ga, hv1, o1⟩ : ∃ g, a.tmps[349]?.getD undef = .slice (some ⟨g, 0, none⟩) 4 4 ∧ Rd wx (a.tmps[349]?.getD undef) [.int .u8 (y0 : Nat), .int .u8 (y1 : Nat), .int .u8 (y2 : Nat), .int .u8 (y3 : Nat)] := hf.2.1
           rw [hv1] at o1
           refine wp_app (.tmp 322) (.tmp 349) 25 rfl (wo.heap.size) 5 _ 1 bytesE _ ((bvs (outT S i))) (evs e0) ((HOO.out).below hbx (Nat.le_refl _)) _ [.int .u8 (y0 : Nat), .int .u8 (y1 : Nat), .int .u8 (y2 : Nat), .int .u8 (y3 : Nat)] (evs hv1) o1 ?_ ?_ ?_ ?_
           ·intro u hu; simp only [List.mem_cons, List.not_mem_nil, or_false] at hu; rcases hu with rfl | rfl | rfl | rfl <;> rfl
           ·have := outT_len HSN.out (show i ≤ 8 by omega); simp only [bvs_len, List.length_cons, List.length_nil]; omega
           ·exact Nat.le_trans (HBO.out.size) hbx.size
           ·intro v' w4 hown4 hb4
            exact hK _ _ ⟨hown4, (hbx.mono (HBO.out.size)).trans hb4⟩ (fun hne => absurd rfl hne)
          ·rintro a wx - ho hf
           refine ⟨rfl, ?_⟩
           intro K hK
           have o0 : (fun v w' => Own w' wo.heap.size 5 v ((bvs (outT S i)) ++ [.int .u8 (y0 : Nat), .int .u8 (y1 : Nat), .int .u8 (y2 : Nat), .int .u8 (y3 : Nat)]) ∧ Below wo.heap.size wz w') (a.tmps[350]?.getD undef) wx := hf.1
           obtain ⟨v0, hv0⟩ : ∃ v, v = a.tmps[350]?.getD undef := ⟨_, rfl⟩
           rw [← hv0] at o0
           have e0 := hv0.symm
           clear hv0
           go_simp
           exact hK _ _ o0 (fun _ => Below.refl _ _)
         ·rintro f w9 hfin
          have S9 : Own w9 wo.heap.size 5 (f 29) ((bvs (outT S i)) ++ [.int .u8 (y0 : Nat), .int .u8 (y1 : Nat), .int .u8 (y2 : Nat), .int .u8 (y3 : Nat)]) ∧ Below wo.heap.size wz w9 := hfin.2.2.2.2.2.2.2.2.2.2.2.2.2.2.2.2.2.2.2.2.2.2.2.2.2.2.2.2.2.1
          clear hfin
          simp only [frameOf, dstsOf, zipF, List.filterMap_cons, List.filterMap_nil, List.contains_cons, List.contains_nil, Nat.reduceBEq, Nat.reduceAdd, Bool.or_false, Bool.or_true, cond_true, cond_false]
          obtain ⟨u, hu⟩ : ∃ u, u = f 29 := ⟨_, rfl⟩
          rw [← hu] at S9 ⊢
          have HO4 := Lib.hid (show Own w9 wo.heap.size 5 u (bvs (outT S (i + 1))) by rw [HSU.out, bvs_append]; exact S9.1)
          have HB4 := Lib.hid (HBO.out.trans S9.2)
          clear S9 hu
          go_wp2_with fail
          go_roundg (gk - 1)
          case measure => have := HI.out; omega
          case rel => exact ⟨i + 1, by have := HI.out; omega, by go_num, HO4.out, HB4.out⟩
        ·obtain rfl : i = 8 := by omega
         have hltd : decide (((8 : Nat) : Int) < 8) = false := by decide
         rw [outT_end HSN.out, HSF.out] at HOO
         clear hi hown hbo hlt
         go_wp2_with fail
         go_ret
         exact ⟨_, rfl, HOO.out.mono HBB.out.size, HBB.out.trans (HBO.out.mono HBB.out.size)⟩
end Go.Proofs.YtngealmhgkoaiaaGreat
