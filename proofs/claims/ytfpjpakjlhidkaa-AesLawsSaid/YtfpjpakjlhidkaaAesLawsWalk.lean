/- The walk of the law AesLaws. -/
import Derived.Test.YtfpjpakjlhidkaaAesInj
import Derived.Test.YtfpjpakjlhidkaaAesLaw1
namespace Go.Proofs.Ytfpjpakjlhidkaa
open Go.RowKit AesM

theorem cast_beq (x y : Nat) : ((x : Int) == (y : Int)) = decide (x = y) := by
  by_cases h : x = y
  · subst h; simp
  · rw [decide_eq_false h]
    exact beq_eq_false_iff_ne.mpr (by omega)
theorem box_test {a b : Nat} (ha : a < 256) (hb : b < 256) : (((boxL.getD a 0 : Nat) : Int) == ((boxL.getD b 0 : Nat) : Int)) = ((a : Int) == (b : Int)) := by
  have h := boxL_inj a ha b hb
  have h2 : a = b → boxL.getD a 0 = boxL.getD b 0 := fun e => by rw [e]
  generalize boxL.getD a 0 = x at h h2
  generalize boxL.getD b 0 = y at h h2
  rw [cast_beq, cast_beq]
  exact decide_eq_decide.mpr ⟨h, h2⟩

set_option maxRecDepth 100000 in
set_option maxHeartbeats 2000000 in
theorem aesLaws_walk (a b c : Nat) (v3 : Value) (K : List Nat) (v4 : Value) (M : List Nat) (v5 : Value) (M' : List Nat) (w : World) (ha : a < 256) (hb : b < 256) (hc : c < 256)
    (hK : ∀ n ∈ K, n < 256) (rK : Rd w v3 (bvs K)) (hM : ∀ n ∈ M, n < 256) (rM : Rd w v4 (bvs M)) (hM' : ∀ n ∈ M', n < 256) (rM' : Rd w v5 (bvs M')) :
    Calls Try.prog 4 #[.int .u8 a, .int .u8 b, .int .u8 c, v3, v4, v5] w fun e w' => e = .returned (.bool true) ∧ Below w.heap.size w w' := by
  have hbc := xor_lt hb hc
  have T1 := times_any a b ha hb
  have T2 := times_any b a hb ha
  have T3 := times_any a (b ^^^ c) ha hbc
  have T4 := times_any a c ha hc
  have T5 := times_any (tms a b) c (tms_lt _ ha) hc
  have T6 := times_any b c hb hc
  have T7 := times_any a (tms b c) ha (tms_lt _ hb)
  have T8 := times_any a 1 ha (by omega)
  rw [tms_comm hb ha] at T2
  rw [tms_xor_right] at T3
  rw [tms_assoc ha hb hc] at T5
  rw [tms_one ha] at T8
  have hx1 := u8_xor_nat b c hb hc
  have hx2 := u8_xor_nat (tms a b) (tms a c) (tms_lt _ ha) (tms_lt _ ha)
  have hP := tms_lt b ha
  have hz0 : a ≠ 0 → b ≠ 0 → tms a b ≠ 0 := tms_ne ha hb
  obtain ⟨P, eP⟩ : ∃ P, P = tms a b := ⟨_, rfl⟩
  obtain ⟨Q, eQ⟩ : ∃ Q, Q = tms a c := ⟨_, rfl⟩
  obtain ⟨X, eX⟩ : ∃ X, X = b ^^^ c := ⟨_, rfl⟩
  obtain ⟨S, eS⟩ : ∃ S, S = tms b c := ⟨_, rfl⟩
  rw [← eS] at T5 T6 T7
  obtain ⟨U, eU⟩ : ∃ U, U = tms a S := ⟨_, rfl⟩
  rw [← eP, ← eQ] at T3 hx2
  rw [← eP] at T1 T2 T5 hP hz0
  rw [← eQ] at T4
  rw [← eX] at T3 hx1
  rw [← eU] at T5 T7
  obtain ⟨Y, eY⟩ : ∃ Y, Y = P ^^^ Q := ⟨_, rfl⟩
  rw [← eY] at T3 hx2
  have B1 := box_any a ha
  have B2 := box_any b hb
  have ht := box_test ha hb
  obtain ⟨x, ex⟩ : ∃ x, x = boxL.getD a 0 := ⟨_, rfl⟩
  obtain ⟨y, ey⟩ : ∃ y, y = boxL.getD b 0 := ⟨_, rfl⟩
  rw [← ex] at B1 ht
  rw [← ey] at B2 ht
  have HT1 := Lib.hid T1
  have HT2 := Lib.hid T2
  have HT3 := Lib.hid T3
  have HT4 := Lib.hid T4
  have HT5 := Lib.hid T5
  have HT6 := Lib.hid T6
  have HT7 := Lib.hid T7
  have HT8 := Lib.hid T8
  have HB1 := Lib.hid B1
  have HB2 := Lib.hid B2
  have HZ := Lib.hid hz0
  have HK := Lib.hid rK
  have HM := Lib.hid rM
  have HM' := Lib.hid rM'
  clear T1 T2 T3 T4 T5 T6 T7 T8 B1 B2 hz0 eP eQ eX eS eU eY ex ey rK rM rM'
  go_enter Try.func4, Try.ntmps4
  go_wp2_with fail
  refine (alive11 _).mono ?_
  rintro e w1 ⟨rfl, h1⟩
  have H1 := Lib.hid h1
  clear h1
  go_upto_region 3 with (fail)
  go_cut [74] (fun t wx => t = .bool false ∧ Below w.heap.size w wx)
  case first =>
    by_cases ha0 : a = 0
    · have ha1 : ((a : Int) != 0) = false := by rw [bne_eq_false_iff_eq]; omega
      clear ha0
      go_wp2_with fail
      refine (HT1.out _).mono ?_
      rintro e w' ⟨rfl, rfl⟩
      go_wp2_with fail
      refine (HT2.out _).mono ?_
      rintro e w' ⟨rfl, rfl⟩
      go_wp2_with fail
      refine (HT3.out _).mono ?_
      rintro e w' ⟨rfl, rfl⟩
      go_wp2_with fail
      refine (HT1.out _).mono ?_
      rintro e w' ⟨rfl, rfl⟩
      go_wp2_with fail
      refine (HT4.out _).mono ?_
      rintro e w' ⟨rfl, rfl⟩
      go_wp2_with fail
      refine (HT1.out _).mono ?_
      rintro e w' ⟨rfl, rfl⟩
      go_wp2_with fail
      refine (HT5.out _).mono ?_
      rintro e w' ⟨rfl, rfl⟩
      go_wp2_with fail
      refine (HT6.out _).mono ?_
      rintro e w' ⟨rfl, rfl⟩
      go_wp2_with fail
      refine (HT7.out _).mono ?_
      rintro e w' ⟨rfl, rfl⟩
      go_wp2_with fail
      refine (HT8.out _).mono ?_
      rintro e w' ⟨rfl, rfl⟩
      go_wp2_with fail
      go_meet
      exact ⟨rfl, H1.out⟩
    · have ha1 : ((a : Int) != 0) = true := by rw [bne_iff_ne]; omega
      by_cases hb0 : b = 0
      · have hb1 : ((b : Int) != 0) = false := by rw [bne_eq_false_iff_eq]; omega
        clear ha0 hb0
        go_wp2_with fail
        refine (HT1.out _).mono ?_
        rintro e w' ⟨rfl, rfl⟩
        go_wp2_with fail
        refine (HT2.out _).mono ?_
        rintro e w' ⟨rfl, rfl⟩
        go_wp2_with fail
        refine (HT3.out _).mono ?_
        rintro e w' ⟨rfl, rfl⟩
        go_wp2_with fail
        refine (HT1.out _).mono ?_
        rintro e w' ⟨rfl, rfl⟩
        go_wp2_with fail
        refine (HT4.out _).mono ?_
        rintro e w' ⟨rfl, rfl⟩
        go_wp2_with fail
        refine (HT1.out _).mono ?_
        rintro e w' ⟨rfl, rfl⟩
        go_wp2_with fail
        refine (HT5.out _).mono ?_
        rintro e w' ⟨rfl, rfl⟩
        go_wp2_with fail
        refine (HT6.out _).mono ?_
        rintro e w' ⟨rfl, rfl⟩
        go_wp2_with fail
        refine (HT7.out _).mono ?_
        rintro e w' ⟨rfl, rfl⟩
        go_wp2_with fail
        refine (HT8.out _).mono ?_
        rintro e w' ⟨rfl, rfl⟩
        go_wp2_with fail
        go_meet
        exact ⟨rfl, H1.out⟩
      · have hb1 : ((b : Int) != 0) = true := by rw [bne_iff_ne]; omega
        have hp1 : ((P : Int) == 0) = false := by have := HZ.out ha0 hb0; rw [beq_eq_false_iff_ne]; omega
        clear ha0 hb0
        go_wp2_with fail
        refine (HT1.out _).mono ?_
        rintro e w' ⟨rfl, rfl⟩
        go_wp2_with fail
        refine (HT2.out _).mono ?_
        rintro e w' ⟨rfl, rfl⟩
        go_wp2_with fail
        refine (HT3.out _).mono ?_
        rintro e w' ⟨rfl, rfl⟩
        go_wp2_with fail
        refine (HT1.out _).mono ?_
        rintro e w' ⟨rfl, rfl⟩
        go_wp2_with fail
        refine (HT4.out _).mono ?_
        rintro e w' ⟨rfl, rfl⟩
        go_wp2_with fail
        refine (HT1.out _).mono ?_
        rintro e w' ⟨rfl, rfl⟩
        go_wp2_with fail
        refine (HT5.out _).mono ?_
        rintro e w' ⟨rfl, rfl⟩
        go_wp2_with fail
        refine (HT6.out _).mono ?_
        rintro e w' ⟨rfl, rfl⟩
        go_wp2_with fail
        refine (HT7.out _).mono ?_
        rintro e w' ⟨rfl, rfl⟩
        go_wp2_with fail
        refine (HT8.out _).mono ?_
        rintro e w' ⟨rfl, rfl⟩
        go_wp2_with fail
        refine (HT1.out _).mono ?_
        rintro e w' ⟨rfl, rfl⟩
        go_wp2_with fail
        go_meet
        exact ⟨rfl, H1.out⟩
  case rest =>
    obtain ⟨rfl, hbel⟩ := hcut
    have H2 := Lib.hid hbel
    have hsz := hbel.size
    clear hbel H1
    go_wp2_with fail
    refine (HB1.out _).mono ?_
    rintro e w2 ⟨rfl, hb2⟩
    have hsz2 := hb2.size
    have H3 := Lib.hid hb2
    clear hb2
    go_wp2_with fail
    refine (HB2.out _).mono ?_
    rintro e w3 ⟨rfl, hb3⟩
    have H4 : Hid (Below w.heap.size w w3) := Lib.hid (H2.out.trans ((H3.out.mono (by omega)).trans (hb3.mono (by omega))))
    have hsz3 := hb3.size
    clear hb3 H3 H2
    have rK := HK.out
    have rM := HM.out
    have rM' := HM'.out
    clear HK HM HM'
    obtain ⟨a3, c3, rfl, _⟩ := id rK
    obtain ⟨a4, c4, rfl, _⟩ := id rM
    obtain ⟨a5, c5, rfl, _⟩ := id rM'
    rw [bvs_len] at rK rM rM'
    rw [bvs_len, bvs_len, bvs_len]
    by_cases hlen : K.length = 16 ∧ M.length = 16 ∧ M'.length = 16
    · obtain ⟨hk, hm, hm'⟩ := hlen
      rw [hk] at rK ⊢
      rw [hm] at rM ⊢
      rw [hm'] at rM' ⊢
      have HK := Lib.hid rK
      have HM := Lib.hid rM
      have HM' := Lib.hid rM'
      have K16 := Lib.hid hk
      have M16 := Lib.hid hm
      have M16' := Lib.hid hm'
      clear rK rM rM' hk hm hm'
      go_wp2_with (at_builtin; refine wpList_app rfl (.tmp 97) (.tmp 98) 28 rfl w3.heap.size 5 _ 1 bytes28 _ [] rfl (Own.lit0 ?c0 ?c3) (.slice a3 16 c3) (bvs K) rfl ?cr (bvs_one _) ?c1 ?c2 ?_)
      case c0 => rfl
      case c3 => omega
      case cr => exact (HK.out.below H4.out (Nat.le_refl _)).alloc _
      case c1 => have := K16.out; simp; omega
      case c2 => simp
      rintro v6 w4 hown4 hg4 hb4
      clear hg4
      have hsz4 := hb4.size
      simp only [size_alloc'] at hsz4
      have H5 : Hid (Below w.heap.size w w4) := Lib.hid (H4.out.trans (((Below.refl _ _).alloc (by omega) _).trans (hb4.mono (by omega))))
      have HO4 := Lib.hid hown4
      clear hown4 hb4 H4
      go_wp2_with (at_builtin; refine wpList_app rfl (.tmp 99) (.tmp 100) 28 rfl w3.heap.size 5 _ 1 bytes28 _ _ rfl HO4.out (.slice a4 16 c4) (bvs M) rfl ?cr (bvs_one _) ?c1 ?c2 ?_)
      case cr => exact HM.out.below H5.out (Nat.le_refl _)
      case c1 => have := K16.out; have := M16.out; simp; omega
      case c2 => omega
      rintro v7 w5 hown5 hg5 hb5
      clear hg5
      have hsz5 := hb5.size
      have H6 : Hid (Below w.heap.size w w5) := Lib.hid (H5.out.trans (hb5.mono (by omega)))
      have HO5 := Lib.hid hown5
      clear hown5 hb5 H5 HO4
      go_wp2_with fail
      refine (block_any _ _ K M _ (HK.out.below H6.out (Nat.le_refl _)) (HM.out.below H6.out (Nat.le_refl _)) hK hM K16.out M16.out).mono ?_
      rintro e w6 ⟨r1, rfl, hr1, hb6⟩
      have hsz6 := hb6.size
      have H7 : Hid (Below w.heap.size w w6) := Lib.hid (H6.out.trans (hb6.mono (by omega)))
      have HO6 : Hid (Own w6 w3.heap.size 5 v7 ([] ++ bvs K ++ bvs M)) := Lib.hid (HO5.out.below hb6 (Nat.le_refl _))
      have HR1 := Lib.hid hr1
      clear hr1 hb6 H6 HO5
      go_wp2_with fail
      refine (block_any _ _ K M' _ (HK.out.below H7.out (Nat.le_refl _)) (HM'.out.below H7.out (Nat.le_refl _)) hK hM' K16.out M16'.out).mono ?_
      rintro e w7 ⟨r2, rfl, hr2, hb7⟩
      have hsz7 := hb7.size
      have H8 : Hid (Below w.heap.size w w7) := Lib.hid (H7.out.trans (hb7.mono (by omega)))
      have HO7 : Hid (Own w7 w3.heap.size 5 v7 ([] ++ bvs K ++ bvs M)) := Lib.hid (HO6.out.below hb7 (Nat.le_refl _))
      have HR1' : Hid (Own w7 w5.heap.size 5 r1 (bvs (blk K M))) := Lib.hid (HR1.out.below hb7 (Nat.le_refl _))
      have HR2 := Lib.hid hr2
      clear hr2 hb7 H7 HO6 HR1
      have hd : decide (blk K M = blk K M') = decide (M = M') := decide_eq_decide.mpr ⟨blk_inj hK K16.out hM hM' M16.out M16'.out, fun e => by rw [e]⟩
      have S1 := same_any r1 r2 (blk K M) (blk K M') w7 HR1'.out.rd HR2.out.rd (blk_lt hK K16.out hM M16.out).2 (blk_lt hK K16.out hM' M16'.out).2
      have S2 := fun n => same_any (.slice a4 16 c4) (.slice a5 16 c5) M M' (w7.drewN n) ((HM.out.below H8.out (Nat.le_refl _)).drewN n) ((HM'.out.below H8.out (Nat.le_refl _)).drewN n) hM hM'
      rw [hd] at S1
      obtain ⟨q, hq⟩ : ∃ q, q = decide (M = M') := ⟨_, rfl⟩
      rw [← hq] at S1
      simp only [← hq] at S2
      have HS1 := Lib.hid S1
      have HS2 := Lib.hid S2
      clear S1 S2 hd hq
      go_wp2_with fail
      refine HS1.out.mono ?_
      rintro e w8 ⟨rfl, n1, rfl⟩
      go_wp2_with fail
      refine (HS2.out n1).mono ?_
      rintro e w9 ⟨rfl, n2, hw9⟩
      rw [World.drewN_drewN] at hw9
      subst hw9
      have hnil : [] ++ bvs K ++ bvs M = bvs (K ++ M) := by rw [bvs_append, List.nil_append]
      have HO8 : Hid (Own (w7.drewN (n1 + n2)) w3.heap.size 5 v7 (bvs (K ++ M))) := Lib.hid (by have := HO7.out.drewN (n1 + n2); rw [hnil] at this; exact this)
      have H9 : Hid (Below w.heap.size w (w7.drewN (n1 + n2))) := Lib.hid (below_drewN' H8.out _)
      have hK9 := HK.out.below H9.out (Nat.le_refl _)
      have hM9 := HM.out.below H9.out (Nat.le_refl _)
      have hs7 : (w7.drewN (n1 + n2)).heap.size = w7.heap.size := rfl
      obtain ⟨w10, hw10⟩ : ∃ w10, w10 = w7.drewN (n1 + n2) := ⟨_, rfl⟩
      rw [← hw10] at HO8 H9 hK9 hM9 hs7 ⊢
      have HK9 := Lib.hid hK9
      have HM9 := Lib.hid hM9
      have hsA : w3.heap.size < w10.heap.size := by omega
      have hsB : w.heap.size ≤ w10.heap.size := by omega
      clear hw10 hnil H8 HO7 HK HM hK9 hM9 hs7
      go_wp2_with (at_builtin; refine wpList_wanted rfl ?_; refine wpList_app rfl (.tmp 128) (.tmp 129) 28 rfl w10.heap.size 5 _ 1 bytes28 _ [] rfl (Own.lit0 ?c0 ?c3) (.slice a3 16 c3) (bvs K) rfl ?cr (bvs_one _) ?c1 ?c2 ?_)
      case c0 => rfl
      case c3 => omega
      case cr => exact HK9.out.alloc _
      case c1 => have := K16.out; simp; omega
      case c2 => simp
      rintro v11 w11 hown11 hg11 hb11
      clear hg11
      have hsz11 := hb11.size
      simp only [size_alloc'] at hsz11
      have hb11' : Below w10.heap.size w10 w11 := ((Below.refl _ _).alloc (Nat.le_refl _) _).trans hb11
      have HB11 := Lib.hid hb11'
      have HO11 := Lib.hid hown11
      clear hown11 hb11 hb11'
      go_wp2_with (at_builtin; refine wpList_wanted rfl ?_; refine wpList_app rfl (.tmp 130) (.tmp 131) 28 rfl w10.heap.size 5 _ 1 bytes28 _ _ rfl HO11.out (.slice a4 16 c4) (bvs M) rfl ?cr (bvs_one _) ?c1 ?c2 ?_)
      case cr => exact HM9.out.below HB11.out (Nat.le_refl _)
      case c1 => have := K16.out; have := M16.out; simp; omega
      case c2 => omega
      rintro v12 w12 hown12 hg12 hb12
      clear hg12
      have hnil : bvs K ++ bvs M = bvs (K ++ M) := by rw [bvs_append]
      rw [hnil] at hown12
      have hb12' := HB11.out.trans hb12
      have hKM : ∀ x ∈ K ++ M, x < 256 := by
        intro x hx
        rcases List.mem_append.1 hx with h | h
        · exact hK x h
        · exact hM x h
      have S3 := same_any v12 v7 (K ++ M) (K ++ M) w12 hown12.rd (HO8.out.rd.below hb12' (Nat.le_refl _)) hKM hKM
      rw [decide_eq_true rfl] at S3
      have HS3 := Lib.hid S3
      have HF : Hid (Below w.heap.size w w12) := Lib.hid (H9.out.trans (hb12'.mono hsB))
      clear S3 hb12 hb12' hown12 hnil hKM
      go_wp2_with fail
      refine HS3.out.mono ?_
      rintro e w13 ⟨rfl, n3, rfl⟩
      go_wp2_with fail
      go_ret
      exact ⟨rfl, below_drewN' HF.out _⟩
    · have hd : ((((K.length : Nat) : Int) != 16) = true) ∨ (((((K.length : Nat) : Int) != 16) = false) ∧ (((((M.length : Nat) : Int) != 16) = true) ∨ (((((M.length : Nat) : Int) != 16) = false) ∧ ((((M'.length : Nat) : Int) != 16) = true)))) := by
        simp only [bne_iff_ne, bne_eq_false_iff_eq]; omega
      clear hlen
      rcases hd with h1 | ⟨h1, h2 | ⟨h2, h3⟩⟩
      all_goals
        go_wp2_with fail
        go_ret
        exact ⟨rfl, H4.out⟩
end Go.Proofs.Ytfpjpakjlhidkaa
