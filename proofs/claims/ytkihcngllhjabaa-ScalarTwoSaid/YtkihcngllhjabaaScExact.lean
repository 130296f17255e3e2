/- Walks: scalar's Exact. -/
import Derived.Test.YtkihcngllhjabaaScOut
namespace Go.Proofs.Ytkihcngllhjabaa
open Go.RowKit ScM
set_option linter.unusedVariables false
theorem leV_mid {K : List Nat} (hK : ∀ n ∈ K, n < 256) {a b : Nat} (h : a + b ≤ K.length) : leV ((K.drop a).take b) = leV K / 256 ^ a % 256 ^ b := by
  have e1 : leV K = leV (K.take a) + 256 ^ a * leV (K.drop a) := by
    have := leV_app (K.take a) (K.drop a)
    rw [List.take_append_drop, List.length_take, Nat.min_eq_left (by omega)] at this
    exact this
  have h1 : leV (K.take a) < 256 ^ a := by
    have := leV_lt (L := K.take a) fun n hn => hK n (List.mem_of_mem_take hn)
    rwa [List.length_take, Nat.min_eq_left (by omega)] at this
  rw [e1, Nat.add_mul_div_left _ _ (Nat.pow_pos (by omega)), Nat.div_eq_of_lt h1, Nat.zero_add]
  obtain ⟨M, hM⟩ : ∃ M, M = K.drop a := ⟨_, rfl⟩
  have hMl : b ≤ M.length := by rw [hM, List.length_drop]; omega
  rw [← hM]
  have e2 : leV M = leV (M.take b) + 256 ^ b * leV (M.drop b) := by
    have := leV_app (M.take b) (M.drop b)
    rw [List.take_append_drop, List.length_take, Nat.min_eq_left hMl] at this
    exact this
  have h2 : leV (M.take b) < 256 ^ b := by
    have := leV_lt (L := M.take b) fun n hn => hK n (by rw [hM] at hn; exact List.mem_of_mem_drop (List.mem_of_mem_take hn))
    rwa [List.length_take, Nat.min_eq_left hMl] at this
  rw [e2, Nat.add_mul_mod_self_left, Nat.mod_eq_of_lt h2]
theorem leV_wd {K : List Nat} (hK : ∀ n ∈ K, n < 256) (hl : K.length = 32) {i : Nat} (hi : i < 4) : leV ((K.drop (8 * i)).take 8) = wd (leV K) i := by
  rw [leV_mid hK (by omega)]
  obtain rfl | rfl | rfl | rfl : i = 0 ∨ i = 1 ∨ i = 2 ∨ i = 3 := by omega
  all_goals simp [wd]
def exB (K : List Nat) : Bool := decide (K.length = 32 ∧ leV K < L)
def exN (K : List Nat) : Nat := if K.length = 32 ∧ leV K < L then leV K else 0
set_option maxRecDepth 100000 in
set_option maxHeartbeats 4000000 in
theorem sexact_any (v : Value) (K : List Nat) (w : World) (h : Rd w v (bvs K)) (hK : ∀ n ∈ K, n < 256) :
    Calls Try.prog 11 #[v] w fun e w' => e = .returned (.tuple #[.agg (w4 (exN K)), .bool (exB K)]) ∧ Below w.heap.size w w' := by
  obtain ⟨n, hn⟩ : ∃ n, n = K.length := ⟨_, rfl⟩
  have hv : ∃ a c, v = .slice a n c := by obtain ⟨a, c, e, _⟩ := h; exact ⟨a, c, by rw [e, bvs_len, hn]⟩
  obtain ⟨a, cap, rfl⟩ := hv
  have hz0 : w4 0 = #[.int .u64 0, .int .u64 0, .int .u64 0, .int .u64 0] := by kernel_rfl
  by_cases h32 : n = 32
  · subst h32
    have hne : ((32 : Int) != 32) = false := rfl
    obtain ⟨V, hV⟩ : ∃ V, V = leV K := ⟨_, rfl⟩
    have hVP : V < P256 := by
      have := leV_lt hK
      rw [← hn, ← hV] at this
      exact Nat.lt_of_lt_of_le this (by decide)
    have WO : ∀ (i : Nat) (wr : World), i < 4 → Below w.heap.size w wr → Calls Try.prog 58 #[.slice a 32 cap, .int .i64 (8 * (i : Int))] wr fun e w' => e = .returned (.int .u64 (wd V i : Nat)) ∧ w' = wr := by
      intro i wr hi hb
      have := sword_any (.slice a 32 cap) K (8 * i) wr (h.below hb (Nat.le_refl _)) hK (by omega)
      rw [leV_wd hK hn.symm hi, ← hV] at this
      rw [show (8 * (i : Int)) = ((8 * i : Nat) : Int) by omega]
      exact this
    have hB : exB K = decide (V < L) := by
      unfold exB; rw [← hn, ← hV]; simp
    have hN : exN K = if V < L then V else 0 := by
      unfold exN; rw [← hn, ← hV]; simp
    rw [hB, hN]
    have OD := fun w => sorder_any w
    have SB := fun w => ssub_any V L w hVP L_lt
    rw [bor4] at SB
    obtain ⟨b, hb⟩ : ∃ b, b = if V < L then 1 else 0 := ⟨_, rfl⟩
    rw [← hb] at SB
    obtain ⟨d, hd⟩ : ∃ d, d = dif V L := ⟨_, rfl⟩
    rw [← hd] at SB
    have HOD := Lib.hid OD
    have HSB := Lib.hid SB
    have HWO := Lib.hid WO
    have HBQ := Lib.hid hb
    obtain ⟨k1, k2, k3⟩ := blk2 w #[.int .u64 0, .int .u64 0, .int .u64 0, .int .u64 0] (ws V 0) 27 25
    have hws : ws V 0 = #[.int .u64 0, .int .u64 0, .int .u64 0, .int .u64 0] := rfl
    rw [hws] at k1 k2 k3
    have K1 := Lib.hid k1
    have K2 := Lib.hid k2
    have K3 := Lib.hid k3
    have HZ0 := Lib.hid hz0
    clear k1 k2 k3 OD SB hd hb hB hN WO hV hVP h hn hws hz0
    go_enter Try.func11, Try.ntmps11
    go_wp2_with fail
    go_loopg [12] 4 (fun q iv wr => ∃ i : Nat, i + q = 4 ∧ iv = .int .i64 (i : Nat) ∧ Blk wr w.heap.size 27 #[.int .u64 0, .int .u64 0, .int .u64 0, .int .u64 0] ∧ Blk wr (w.heap.size + 1) 25 (ws V i) ∧ Below w.heap.size w wr)
    case atStart => exact ⟨0, rfl, rfl, K1.out, K2.out, K3.out⟩
    case round =>
      obtain ⟨i, hi, rfl, k1, k2, k3⟩ := hrel
      have J1 := Lib.hid k1
      have J2 := Lib.hid k2
      have J3 := Lib.hid k3
      have HI := Lib.hid hi
      by_cases hi4 : i < 4
      · have hi4' : decide ((i : Int) < 4) = true := by rw [decide_eq_true_iff]; omega
        have D := HWO.out i wr hi4 k3
        have hx := wd_lt V i
        obtain ⟨x, hxe⟩ : ∃ x, x = wd V i := ⟨_, rfl⟩
        rw [← hxe] at D hx
        obtain ⟨u, hu⟩ := ws_get (s := V) hi4
        have q3 := k2.cell i
        rw [hu] at q3
        have q4 := k2.frozen i
        have HD := Lib.hid D
        have HX := Lib.hid hxe
        clear D k1 k2 k3 hu hxe hi
        go_wp2_with fail
        refine (HD.out).mono ?_
        rintro e w' ⟨rfl, rfl⟩
        go_wp2_with fail
        go_roundg (gk - 1)
        case measure => have := HI.out; omega
        case rel =>
          refine ⟨i + 1, by have := HI.out; omega, by go_num, J1.out.far (by simp) _, ?_, J3.out.setCell (by simp) _⟩
          rw [← ws_set hi4, ← HX.out]
          exact J2.out.set _ _
      · obtain rfl : i = 4 := by omega
        have e4 : ws V 4 = w4 V := rfl
        rw [e4] at J2
        clear k1 k2 k3 hi e4
        go_wp2_with fail
        refine wp_region_store [fun v _ => v = .agg (w4 V), fun v _ => v = .agg (w4 L), fun v _ => v = .tuple #[.agg (w4 d), .int .u64 (b : Nat)], fun v _ => v = .tuple #[.agg (w4 d), .int .u64 (b : Nat)], fun v _ => v = .agg (w4 d), fun v _ => v = .int .u64 (b : Nat), fun v w' => ∃ g, v = .pointer (some ⟨g, 0, none⟩) ∧ wr.heap.size ≤ g ∧ Blk w' g 25 #[.int .u64 0, .int .u64 0, .int .u64 0, .int .u64 0], fun v w' => ∃ g, v = .pointer (some ⟨g, 0, none⟩) ∧ wr.heap.size ≤ g ∧ Blk w' g 25 (w4 d), fun v _ => v = .int .u64 (b : Nat)]
          [false, false, false, false, false, false, false, true, true] [true, true, true, true, true, true, true, false, true] [true, true, true, true, true, true, false, false, true]
          (by kernel_rfl) ?_ (by kernel_rfl) (by kernel_rfl) ?_ (by kernel_rfl) ?_ ?_
        · exact keeps_cons (fun _ _ _ h _ => h) (keeps_cons (fun _ _ _ h _ => h) (keeps_cons (fun _ _ _ h _ => h) (keeps_cons (fun _ _ _ h _ => h) (keeps_cons (fun _ _ _ h _ => h) (keeps_cons (fun _ _ _ h _ => h) (keeps_cons (fun v w1 w2 h hb => let ⟨g, e, h1, h2⟩ := h; ⟨g, e, h1, h2.below hb h2.lt⟩) (keeps_cons (fun v w1 w2 h hb => let ⟨g, e, h1, h2⟩ := h; ⟨g, e, h1, h2.below hb h2.lt⟩) (keeps_cons (fun _ _ _ h _ => h) (keeps_nil)))))))))
        · exact pures_t (fun _ _ _ h => h) (pures_t (fun _ _ _ h => h) (pures_t (fun _ _ _ h => h) (pures_t (fun _ _ _ h => h) (pures_t (fun _ _ _ h => h) (pures_t (fun _ _ _ h => h) (pures_f (pures_f (pures_t (fun _ _ _ h => h) (pures_nil)))))))))
        · refine .cons (owed3_go ?_) (.cons (owed3_go ?_) (.cons (owed3_go ?_) (.cons (owed3_go ?_) (.cons (owed3_go ?_) (.cons (owed3_go ?_) (.cons (owed3_go ?_) (.cons (owed3_go ?_) (.cons (owed3_go ?_) (.nil)))))))))
          · intro a wx hbx ho hf
            refine ⟨rfl, ?_⟩
            intro K hK
            have e0 : a.tmps[4]?.getD undef = .pointer (some ⟨w.heap.size + 1, 0, none⟩) := ho 4 (by kernel_rfl)
            exact wp_load_row 25 (.tmp 4) rfl _ (evs e0) _ (w4 V) (0, 0) _ (J2.out.below hbx J2.out.lt) Try.underlying25 rfl (by kernel_rfl) (hK _ _ rfl (Below.refl _ _))
          · intro a wx hbx ho hf
            refine ⟨rfl, ?_⟩
            intro K hK
            go_simp
            refine (HOD.out wx).mono ?_
            rintro e w2 ⟨rfl, hb2⟩
            exact hK _ _ rfl hb2
          · intro a wx hbx ho hf
            refine ⟨rfl, ?_⟩
            intro K hK
            have e0 : a.tmps[23]?.getD undef = .agg (w4 V) := hf.1
            have e1 : a.tmps[24]?.getD undef = .agg (w4 L) := hf.2.1
            go_simp
            refine (HSB.out wx).mono ?_
            rintro e w2 ⟨rfl, hb2⟩
            exact hK _ _ rfl hb2
          · intro a wx hbx ho hf
            refine ⟨rfl, ?_⟩
            intro K hK
            have e0 : a.tmps[25]?.getD undef = .tuple #[.agg (w4 d), .int .u64 (b : Nat)] := hf.1
            go_simp
            exact hK _ _ rfl (Below.refl _ _)
          · intro a wx hbx ho hf
            refine ⟨rfl, ?_⟩
            intro K hK
            have e0 : a.tmps[22]?.getD undef = .tuple #[.agg (w4 d), .int .u64 (b : Nat)] := hf.1
            go_simp
            exact hK _ _ rfl (Below.refl _ _)
          · intro a wx hbx ho hf
            refine ⟨rfl, ?_⟩
            intro K hK
            have e0 : a.tmps[22]?.getD undef = .tuple #[.agg (w4 d), .int .u64 (b : Nat)] := hf.1
            go_simp
            exact hK _ _ rfl (Below.refl _ _)
          · intro a wx hbx ho hf
            refine ⟨rfl, ?_⟩
            intro K hK
            go_simp
            exact hK _ _ ⟨_, rfl, hbx.size, Blk.new wx _ _⟩ ((Below.refl _ _).alloc (Nat.le_refl _) _)
          · intro a wx hbx ho hf
            refine ⟨rfl, ?_⟩
            intro K hK
            obtain ⟨g, hg, hgW, hblk⟩ : ∃ g, a.tmps[6]?.getD undef = .pointer (some ⟨g, 0, none⟩) ∧ wr.heap.size ≤ g ∧ Blk wx g 25 #[.int .u64 0, .int .u64 0, .int .u64 0, .int .u64 0] := hf.1
            have ev2 : a.tmps[26]?.getD undef = .agg (w4 d) := hf.2.1
            refine wp_store_row 25 (.tmp 6) (.tmp 26) rfl g (w4 d) (evs hg) (evs ev2) _ _ hblk (by kernel_rfl) rfl (by rw [← Array.all_toList]; rfl) ?_
            exact hK _ _ ⟨g, hg, hgW, setRow_heap wx g _ _ _ _ hblk⟩ ⟨rfl, rfl, rfl, by simp, fun i hi => setRow_other wx g i _ (Nat.ne_of_lt (Nat.lt_of_lt_of_le hi hgW))⟩
          · intro a wx hbx ho hf
            refine ⟨rfl, ?_⟩
            intro K hK
            have e0 : a.tmps[27]?.getD undef = .int .u64 (b : Nat) := hf.1
            go_simp
            exact hK _ _ rfl (Below.refl _ _)
        · rintro f w9 hb9 hfin
          have hfe : f 7 = .int .u64 (b : Nat) := hfin.2.2.2.2.2.2.2.2.1
          obtain ⟨g, hg, hgW, hblk⟩ : ∃ g, f 6 = .pointer (some ⟨g, 0, none⟩) ∧ wr.heap.size ≤ g ∧ Blk w9 g 25 (w4 d) := hfin.2.2.2.2.2.2.2.1
          clear hfin
          simp only [frameOf, dstsOf, zipF, List.filterMap_cons, List.filterMap_nil, List.contains_cons, List.contains_nil, Nat.reduceBEq, Nat.reduceAdd, Bool.or_false, Bool.or_true, cond_true, cond_false]
          rw [hfe, hg]
          have M1 := Lib.hid (J1.out.below hb9 J1.out.lt)
          have M2 := Lib.hid (J2.out.below hb9 J2.out.lt)
          have MB := Lib.hid (J3.out.trans (hb9.mono J3.out.size))
          clear hb9 hblk hfe hg hgW
          have hb := HBQ.out
          by_cases hxl : V < L
          · rw [if_pos hxl] at hb
            have HXL := Lib.hid hxl
            subst hb
            clear hxl
            go_wp2_with (first
              | (refine wpList_load_at rfl 25 (.tmp 4) rfl (w.heap.size + 1) rfl 25 (w4 V) (0, 0) _ M2.out Try.underlying25 rfl (by kernel_rfl) ?_)
              | (refine wpList_bld rfl 27 #[(0, .tmp 31)] rfl (w4 V) (by kernel_rfl) ?_)
              | (refine wpList_store_blk rfl 27 (.tmp 2) (.tmp 32) rfl w.heap.size (w4 V) rfl rfl _ _ M1.out (by kernel_rfl) rfl rfl ?_))
            rintro w2 hk2 hb2 - -
            have JK := Lib.hid hk2
            have JD := Lib.hid (MB.out.trans (hb2 _ (Nat.le_refl _)))
            clear hk2 hb2
            go_wp2_with fail
            exact bodyPost_ret (v := .tuple #[.agg (w4 V), .bool true]) (results_row2 Try.results11 _ _ w.heap.size _ _ _ rfl JK.out Try.underlying27 rfl (by kernel_rfl)) rfl ⟨by first | rfl | rw [if_pos HXL.out, decide_eq_true HXL.out], JD.out⟩
          · rw [if_neg hxl] at hb
            have HXL := Lib.hid hxl
            subst hb
            clear hxl
            go_wp2_with (first
              | (refine wpList_bld rfl 27 #[] rfl #[.int .u64 0, .int .u64 0, .int .u64 0, .int .u64 0] (by kernel_rfl) ?_)
              | (refine wpList_store_blk rfl 27 (.tmp 2) (.tmp 30) rfl w.heap.size #[.int .u64 0, .int .u64 0, .int .u64 0, .int .u64 0] rfl rfl _ _ M1.out (by kernel_rfl) rfl rfl ?_))
            rintro w2 hk2 hb2 - -
            have JK := Lib.hid hk2
            have JD := Lib.hid (MB.out.trans (hb2 _ (Nat.le_refl _)))
            clear hk2 hb2
            go_wp2_with fail
            exact bodyPost_ret (v := .tuple #[.agg #[.int .u64 0, .int .u64 0, .int .u64 0, .int .u64 0], .bool false]) (results_row2 Try.results11 _ _ w.heap.size _ _ _ rfl JK.out Try.underlying27 rfl (by kernel_rfl)) rfl ⟨by first | rfl | rw [HZ0.out] | rw [if_neg HXL.out, decide_eq_false HXL.out, HZ0.out], JD.out⟩
  · have hne : ((n : Int) != 32) = true := by simp; omega
    have hB : exB K = false := by unfold exB; rw [← hn]; exact decide_eq_false (fun h => h32 h.1)
    have hN : exN K = 0 := by unfold exN; rw [← hn]; exact if_neg (fun h => h32 h.1)
    rw [hB, hN]
    have M1 := Lib.hid (Blk.new w 27 #[.int .u64 0, .int .u64 0, .int .u64 0, .int .u64 0])
    have MB := Lib.hid ((Below.refl w.heap.size w).alloc (Nat.le_refl _) (.cells #[.int .u64 0, .int .u64 0, .int .u64 0, .int .u64 0] 27))
    have HZ0 := Lib.hid hz0
    clear hB hN h hK hn h32 hz0
    go_enter Try.func11, Try.ntmps11
    go_wp2_with (first
      | (refine wpList_bld rfl 27 #[] rfl #[.int .u64 0, .int .u64 0, .int .u64 0, .int .u64 0] (by kernel_rfl) ?_)
      | (refine wpList_store_blk rfl 27 (.tmp 2) (.tmp 11) rfl w.heap.size #[.int .u64 0, .int .u64 0, .int .u64 0, .int .u64 0] rfl rfl _ _ M1.out (by kernel_rfl) rfl rfl ?_))
    rintro w2 hk2 hb2 - -
    have JK := Lib.hid hk2
    have JD := Lib.hid (MB.out.trans (hb2 _ (Nat.le_refl _)))
    clear hk2 hb2
    go_wp2_with fail
    exact bodyPost_ret (v := .tuple #[.agg #[.int .u64 0, .int .u64 0, .int .u64 0, .int .u64 0], .bool false]) (results_row2 Try.results11 _ _ w.heap.size _ _ _ rfl JK.out Try.underlying27 rfl (by kernel_rfl)) rfl ⟨by rw [HZ0.out], JD.out⟩
end Go.Proofs.Ytkihcngllhjabaa
