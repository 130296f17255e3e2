/- Walks: the law GcmSeals. -/
import Derived.Test.YtfpjpakjlhidkaaGcmAlive
import Derived.Test.YtfpjpakjlhidkaaSame
import Derived.Test.YtfpjpakjlhidkaaAppZeros
namespace Go.Proofs.Ytfpjpakjlhidkaa
open Go.RowKit AesM GcmM GcmB
set_option linter.unusedVariables false
theorem maskF_get (K N T : List Nat) {j : Nat} (h : j < T.length) : (maskF K N T).getD j 0 = T.getD j 0 ^^^ (mk K N (j / 16 + 2)).getD (j % 16) 0 := by
  simp [maskF, List.getD_eq_getElem?_getD, h]
theorem maskF_back (K N T : List Nat) : maskF K N (maskF K N T) = T := by
  refine ext_getD (by rw [maskF_len, maskF_len]) fun j hj => ?_
  rw [maskF_len, maskF_len] at hj
  rw [maskF_get _ _ _ (by rw [maskF_len]; exact hj), maskF_get _ _ _ hj, Nat.xor_assoc, Nat.xor_self, Nat.xor_zero]
theorem sealF_len (K N T M : List Nat) : (sealF K N T M).length = T.length + 16 := by rw [sealF, List.length_append, maskF_len, tagF_len]
theorem sealF_take (K N T M : List Nat) : (sealF K N T M).take ((sealF K N T M).length - 16) = maskF K N T := by
  rw [sealF_len, sealF, Nat.add_sub_cancel]
  have := List.take_left (l₁ := maskF K N T) (l₂ := tagF K N (maskF K N T) M)
  rw [maskF_len] at this
  exact this
theorem sealF_drop (K N T M : List Nat) : (sealF K N T M).drop ((sealF K N T M).length - 16) = tagF K N (maskF K N T) M := by
  rw [sealF_len, sealF, Nat.add_sub_cancel]
  have := List.drop_left (l₁ := maskF K N T) (l₂ := tagF K N (maskF K N T) M)
  rw [maskF_len] at this
  exact this
theorem sealF_lt {K N T M : List Nat} (bK : ∀ x ∈ K, x < 256) (bN : ∀ x ∈ N, x < 256) (lk : K.length = 16) (ln : N.length = 12) (bT : ∀ x ∈ T, x < 256) : ∀ x ∈ sealF K N T M, x < 256 := by
  intro x hx
  rcases List.mem_append.1 hx with hx | hx
  · exact maskF_lt bK bN lk ln bT x hx
  · exact tagF_lt _ _ _ _ x hx
theorem zc16 : (Builtin.zeroCells (Value.int .u8 0).cells 16).toList = bvs (List.replicate 16 0) := by kernel_rfl
/-- what is sealed is opened -/
theorem gopen_sealed (v1 v2 v3 v4 : Value) (K N T M : List Nat) (w : World) (h1 : Rd w v1 (bvs K)) (h2 : Rd w v2 (bvs N)) (h3 : Rd w v3 (bvs (sealF K N T M))) (h4 : Rd w v4 (bvs M)) (bK : ∀ x ∈ K, x < 256) (bN : ∀ x ∈ N, x < 256) (bT : ∀ x ∈ T, x < 256) (bM : ∀ x ∈ M, x < 256) (lk : K.length = 16) (ln : N.length = 12) (lt : T.length ≤ 1000) (lm : M.length ≤ 100000) :
    Calls Try.prog 25 #[v1, v2, v3, v4] w fun e w' => ∃ u, e = .returned (.tuple #[u, .bool true]) ∧ Own w' w.heap.size 5 u (bvs T) ∧ Below w.heap.size w w' := by
  refine (gopen_on v1 v2 v3 v4 K N (sealF K N T M) M w h1 h2 h3 h4 bK bN (sealF_lt bK bN lk ln bT) bM lk ln (by rw [sealF_len]; omega) (by rw [sealF_len]; omega) lm).mono ?_
  rintro e w' ⟨hif, hb⟩
  rw [sealF_take, sealF_drop, if_pos rfl, maskF_back] at hif
  obtain ⟨u, e, ho⟩ := hif
  exact ⟨u, e, ho, hb⟩
set_option maxRecDepth 100000 in
set_option maxHeartbeats 4000000 in
theorem gcmSeals_walk (v0 : Value) (K : List Nat) (v1 : Value) (N : List Nat) (v2 : Value) (T : List Nat) (v3 : Value) (M : List Nat) (w : World) (hK : ∀ n ∈ K, n < 256) (rK : Rd w v0 (bvs K)) (hN : ∀ n ∈ N, n < 256) (rN : Rd w v1 (bvs N)) (hT : ∀ n ∈ T, n < 256) (rT : Rd w v2 (bvs T)) (hM : ∀ n ∈ M, n < 256) (rM : Rd w v3 (bvs M)) :
    Calls Try.prog 7 #[v0, v1, v2, v3] w fun e w' => e = .returned (.bool true) ∧ Below w.heap.size w w' := by
  have hv0 : ∃ a c, v0 = .slice a K.length c := by obtain ⟨a, c, e, _⟩ := rK; exact ⟨a, c, by rw [e, bvs_len]⟩
  have hv1 : ∃ a c, v1 = .slice a N.length c := by obtain ⟨a, c, e, _⟩ := rN; exact ⟨a, c, by rw [e, bvs_len]⟩
  have hv2 : ∃ a c, v2 = .slice a T.length c := by obtain ⟨a, c, e, _⟩ := rT; exact ⟨a, c, by rw [e, bvs_len]⟩
  have hv3 : ∃ a c, v3 = .slice a M.length c := by obtain ⟨a, c, e, _⟩ := rM; exact ⟨a, c, by rw [e, bvs_len]⟩
  by_cases hbig : K.length ≤ 40 ∧ N.length ≤ 40 ∧ T.length ≤ 100 ∧ M.length ≤ 60
  · obtain ⟨k0, k1, k2, k3⟩ := hbig
    by_cases h16 : K.length = 16 ∧ N.length = 12
    · obtain ⟨lk, ln⟩ := h16
      have SL := fun (W : World) (hw : Below w.heap.size w W) => gseal_on v0 v1 v2 v3 K N T M W (rK.below hw (Nat.le_refl _)) (rN.below hw (Nat.le_refl _)) (rT.below hw (Nat.le_refl _)) (rM.below hw (Nat.le_refl _)) hK hN hT hM lk ln (by omega) (by omega)
      have OP := fun (W : World) (s : Value) (hw : Below w.heap.size w W) (hs : Rd W s (bvs (sealF K N T M))) => gopen_sealed v0 v1 s v3 K N T M W (rK.below hw (Nat.le_refl _)) (rN.below hw (Nat.le_refl _)) hs (rM.below hw (Nat.le_refl _)) hK hN hT hM lk ln (by omega) (by omega)
      have RS := fun (W : World) (hw : Below w.heap.size w W) => rseal_any v0 v1 v2 v3 K N T M W (rK.below hw (Nat.le_refl _)) (rN.below hw (Nat.le_refl _)) (rT.below hw (Nat.le_refl _)) (rM.below hw (Nat.le_refl _)) hK hN hT hM lk ln (by omega) (by omega)
      have hS := sealF_lt (M := M) hK hN lk ln hT
      have hSl := sealF_len K N T M
      obtain ⟨S, hS'⟩ : ∃ S, S = sealF K N T M := ⟨_, rfl⟩
      simp only [← hS'] at SL OP RS hS hSl
      obtain ⟨a0, c0, rfl⟩ := hv0
      obtain ⟨a1, c1, rfl⟩ := hv1
      obtain ⟨a2, c2, rfl⟩ := hv2
      obtain ⟨a3, c3, rfl⟩ := hv3
      have RT := Lib.hid rT
      rw [lk, ln] at SL OP RS ⊢
      have SM1 := fun (W : World) (a b : Value) (ha : Rd W a (bvs S)) (hb : Rd W b (bvs S)) => same_any a b S S W ha hb hS hS
      have SM2 := fun (W : World) (a : Value) (hw : Below w.heap.size w W) (ha : Rd W a (bvs T)) => same_any a (.slice a2 T.length c2) T T W ha (rT.below hw (Nat.le_refl _)) hT hT
      simp only [decide_true] at SM1 SM2
      obtain ⟨n2, hn2⟩ : ∃ n, n = T.length := ⟨_, rfl⟩
      obtain ⟨n3, hn3⟩ : ∃ n, n = M.length := ⟨_, rfl⟩
      rw [← hn2] at SL RS SM2 k2 ⊢
      rw [← hn3] at SL OP RS k3 ⊢
      rw [← hn2] at hSl
      have HSL := Lib.hid SL
      have HOP := Lib.hid OP
      have HRS := Lib.hid RS
      have HS1 := Lib.hid SM1
      have HS2 := Lib.hid SM2
      have HSLEN := Lib.hid hSl
      clear SL OP RS SM1 SM2 hS hSl hS' rK rN rT rM lk ln hn2 hn3 RT k0 k1
      go_enter Try.func7, Try.ntmps7
      go_wp2_with fail
      refine (alive12 _).mono ?_
      rintro e w1 ⟨rfl, hb1⟩
      have HB1 := Lib.hid hb1
      clear hb1
      go_wp2_with fail
      refine (HSL.out w1 HB1.out).mono ?_
      rintro e w2 ⟨s, rfl, hown, hb⟩
      obtain ⟨s1, s2, s3, rfl⟩ := slOf hown
      have HP2 := Lib.hid hown.rd
      have HB2 := Lib.hid (HB1.out.trans (hb.mono HB1.out.size))
      clear hown hb
      go_wp2_with fail
      refine (HOP.out w2 _ HB2.out HP2.out).mono ?_
      rintro e w3 ⟨t, rfl, hown, hb⟩
      obtain ⟨t1, t2, t3, rfl⟩ := slOf hown
      have HT3 := Lib.hid hown.rd
      have HP3 := Lib.hid (HP2.out.below hb (Nat.le_refl _))
      have HB3 := Lib.hid (HB2.out.trans (hb.mono HB2.out.size))
      clear hown hb HP2
      go_wp2_with fail
      refine (HRS.out w3 HB3.out).mono ?_
      rintro e w4 ⟨u, rfl, hown, hb⟩
      obtain ⟨u1, u2, u3, rfl⟩ := slOf hown
      have HU4 := Lib.hid hown.rd
      have HT4 := Lib.hid (HT3.out.below hb (Nat.le_refl _))
      have HP4 := Lib.hid (HP3.out.below hb (Nat.le_refl _))
      have HB4 := Lib.hid (HB3.out.trans (hb.mono HB3.out.size))
      clear hown hb HP3 HT3
      go_wp2_with fail
      refine (HS1.out w4 _ _ HP4.out HU4.out).mono ?_
      rintro e w5 ⟨rfl, n5, rfl⟩
      go_wp2_with fail
      refine (HS2.out (w4.drewN n5) _ (below_drewN' HB4.out n5) (HT4.out.drewN n5)).mono ?_
      rintro e w6 ⟨rfl, n6, rfl⟩
      go_wp2_with fail
      go_ret
      exact ⟨rfl, below_drewN' HB4.out _⟩
    · have SO := fun (W : World) (hw : Below w.heap.size w W) => gseal_off v0 v1 v2 v3 K N W (rK.below hw (Nat.le_refl _)) (rN.below hw (Nat.le_refl _)) h16 (by obtain ⟨a, c, e⟩ := hv2; exact ⟨a, _, c, e⟩) (by obtain ⟨a, c, e⟩ := hv3; exact ⟨a, _, c, e⟩)
      have OO := fun (W : World) (s : Value) (L : List Nat) (hw : Below w.heap.size w W) (hs : Rd W s (bvs L)) (hl : L.length ≤ 100000) => gopen_off v0 v1 s v3 K N L W (rK.below hw (Nat.le_refl _)) (rN.below hw (Nat.le_refl _)) hs h16 hl (by obtain ⟨a, c, e⟩ := hv3; exact ⟨a, _, c, e⟩)
      obtain ⟨a0, c0, rfl⟩ := hv0
      obtain ⟨a1, c1, rfl⟩ := hv1
      obtain ⟨a2, c2, rfl⟩ := hv2
      obtain ⟨a3, c3, rfl⟩ := hv3
      obtain ⟨n0, hn0⟩ : ∃ n, n = K.length := ⟨_, rfl⟩
      obtain ⟨n1, hn1⟩ : ∃ n, n = N.length := ⟨_, rfl⟩
      obtain ⟨n2, hn2⟩ : ∃ n, n = T.length := ⟨_, rfl⟩
      obtain ⟨n3, hn3⟩ : ∃ n, n = M.length := ⟨_, rfl⟩
      rw [← hn0, ← hn1, ← hn2, ← hn3] at SO ⊢
      simp only [← hn0, ← hn1, ← hn3] at OO
      rw [← hn0] at k0 h16
      rw [← hn1] at k1 h16
      rw [← hn2] at k2 rT
      rw [← hn3] at k3
      have HSO := Lib.hid SO
      have HOO := Lib.hid OO
      have HRT := Lib.hid rT
      have HN2 := Lib.hid hn2
      clear SO OO rK rN rT rM hn0 hn1 hn2 hn3
      have hd : n0 ≠ 16 ∨ (n0 = 16 ∧ n1 ≠ 12) := by omega
      clear h16
      rcases hd with h | ⟨rfl, h⟩
      all_goals
        first
        | have h' : ((n0 : Int) == 16) = false := by rw [beq_eq_false_iff_ne]; omega
        | have h' : ((n1 : Int) == 12) = false := by rw [beq_eq_false_iff_ne]; omega
        go_enter Try.func7, Try.ntmps7
        go_wp2_with fail
        refine (alive12 _).mono ?_
        rintro e w1 ⟨rfl, hb1⟩
        have HB1 := Lib.hid hb1
        clear hb1
        go_wp2_with fail
        refine (HSO.out w1 HB1.out).mono ?_
        rintro e w2 ⟨rfl, rfl⟩
        go_wp2_with (at_builtin; refine wpList_app rfl (.tmp 54) (.tmp 55) 28 rfl w2.heap.size 5 _ 1 bytesE _ [] rfl (Own.lit0 rfl (Nat.le_refl _)) _ (bvs T) rfl ((HRT.out.below HB1.out (Nat.le_refl _)).alloc _) (bvs_one _) ?c2 ?c3 ?_)
        case c2 => rw [bvs_len, ← HN2.out]; simp; omega
        case c3 => simp
        rintro v5 w3 hown - hb
        obtain ⟨y1, y2, y3, rfl⟩ := slOf hown
        have hb3 : Below w2.heap.size w2 w3 := ((Below.refl w2.heap.size w2).alloc (Nat.le_refl _) (.cells #[] 5)).trans hb
        obtain ⟨v6, w4, hrun, hown4, hg4⟩ := run_app_zeros (P := Try.prog) (w := w3) 28 3 28 5 (.int .u8 0) 1 bytesE .i64 rfl _ _ hown 16 (by omega) rfl (by rw [zc16]; exact bvs_one _) (by rw [bvs_len, ← HN2.out]; omega) hb3.size
        rw [zc16, ← bvs_append] at hown4
        have hb4 : Below w.heap.size w2 w4 := (hb3.mono HB1.out.size).trans ((Below.refl w.heap.size w3).grown hg4 (Nat.le_trans HB1.out.size hb3.size) (fun k hk => Nat.le_trans HB1.out.size (World.ownsRow.lt hown k hk).1))
        have HO4 := Lib.hid hown4.rd
        have HB4 := Lib.hid (HB1.out.trans hb4)
        have HRUN := Lib.hid hrun
        obtain ⟨z1, z2, z3, rfl⟩ := slOf hown4
        clear hown hown4 hg4 hb hb3 hb4 hrun
        go_wp2_with (at_builtin; refine Lib.wpList_append_run _ rfl _ _ _ _ rfl _ _ rfl rfl _ _ HRUN.out ?_)
        go_wp2_with fail
        refine (HOO.out w4 _ (T ++ List.replicate 16 0) HB4.out HO4.out (by rw [List.length_append, List.length_replicate, ← HN2.out]; omega)).mono ?_
        rintro e w5 ⟨rfl, rfl⟩
        go_wp2_with fail
        go_ret
        exact ⟨rfl, HB4.out⟩
  · have hd : 40 < K.length ∨ (K.length ≤ 40 ∧ 40 < N.length) ∨ (K.length ≤ 40 ∧ N.length ≤ 40 ∧ 100 < T.length) ∨ (K.length ≤ 40 ∧ N.length ≤ 40 ∧ T.length ≤ 100 ∧ 60 < M.length) := by omega
    obtain ⟨a0, c0, rfl⟩ := hv0
    obtain ⟨a1, c1, rfl⟩ := hv1
    obtain ⟨a2, c2, rfl⟩ := hv2
    obtain ⟨a3, c3, rfl⟩ := hv3
    clear hbig rK rN rT rM
    rcases hd with h | ⟨h, h'⟩ | ⟨h, h', h''⟩ | ⟨h, h', h'', h'''⟩
    all_goals
      go_enter Try.func7, Try.ntmps7
      go_wp2_with fail
      refine (alive12 _).mono ?_
      rintro e w1 ⟨rfl, hb1⟩
      have HB1 := Lib.hid hb1
      clear hb1
      go_wp2_with fail
      go_ret
      exact ⟨rfl, HB1.out⟩
end Go.Proofs.Ytfpjpakjlhidkaa
