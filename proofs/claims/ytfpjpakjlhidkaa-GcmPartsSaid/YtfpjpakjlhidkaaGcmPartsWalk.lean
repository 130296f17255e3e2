/- Walks: the law GcmParts. -/
import Derived.Test.YtfpjpakjlhidkaaGcmSealsWalk
import Derived.Deep.QuietTactic
import Derived.BigQuiet
namespace Go.Proofs.Ytfpjpakjlhidkaa
open Go.RowKit AesM GcmM GcmB
set_option linter.unusedVariables false
theorem Rd.pre {w : World} {a : Option Addr} {n c : Nat} {xs : List Value} (h : Rd w (.slice a n c) xs) (k : Nat) (hk : k ≤ n) : Rd w (.slice a k c) (xs.take k) := by
  obtain ⟨a', cap, e, q1, q2, q3⟩ := h
  simp only [Value.slice.injEq] at e
  obtain ⟨rfl, rfl, rfl⟩ := e
  have hl : (xs.take k).length = k := by rw [List.length_take]; omega
  refine ⟨a, c, by rw [hl], by rw [hl]; omega, q2, ?_⟩
  rcases q3 with ⟨rfl, q⟩ | ⟨b, off, rfl, q⟩
  · exact .inl ⟨by simp, q⟩
  · refine .inr ⟨b, off, rfl, fun j u hu => q j u ?_⟩
    rw [List.getElem?_take] at hu
    split at hu
    · exact hu
    · cases hu
theorem rdCap {w : World} {a : Option Addr} {n c : Nat} {xs : List Value} (h : Rd w (.slice a n c) xs) : n ≤ c := by
  obtain ⟨a', cap, e, q1, _⟩ := h
  simp only [Value.slice.injEq] at e
  omega
theorem maskF_take (K N T : List Nat) (k : Nat) (hk : k ≤ T.length) : maskF K N (T.take k) = (maskF K N T).take k := by
  have h1 : (T.take k).length = k := by rw [List.length_take]; omega
  have hl : (maskF K N (T.take k)).length = k := by rw [maskF_len, h1]
  refine ext_getD (by rw [hl, List.length_take, maskF_len]; omega) fun j hj => ?_
  rw [hl] at hj
  rw [maskF_get _ _ _ (by rw [h1]; exact hj), List.getD_eq_getElem?_getD (l := (maskF K N T).take k), List.getElem?_take_of_lt hj, ← List.getD_eq_getElem?_getD, maskF_get _ _ _ (by omega)]
  congr 1
  rw [List.getD_eq_getElem?_getD, List.getElem?_take_of_lt hj, ← List.getD_eq_getElem?_getD]
theorem sealF_head (K N T M : List Nat) : (sealF K N T M).take T.length = maskF K N T := by
  have := sealF_take K N T M
  rwa [sealF_len, Nat.add_sub_cancel] at this
theorem sealF_headk (K N T M : List Nat) (k : Nat) (hk : k ≤ T.length) : (sealF K N (T.take k) M).take k = (sealF K N T M).take k := by
  have h1 : (T.take k).length = k := by rw [List.length_take]; omega
  have e := sealF_head K N (T.take k) M
  rw [h1] at e
  rw [e, maskF_take _ _ _ _ hk, ← sealF_head K N T M, List.take_take, Nat.min_eq_left hk]
theorem same_t {a b : Value} {A : List Nat} {W : World} (h : Rd W a (bvs A)) (h' : Rd W b (bvs A)) (hA : ∀ n ∈ A, n < 256) :
    ∀ n, Calls Try.prog 16 #[a, b] (W.drewN n) fun e w' => e = .returned (.bool true) ∧ ∃ m, w' = (W.drewN n).drewN m := by
  intro n
  have := same_any a b A A (W.drewN n) (h.drewN n) (h'.drewN n) hA hA
  rw [decide_eq_true rfl] at this
  exact this
set_option maxRecDepth 100000 in
set_option maxHeartbeats 4000000 in
theorem gcmParts_on (v0 : Value) (K : List Nat) (v1 : Value) (N : List Nat) (v2 : Value) (T : List Nat) (v3 : Value) (M : List Nat) (z : Nat) (w : World) (hK : ∀ n ∈ K, n < 256) (rK : Rd w v0 (bvs K)) (hN : ∀ n ∈ N, n < 256) (rN : Rd w v1 (bvs N)) (hT : ∀ n ∈ T, n < 256) (rT : Rd w v2 (bvs T)) (hM : ∀ n ∈ M, n < 256) (rM : Rd w v3 (bvs M)) (hz : z < 256) (lk : K.length = 16) (ln : N.length = 12) (lt : T.length ≤ 300) (lm : M.length ≤ 100) :
    Calls Try.prog 9 #[v0, v1, v2, v3, .int .u8 z] w fun e w' => e = .returned (.bool true) ∧ Below w.heap.size w w' := by
  have hv0 : ∃ a c, v0 = .slice a 16 c := by obtain ⟨a, c, e, _⟩ := rK; exact ⟨a, c, by rw [e, bvs_len, lk]⟩
  have hv1 : ∃ a c, v1 = .slice a 12 c := by obtain ⟨a, c, e, _⟩ := rN; exact ⟨a, c, by rw [e, bvs_len, ln]⟩
  have hv2 : ∃ a c, v2 = .slice a T.length c ∧ T.length ≤ c := by obtain ⟨a, c, e, q, _⟩ := rT; exact ⟨a, c, by rw [e, bvs_len], by rwa [bvs_len] at q⟩
  have hv3 : ∃ a c, v3 = .slice a M.length c := by obtain ⟨a, c, e, _⟩ := rM; exact ⟨a, c, by rw [e, bvs_len]⟩
  obtain ⟨a0, c0, rfl⟩ := hv0
  obtain ⟨a1, c1, rfl⟩ := hv1
  obtain ⟨a2, c2, rfl, hc2⟩ := hv2
  obtain ⟨a3, c3, rfl⟩ := hv3
  obtain ⟨k, hk⟩ : ∃ k, k = z % (T.length + 1) := ⟨_, rfl⟩
  have hkl : k ≤ T.length := by rw [hk]; have := Nat.mod_lt z (show 0 < T.length + 1 by omega); omega
  have rk := rT.pre k hkl
  rw [← bvs_take1] at rk
  have rn : ∀ W : World, Rd W (.slice none 0 0) (bvs []) := fun W => (Own.nil W 0 0).rd
  have SL1 := fun (W : World) (hw : Below w.heap.size w W) => gseal_on (.slice a0 16 c0) (.slice a1 12 c1) (.slice a2 T.length c2) (.slice a3 M.length c3) K N T M W (rK.below hw (Nat.le_refl _)) (rN.below hw (Nat.le_refl _)) (rT.below hw (Nat.le_refl _)) (rM.below hw (Nat.le_refl _)) hK hN hT hM lk ln (by omega) (by omega)
  have SL2 := fun (W : World) (hw : Below w.heap.size w W) => gseal_on (.slice a0 16 c0) (.slice a1 12 c1) (.slice a2 T.length c2) (.slice none 0 0) K N T [] W (rK.below hw (Nat.le_refl _)) (rN.below hw (Nat.le_refl _)) (rT.below hw (Nat.le_refl _)) (rn W) hK hN hT (by simp) lk ln (by omega) (by simp)
  have SL3 := fun (W : World) (hw : Below w.heap.size w W) => gseal_on (.slice a0 16 c0) (.slice a1 12 c1) (.slice a2 k c2) (.slice a3 M.length c3) K N (T.take k) M W (rK.below hw (Nat.le_refl _)) (rN.below hw (Nat.le_refl _)) (rk.below hw (Nat.le_refl _)) (rM.below hw (Nat.le_refl _)) hK hN (fun x hx => hT x (List.mem_of_mem_take hx)) hM lk ln (by rw [List.length_take]; omega) (by omega)
  have OP := fun (W : World) (s : Value) (hw : Below w.heap.size w W) (hs : Rd W s (bvs (sealF K N T M))) => gopen_sealed (.slice a0 16 c0) (.slice a1 12 c1) s (.slice a3 M.length c3) K N T M W (rK.below hw (Nat.le_refl _)) (rN.below hw (Nat.le_refl _)) hs (rM.below hw (Nat.le_refl _)) hK hN hT hM lk ln (by omega) (by omega)
  have l1 := sealF_len K N T M
  have l2 := sealF_len K N T []
  have l3 := sealF_len K N (T.take k) M
  rw [List.length_take, Nat.min_eq_left hkl] at l3
  have b1 := sealF_lt (M := M) hK hN lk ln hT
  have t1 : (sealF K N T M).take T.length = (sealF K N T []).take T.length := by rw [sealF_head, sealF_head]
  have t2 := sealF_headk K N T M k hkl
  obtain ⟨S1, hS1⟩ : ∃ S, S = sealF K N T M := ⟨_, rfl⟩
  obtain ⟨S2, hS2⟩ : ∃ S, S = sealF K N T [] := ⟨_, rfl⟩
  obtain ⟨S3, hS3⟩ : ∃ S, S = sealF K N (T.take k) M := ⟨_, rfl⟩
  simp only [← hS1] at SL1 OP
  simp only [← hS2] at SL2
  simp only [← hS3] at SL3
  rw [← hS1] at l1 b1 t2
  rw [← hS2] at l2
  rw [← hS3] at l3 t2
  rw [← hS1, ← hS2] at t1
  obtain ⟨n, hn⟩ : ∃ n, n = T.length := ⟨_, rfl⟩
  obtain ⟨m, hm⟩ : ∃ n, n = M.length := ⟨_, rfl⟩
  rw [← hn] at SL1 SL2 rT hc2 hkl hk lt l1 l2 t1 ⊢
  rw [← hm] at SL1 SL3 OP lm ⊢
  have HSL1 := Lib.hid SL1
  have HSL2 := Lib.hid SL2
  have HSL3 := Lib.hid SL3
  have HOP := Lib.hid OP
  have HRT := Lib.hid rT
  have HN := Lib.hid hn
  have L1 := Lib.hid l1
  have L2 := Lib.hid l2
  have L3 := Lib.hid l3
  have B1 := Lib.hid b1
  have T1 := Lib.hid t1
  have T2 := Lib.hid t2
  have HT := Lib.hid hT
  have hnc : (n : Int) + 1 = ((n + 1 : Nat) : Int) := by omega
  have hmod : Int.tmod (z : Int) ((n + 1 : Nat) : Int) = (k : Int) := by rw [Int.tmod_eq_emod_of_nonneg (by omega), hk, Int.natCast_emod]
  have hmod2 : (z : Int) % ((n + 1 : Nat) : Int) = (k : Int) := by rw [hk, Int.natCast_emod]
  have hkc : k ≤ c2 := by omega
  clear SL1 SL2 SL3 OP rK rN rT rM rk rn hn hm hS1 hS2 hS3 l1 l2 l3 b1 t1 t2 hK hN hT hM lk ln hk
  obtain ⟨n1, hn1⟩ : ∃ n1, n1 = n + 1 := ⟨_, rfl⟩
  rw [← hn1] at hnc hmod hmod2
  have HN1 := Lib.hid hn1
  have hn1p : 0 < n1 := by omega
  clear hn1
  go_enter Try.func9, Try.ntmps9
  go_wp2_with fail
  refine (alive12 _).mono ?_
  rintro e w1 ⟨rfl, hb1⟩
  have HB1 := Lib.hid hb1
  clear hb1
  go_wp2_with (at_builtin; refine wpList_app rfl (.tmp 41) (.tmp 42) 28 rfl w1.heap.size 5 _ 1 bytesE _ [] rfl (Own.lit0 rfl (Nat.le_refl _)) _ (bvs T) rfl ((HRT.out.below HB1.out (Nat.le_refl _)).alloc _) (bvs_one _) ?c2 ?c3 ?_)
  case c2 => rw [bvs_len, ← HN.out]; simp; omega
  case c3 => simp
  rintro v5 w2 hown - hb
  obtain ⟨y1, y2, y3, rfl⟩ := slOf hown
  have HW2 := Lib.hid hown.rd
  have HB2 := Lib.hid (HB1.out.trans ((((Below.refl w1.heap.size w1).alloc (Nat.le_refl _) (.cells #[] 5)).trans hb).mono HB1.out.size))
  clear hown hb
  go_wp2_with fail
  refine (HSL1.out w2 HB2.out).mono ?_
  rintro e w3 ⟨s, rfl, hown, hb⟩
  obtain ⟨sb, sc, rfl⟩ := slLen hown (n + 16) (by rw [bvs_len, L1.out])
  have HS3 := Lib.hid hown.rd
  have HW3 := Lib.hid (HW2.out.below hb (Nat.le_refl _))
  have HB3 := Lib.hid (HB2.out.trans (hb.mono HB2.out.size))
  clear hown hb HW2
  go_wp2_with fail
  refine (HSL2.out w3 HB3.out).mono ?_
  rintro e w4 ⟨t, rfl, hown, hb⟩
  obtain ⟨tb, tc, rfl⟩ := slLen hown (n + 16) (by rw [bvs_len, L2.out])
  have HT4 := Lib.hid hown.rd
  have HS4 := Lib.hid (HS3.out.below hb (Nat.le_refl _))
  have HW4 := Lib.hid (HW3.out.below hb (Nat.le_refl _))
  have HB4 := Lib.hid (HB3.out.trans (hb.mono HB3.out.size))
  clear hown hb HW3 HS3
  go_wp2_with fail
  refine (HSL3.out w4 HB4.out).mono ?_
  rintro e w5 ⟨u, rfl, hown, hb⟩
  obtain ⟨ub, uc, rfl⟩ := slLen hown (k + 16) (by rw [bvs_len, L3.out])
  have HU5 := Lib.hid hown.rd
  have HT5 := Lib.hid (HT4.out.below hb (Nat.le_refl _))
  have HS5 := Lib.hid (HS4.out.below hb (Nat.le_refl _))
  have HW5 := Lib.hid (HW4.out.below hb (Nat.le_refl _))
  have HB5 := Lib.hid (HB4.out.trans (hb.mono HB4.out.size))
  clear hown hb HW4 HS4 HT4
  go_wp2_with fail
  refine (HOP.out w5 _ HB5.out HS5.out).mono ?_
  rintro e w6 ⟨o, rfl, hown, hb⟩
  obtain ⟨ob, o2, oc, rfl⟩ := slOf hown
  have rS6 := HS5.out.below hb (Nat.le_refl _)
  have rT6 := HT5.out.below hb (Nat.le_refl _)
  have rU6 := HU5.out.below hb (Nat.le_refl _)
  have HB6 := Lib.hid (HB5.out.trans (hb.mono HB5.out.size))
  have r1 := rS6.pre n (by omega)
  rw [← bvs_take1] at r1
  have r2 := rT6.pre n (by omega)
  rw [← bvs_take1, ← T1.out] at r2
  have r3 := rU6.pre k (by omega)
  rw [← bvs_take1, T2.out] at r3
  have r4 := rS6.pre k (by omega)
  rw [← bvs_take1] at r4
  have hsc := rdCap rS6
  have htc := rdCap rT6
  have huc := rdCap rU6
  have hsc1 : n ≤ sc := by omega
  have htc1 : n ≤ tc := by omega
  have huc1 : k ≤ uc := by omega
  have hsc2 : k ≤ sc := by omega
  have q1 := Lib.hid (same_t r1 r2 (fun x hx => B1.out x (List.mem_of_mem_take hx)))
  have q2 := Lib.hid (same_t r3 r4 (fun x hx => B1.out x (List.mem_of_mem_take hx)))
  have q3 := Lib.hid (same_t hown.rd (HW5.out.below hb (Nat.le_refl _)) HT.out)
  have q4 := Lib.hid (same_t (HRT.out.below HB6.out (Nat.le_refl _)) (HW5.out.below hb (Nat.le_refl _)) HT.out)
  have hlen : ((n + 16 : Nat) : Int) = (n : Int) + 16 := by omega
  clear hown hb r1 r2 r3 r4 hsc htc huc rS6 rT6 rU6
  go_wp2_with fail
  go_quiet ((go_at_call 16; first | with_reducible exact Calls.quiet_of (q1.out _) | with_reducible exact Calls.quiet_of (q2.out _) | with_reducible exact Calls.quiet_of (q3.out _) | with_reducible exact Calls.quiet_of (q4.out _)))
  go_wp2_with fail
  go_ret
  exact ⟨rfl, below_drewN' HB6.out _⟩
set_option maxRecDepth 100000 in
set_option maxHeartbeats 4000000 in
theorem gcmParts_walk (v0 : Value) (K : List Nat) (v1 : Value) (N : List Nat) (v2 : Value) (T : List Nat) (v3 : Value) (M : List Nat) (z : Nat) (w : World) (hK : ∀ n ∈ K, n < 256) (rK : Rd w v0 (bvs K)) (hN : ∀ n ∈ N, n < 256) (rN : Rd w v1 (bvs N)) (hT : ∀ n ∈ T, n < 256) (rT : Rd w v2 (bvs T)) (hM : ∀ n ∈ M, n < 256) (rM : Rd w v3 (bvs M)) (hz : z < 256) :
    Calls Try.prog 9 #[v0, v1, v2, v3, .int .u8 z] w fun e w' => e = .returned (.bool true) ∧ Below w.heap.size w w' := by
  by_cases hon : K.length = 16 ∧ N.length = 12 ∧ T.length ≤ 300 ∧ M.length ≤ 100
  · exact gcmParts_on v0 K v1 N v2 T v3 M z w hK rK hN rN hT rT hM rM hz hon.1 hon.2.1 hon.2.2.1 hon.2.2.2
  have hv0 : ∃ a c, v0 = .slice a K.length c := by obtain ⟨a, c, e, _⟩ := rK; exact ⟨a, c, by rw [e, bvs_len]⟩
  have hv1 : ∃ a c, v1 = .slice a N.length c := by obtain ⟨a, c, e, _⟩ := rN; exact ⟨a, c, by rw [e, bvs_len]⟩
  have hv2 : ∃ a c, v2 = .slice a T.length c := by obtain ⟨a, c, e, _⟩ := rT; exact ⟨a, c, by rw [e, bvs_len]⟩
  have hv3 : ∃ a c, v3 = .slice a M.length c := by obtain ⟨a, c, e, _⟩ := rM; exact ⟨a, c, by rw [e, bvs_len]⟩
  obtain ⟨a0, c0, rfl⟩ := hv0
  obtain ⟨a1, c1, rfl⟩ := hv1
  obtain ⟨a2, c2, rfl⟩ := hv2
  obtain ⟨a3, c3, rfl⟩ := hv3
  obtain ⟨n0, hn0⟩ : ∃ n, n = K.length := ⟨_, rfl⟩
  obtain ⟨n1, hn1⟩ : ∃ n, n = N.length := ⟨_, rfl⟩
  obtain ⟨n2, hn2⟩ : ∃ n, n = T.length := ⟨_, rfl⟩
  obtain ⟨n3, hn3⟩ : ∃ n, n = M.length := ⟨_, rfl⟩
  rw [← hn0, ← hn1, ← hn2, ← hn3] at hon ⊢
  clear rK rN rT rM hn0 hn1 hn2 hn3
  have hd : n0 ≠ 16 ∨ (n0 = 16 ∧ n1 ≠ 12) ∨ (n0 = 16 ∧ n1 = 12 ∧ 300 < n2) ∨ (n0 = 16 ∧ n1 = 12 ∧ n2 ≤ 300 ∧ 100 < n3) := by omega
  clear hon
  rcases hd with h | ⟨rfl, h⟩ | ⟨rfl, rfl, h⟩ | ⟨rfl, rfl, h', h⟩
  case' inl => have h' : ((n0 : Int) == 16) = false := by rw [beq_eq_false_iff_ne]; omega
  case' inr.inl => have h' : ((n1 : Int) == 12) = false := by rw [beq_eq_false_iff_ne]; omega
  all_goals
    go_enter Try.func9, Try.ntmps9
    go_wp2_with fail
    refine (alive12 _).mono ?_
    rintro e w1 ⟨rfl, hb1⟩
    have HB1 := Lib.hid hb1
    clear hb1
    go_wp2_with fail
    go_ret
    exact ⟨rfl, HB1.out⟩
#print axioms gcmParts_walk
end Go.Proofs.Ytfpjpakjlhidkaa
