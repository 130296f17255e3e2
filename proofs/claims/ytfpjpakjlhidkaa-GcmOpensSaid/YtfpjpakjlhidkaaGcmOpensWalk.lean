/- Walks: the law GcmOpens. -/
import Derived.Test.YtfpjpakjlhidkaaGcmAlive
import Derived.Test.YtfpjpakjlhidkaaSame
import Derived.Test.YtfpjpakjlhidkaaGcmSealsWalk
namespace Go.Proofs.Ytfpjpakjlhidkaa
open Go.RowKit AesM GcmM GcmB
set_option linter.unusedVariables false
theorem same_b (a b : Value) (A B : List Nat) (w : World) (h : Rd w a (bvs A)) (h' : Rd w b (bvs B)) (hA : ∀ n ∈ A, n < 256) (hB : ∀ n ∈ B, n < 256) (r : Bool) (hr : decide (A = B) = r) :
    Calls Try.prog 16 #[a, b] w fun e w' => e = .returned (.bool r) ∧ Below w.heap.size w w' := by
  refine (same_any a b A B w h h' hA hB).mono ?_
  rintro e w' ⟨rfl, n, rfl⟩
  exact ⟨by rw [hr], below_drewN' (Below.refl _ _) _⟩
set_option maxRecDepth 100000 in
set_option maxHeartbeats 4000000 in
theorem gcmOpens_on (v0 : Value) (K : List Nat) (v1 : Value) (N : List Nat) (v2 : Value) (S : List Nat) (v3 : Value) (M : List Nat) (w : World) (hK : ∀ n ∈ K, n < 256) (rK : Rd w v0 (bvs K)) (hN : ∀ n ∈ N, n < 256) (rN : Rd w v1 (bvs N)) (hS : ∀ n ∈ S, n < 256) (rS : Rd w v2 (bvs S)) (hM : ∀ n ∈ M, n < 256) (rM : Rd w v3 (bvs M)) (lk : K.length = 16) (ln : N.length = 12) (ls : 16 ≤ S.length) (ls2 : S.length ≤ 100) (lm : M.length ≤ 60) :
    Calls Try.prog 8 #[v0, v1, v2, v3] w fun e w' => e = .returned (.bool true) ∧ Below w.heap.size w w' := by
  obtain ⟨C, hC⟩ : ∃ C, C = S.take (S.length - 16) := ⟨_, rfl⟩
  obtain ⟨D, hD⟩ : ∃ D, D = S.drop (S.length - 16) := ⟨_, rfl⟩
  have bC : ∀ x ∈ C, x < 256 := by rw [hC]; intro x hx; exact hS x (List.mem_of_mem_take hx)
  have bD : ∀ x ∈ D, x < 256 := by rw [hD]; intro x hx; exact hS x (List.mem_of_mem_drop hx)
  have lC : C.length = S.length - 16 := by rw [hC, List.length_take]; omega
  have lD : D.length = 16 := by rw [hD, List.length_drop]; omega
  obtain ⟨b, hb⟩ : ∃ b, decide (D = tagF K N C M) = b := ⟨_, rfl⟩
  have OP : ∀ W, Below w.heap.size w W → Calls Try.prog 25 #[v0, v1, v2, v3] W fun e w' => ∃ t, e = .returned (.tuple #[t, .bool b]) ∧ (b = true → Rd w' t (bvs (maskF K N C))) ∧ (b = false → t = .slice none 0 0) ∧ (∃ x y z, t = .slice x y z) ∧ Below W.heap.size W w' := by
    intro W hw
    refine (gopen_on v0 v1 v2 v3 K N S M W (rK.below hw (Nat.le_refl _)) (rN.below hw (Nat.le_refl _)) (rS.below hw (Nat.le_refl _)) (rM.below hw (Nat.le_refl _)) hK hN hS hM lk ln ls (by omega) (by omega)).mono ?_
    rintro e w' ⟨hif, hb'⟩
    rw [← hC, ← hD] at hif
    by_cases hE : D = tagF K N C M
    · rw [if_pos hE] at hif
      obtain ⟨u, rfl, ho⟩ := hif
      have : b = true := by rw [← hb]; exact decide_eq_true hE
      subst this
      exact ⟨u, rfl, fun _ => ho.rd, fun h => absurd h (by simp), slOf ho, hb'⟩
    · rw [if_neg hE] at hif
      have : b = false := by rw [← hb]; exact decide_eq_false hE
      subst this
      exact ⟨_, hif, fun h => absurd h (by simp), fun _ => rfl, ⟨_, _, _, rfl⟩, hb'⟩
  obtain ⟨n, hn⟩ : ∃ n, n = S.length - 16 := ⟨_, rfl⟩
  obtain ⟨sb, so, c2, hv2, hsc⟩ : ∃ b off c, v2 = .slice (some ⟨b, off, none⟩) (n + 16) c ∧ n + 16 ≤ c := by
    rcases rS.lt with q3 | ⟨b', off, c, e, q4⟩
    · exfalso
      have : (bvs S).length = 0 := by rw [q3]; rfl
      rw [bvs_len] at this; omega
    · obtain ⟨a', c', e', q1, _⟩ := rS
      rw [e] at e'
      simp only [Value.slice.injEq] at e'
      exact ⟨b', off, c, by rw [e, bvs_len]; congr 1; omega, by rw [bvs_len] at q1; omega⟩
  have hv0 : ∃ a c, v0 = .slice a 16 c := by obtain ⟨a, c, e, _⟩ := rK; exact ⟨a, c, by rw [e, bvs_len, lk]⟩
  have hv1 : ∃ a c, v1 = .slice a 12 c := by obtain ⟨a, c, e, _⟩ := rN; exact ⟨a, c, by rw [e, bvs_len, ln]⟩
  have hv3 : ∃ a c, v3 = .slice a M.length c := by obtain ⟨a, c, e, _⟩ := rM; exact ⟨a, c, by rw [e, bvs_len]⟩
  obtain ⟨a0, c0, rfl⟩ := hv0
  obtain ⟨a1, c1, rfl⟩ := hv1
  subst hv2
  obtain ⟨a3, c3, rfl⟩ := hv3
  have rC := rS.sub 0 n (off' := so) (n' := n) (cap' := c2) (by omega) (by omega) (by omega) (by omega) (by omega)
  rw [show ((bvs S).take n).drop 0 = bvs C by rw [hC, hn]; simp [bvs, List.map_take]] at rC
  have rD := rS.sub n (n + 16) (off' := so + n) (n' := 16) (cap' := c2 - n) (by omega) (by omega) (by omega) (by omega) (by omega)
  rw [show ((bvs S).take (n + 16)).drop n = bvs D by rw [hD, hn, bvs_drop1, List.take_of_length_le (by rw [bvs_len]; omega)]] at rD
  have TG := fun (W : World) (bx : Value) (hw : Below w.heap.size w W) (hbx : Rd W bx (nvs boxL)) => rtag_any (.slice a0 16 c0) (.slice a1 12 c1) (.slice (some ⟨sb, so, none⟩) n c2) (.slice a3 M.length c3) bx K N C M W (rK.below hw (Nat.le_refl _)) (rN.below hw (Nat.le_refl _)) (rC.below hw (Nat.le_refl _)) (rM.below hw (Nat.le_refl _)) hbx hK hN bC hM lk ln (by omega) (by omega)
  have MS := fun (W : World) (bx : Value) (hw : Below w.heap.size w W) (hbx : Rd W bx (nvs boxL)) => rmasked_any (.slice a0 16 c0) (.slice a1 12 c1) (.slice (some ⟨sb, so, none⟩) n c2) bx K N C W (rK.below hw (Nat.le_refl _)) (rN.below hw (Nat.le_refl _)) (rC.below hw (Nat.le_refl _)) hbx hK hN bC lk ln (by omega)
  have SM1 := fun (W : World) (v : Value) (hw : Below w.heap.size w W) (hv : Rd W v (bvs (tagF K N C M))) => same_b (.slice (some ⟨sb, so + n, none⟩) 16 (c2 - n)) v D (tagF K N C M) W (rD.below hw (Nat.le_refl _)) hv bD (tagF_lt _ _ _ _) b hb
  have bMF := maskF_lt hK hN lk ln bC
  have SM2 := fun (W : World) (u v : Value) (hu : Rd W u (bvs (maskF K N C))) (hv : Rd W v (bvs (maskF K N C))) => same_b u v (maskF K N C) (maskF K N C) W hu hv bMF bMF true (decide_eq_true rfl)
  obtain ⟨TT, hTT⟩ : ∃ TT, TT = tagF K N C M := ⟨_, rfl⟩
  simp only [← hTT] at TG SM1
  obtain ⟨MF, hMF⟩ : ∃ MF, MF = maskF K N C := ⟨_, rfl⟩
  simp only [← hMF] at OP MS SM2
  obtain ⟨m, hm⟩ : ∃ m, m = M.length := ⟨_, rfl⟩
  rw [← hm] at OP TG lm ⊢
  have HOP := Lib.hid OP
  have HTG := Lib.hid TG
  have HMS := Lib.hid MS
  have HS1 := Lib.hid SM1
  have HS2 := Lib.hid SM2
  have hn100 : n + 16 ≤ 100 := by omega
  clear OP TG MS SM1 SM2 bMF hTT hMF hm rC rD rK rN rS rM hC hD hn lC lD hb bC bD ls ls2 lk ln
  obtain ⟨n2, hn2⟩ : ∃ n2, n2 = n + 16 := ⟨_, rfl⟩
  rw [← hn2] at hsc hn100 HOP ⊢
  have hnI : (n2 : Int) - 16 = (n : Int) := by omega
  have hn16 : 16 ≤ n2 := by omega
  have hnn : n ≤ n2 := by omega
  have hnd : n2 - n = 16 := by omega
  have hge : decide ((n2 : Int) < 16) = false := by rw [decide_eq_false_iff_not]; omega
  have HN2 := Lib.hid hn2
  clear hn2
  go_enter Try.func8, Try.ntmps8
  go_wp2_with fail
  refine (alive12 _).mono ?_
  rintro e w1 ⟨rfl, hb1⟩
  have HB1 := Lib.hid hb1
  clear hb1
  go_wp2_with fail
  refine (HOP.out w1 HB1.out).mono ?_
  rintro e w2 ⟨t, rfl, ht1, ht2, ⟨t1, t2, t3, rfl⟩, hb2⟩
  have HT1 := Lib.hid ht1
  have HT2 := Lib.hid ht2
  have HB2 := Lib.hid (HB1.out.trans (hb2.mono HB1.out.size))
  clear ht1 ht2 hb2
  go_wp2_with fail
  refine (rboxes_any w2).mono ?_
  rintro e w3 ⟨bx, rfl, hown, hb3⟩
  obtain ⟨x1, x2, x3, rfl⟩ := slOf hown
  have HX3 := Lib.hid hown.rd
  have HB3 := Lib.hid (HB2.out.trans (hb3.mono HB2.out.size))
  have HT3 := Lib.hid (fun h : b = true => (HT1.out h).below hb3 (Nat.le_refl _))
  have hs3 := HB3.out.size
  clear hown hb3 HT1
  go_wp2_with fail
  refine wp_region_store [fun v _ => v = .slice (some ⟨sb, so, none⟩) n2 c2, fun v _ => v = .int .i64 (n : Nat), fun v _ => v = .slice (some ⟨sb, so + n, none⟩) 16 (c2 - n), fun v _ => v = .slice a0 16 c0, fun v _ => v = .slice a1 12 c1, fun v _ => v = .slice (some ⟨sb, so, none⟩) n2 c2, fun v _ => v = .int .i64 (n : Nat), fun v _ => v = .slice (some ⟨sb, so, none⟩) n c2, fun v _ => v = .slice a3 m c3, fun v _ => v = .slice x1 x2 x3, fun v w' => Rd w' v (bvs TT), fun v _ => v = .bool b, fun v _ => v = .bool b]
    [true, true, true, true, true, true, true, true, true, true, true, true, true] [true, true, true, true, true, true, true, true, true, true, true, true, true] [true, true, true, true, true, true, true, true, true, true, false, true, true]
    (by kernel_rfl) ?_ (by kernel_rfl) (by kernel_rfl) ?_ (by kernel_rfl) ?_ ?_
  · exact keeps_cons (fun _ _ _ h _ => h) (keeps_cons (fun _ _ _ h _ => h) (keeps_cons (fun _ _ _ h _ => h) (keeps_cons (fun _ _ _ h _ => h) (keeps_cons (fun _ _ _ h _ => h) (keeps_cons (fun _ _ _ h _ => h) (keeps_cons (fun _ _ _ h _ => h) (keeps_cons (fun _ _ _ h _ => h) (keeps_cons (fun _ _ _ h _ => h) (keeps_cons (fun _ _ _ h _ => h) (keeps_cons (fun v w1 w2 h hb => Rd.below h hb (Nat.le_refl _)) (keeps_cons (fun _ _ _ h _ => h) (keeps_cons (fun _ _ _ h _ => h) (keeps_nil)))))))))))))
  · exact pures_t (fun _ _ _ h => h) (pures_t (fun _ _ _ h => h) (pures_t (fun _ _ _ h => h) (pures_t (fun _ _ _ h => h) (pures_t (fun _ _ _ h => h) (pures_t (fun _ _ _ h => h) (pures_t (fun _ _ _ h => h) (pures_t (fun _ _ _ h => h) (pures_t (fun _ _ _ h => h) (pures_t (fun _ _ _ h => h) (pures_f (pures_t (fun _ _ _ h => h) (pures_t (fun _ _ _ h => h) (pures_nil)))))))))))))
  · refine .cons (owed3_go ?_) (.cons (owed3_go ?_) (.cons (owed3_go ?_) (.cons (owed3_go ?_) (.cons (owed3_go ?_) (.cons (owed3_go ?_) (.cons (owed3_go ?_) (.cons (owed3_go ?_) (.cons (owed3_go ?_) (.cons (owed3_go ?_) (.cons (owed3_go ?_) (.cons (owed3_go ?_) (.cons (owed3_go ?_) (.nil)))))))))))))
    · intro a wx hbx ho hf
      refine ⟨rfl, ?_⟩
      intro K hK
      have e0 : a.tmps[2]?.getD undef = .slice (some ⟨sb, so, none⟩) n2 c2 := ho 2 (by kernel_rfl)
      go_simp
      exact hK _ _ rfl (Below.refl _ _)
    · intro a wx hbx ho hf
      refine ⟨rfl, ?_⟩
      intro K hK
      have e0 : a.tmps[11]?.getD undef = .int .i64 (n : Nat) := ho 11 (by kernel_rfl)
      go_simp
      exact hK _ _ rfl (Below.refl _ _)
    · intro a wx hbx ho hf
      refine ⟨rfl, ?_⟩
      intro K hK
      have e0 : a.tmps[56]?.getD undef = .slice (some ⟨sb, so, none⟩) n2 c2 := hf.1
      have e1 : a.tmps[57]?.getD undef = .int .i64 (n : Nat) := hf.2.1
      go_simp
      rw [if_neg (show ¬ c2 = n by omega)]
      exact hK _ _ rfl (Below.refl _ _)
    · intro a wx hbx ho hf
      refine ⟨rfl, ?_⟩
      intro K hK
      have e0 : a.tmps[0]?.getD undef = .slice a0 16 c0 := ho 0 (by kernel_rfl)
      go_simp
      exact hK _ _ rfl (Below.refl _ _)
    · intro a wx hbx ho hf
      refine ⟨rfl, ?_⟩
      intro K hK
      have e0 : a.tmps[1]?.getD undef = .slice a1 12 c1 := ho 1 (by kernel_rfl)
      go_simp
      exact hK _ _ rfl (Below.refl _ _)
    · intro a wx hbx ho hf
      refine ⟨rfl, ?_⟩
      intro K hK
      have e0 : a.tmps[2]?.getD undef = .slice (some ⟨sb, so, none⟩) n2 c2 := ho 2 (by kernel_rfl)
      go_simp
      exact hK _ _ rfl (Below.refl _ _)
    · intro a wx hbx ho hf
      refine ⟨rfl, ?_⟩
      intro K hK
      have e0 : a.tmps[11]?.getD undef = .int .i64 (n : Nat) := ho 11 (by kernel_rfl)
      go_simp
      exact hK _ _ rfl (Below.refl _ _)
    · intro a wx hbx ho hf
      refine ⟨rfl, ?_⟩
      intro K hK
      have e0 : a.tmps[61]?.getD undef = .slice (some ⟨sb, so, none⟩) n2 c2 := hf.1
      have e1 : a.tmps[62]?.getD undef = .int .i64 (n : Nat) := hf.2.1
      go_simp
      rw [if_pos (show n ≤ c2 by omega)]
      exact hK _ _ rfl (Below.refl _ _)
    · intro a wx hbx ho hf
      refine ⟨rfl, ?_⟩
      intro K hK
      have e0 : a.tmps[3]?.getD undef = .slice a3 m c3 := ho 3 (by kernel_rfl)
      go_simp
      exact hK _ _ rfl (Below.refl _ _)
    · intro a wx hbx ho hf
      refine ⟨rfl, ?_⟩
      intro K hK
      have e0 : a.tmps[12]?.getD undef = .slice x1 x2 x3 := ho 12 (by kernel_rfl)
      go_simp
      exact hK _ _ rfl (Below.refl _ _)
    · intro a wx hbx ho hf
      refine ⟨rfl, ?_⟩
      intro K hK
      have e0 : a.tmps[59]?.getD undef = .slice a0 16 c0 := hf.1
      have e1 : a.tmps[60]?.getD undef = .slice a1 12 c1 := hf.2.1
      have e2 : a.tmps[63]?.getD undef = .slice (some ⟨sb, so, none⟩) n c2 := hf.2.2.1
      have e3 : a.tmps[64]?.getD undef = .slice a3 m c3 := hf.2.2.2.1
      have e4 : a.tmps[65]?.getD undef = .slice x1 x2 x3 := hf.2.2.2.2.1
      go_simp
      refine (HTG.out wx _ (HB3.out.trans (hbx.mono hs3)) (HX3.out.below hbx (Nat.le_refl _))).mono ?_
      rintro e w2 ⟨u, rfl, hown, hb2⟩
      exact hK _ _ hown.rd hb2
    · intro a wx hbx ho hf
      refine ⟨rfl, ?_⟩
      intro K hK
      have e0 : a.tmps[58]?.getD undef = .slice (some ⟨sb, so + n, none⟩) 16 (c2 - n) := hf.1
      have o1 : Rd wx (a.tmps[66]?.getD undef) (bvs TT) := hf.2.1
      obtain ⟨v1, hv1⟩ : ∃ v, v = a.tmps[66]?.getD undef := ⟨_, rfl⟩
      rw [← hv1] at o1
      have e1 := hv1.symm
      clear hv1
      go_simp
      refine (HS1.out wx _ (HB3.out.trans (hbx.mono hs3)) o1).mono ?_
      rintro e w2 ⟨rfl, hb2⟩
      exact hK _ _ rfl hb2
    · intro a wx hbx ho hf
      refine ⟨rfl, ?_⟩
      intro K hK
      have e0 : a.tmps[67]?.getD undef = .bool b := hf.1
      go_simp
      exact hK _ _ rfl (Below.refl _ _)
  · rintro f w9 hb9 hfin
    have h1 : f 13 = .bool b := hfin.2.2.2.2.2.2.2.2.2.2.2.2.1
    clear hfin
    simp only [frameOf, dstsOf, zipF, List.filterMap_cons, List.filterMap_nil, List.contains_cons, List.contains_nil, Nat.reduceBEq, Nat.reduceAdd, Bool.or_false, Bool.or_true, cond_true, cond_false]
    rw [h1]
    have HB9 := Lib.hid (HB3.out.trans (hb9.mono hs3))
    have HX9 := Lib.hid (HX3.out.below hb9 (Nat.le_refl _))
    have HT9 := Lib.hid (fun h : b = true => (HT3.out h).below hb9 (Nat.le_refl _))
    clear hb9 h1 HT3 HX3
    cases b with
    | false =>
      have e := HT2.out rfl
      simp only [Value.slice.injEq] at e
      obtain ⟨rfl, rfl, rfl⟩ := e
      go_wp2_with fail
      go_ret
      exact ⟨rfl, HB9.out⟩
    | true =>
      have HT := Lib.hid (HT9.out rfl)
      go_wp2_with fail
      refine (HMS.out w9 _ HB9.out HX9.out).mono ?_
      rintro e wa ⟨u, rfl, hown, hb⟩
      obtain ⟨u1, u2, u3, rfl⟩ := slOf hown
      have S2 := Lib.hid (HS2.out wa _ _ (HT.out.below hb (Nat.le_refl _)) hown.rd)
      have HBA := Lib.hid (HB9.out.trans (hb.mono HB9.out.size))
      clear hown hb
      go_wp2_with fail
      refine S2.out.mono ?_
      rintro e wb ⟨rfl, hb⟩
      have HBB := Lib.hid (HBA.out.trans (hb.mono HBA.out.size))
      clear hb
      go_wp2_with fail
      go_ret
      exact ⟨rfl, HBB.out⟩
set_option maxRecDepth 100000 in
set_option maxHeartbeats 4000000 in
theorem gcmOpens_walk (v0 : Value) (K : List Nat) (v1 : Value) (N : List Nat) (v2 : Value) (S : List Nat) (v3 : Value) (M : List Nat) (w : World) (hK : ∀ n ∈ K, n < 256) (rK : Rd w v0 (bvs K)) (hN : ∀ n ∈ N, n < 256) (rN : Rd w v1 (bvs N)) (hS : ∀ n ∈ S, n < 256) (rS : Rd w v2 (bvs S)) (hM : ∀ n ∈ M, n < 256) (rM : Rd w v3 (bvs M)) :
    Calls Try.prog 8 #[v0, v1, v2, v3] w fun e w' => e = .returned (.bool true) ∧ Below w.heap.size w w' := by
  by_cases hon : K.length = 16 ∧ N.length = 12 ∧ 16 ≤ S.length ∧ S.length ≤ 100 ∧ M.length ≤ 60
  · exact gcmOpens_on v0 K v1 N v2 S v3 M w hK rK hN rN hS rS hM rM hon.1 hon.2.1 hon.2.2.1 hon.2.2.2.1 hon.2.2.2.2
  have hv0 : ∃ a c, v0 = .slice a K.length c := by obtain ⟨a, c, e, _⟩ := rK; exact ⟨a, c, by rw [e, bvs_len]⟩
  have hv1 : ∃ a c, v1 = .slice a N.length c := by obtain ⟨a, c, e, _⟩ := rN; exact ⟨a, c, by rw [e, bvs_len]⟩
  have hv2 : ∃ a c, v2 = .slice a S.length c := by obtain ⟨a, c, e, _⟩ := rS; exact ⟨a, c, by rw [e, bvs_len]⟩
  have hv3 : ∃ a c, v3 = .slice a M.length c := by obtain ⟨a, c, e, _⟩ := rM; exact ⟨a, c, by rw [e, bvs_len]⟩
  have OO := fun (W : World) (hw : Below w.heap.size w W) (hl : K.length = 16 ∧ N.length = 12) (hs : S.length < 16) => gopen_short v0 v1 v2 v3 K N S W (rK.below hw (Nat.le_refl _)) (rN.below hw (Nat.le_refl _)) (rS.below hw (Nat.le_refl _)) hl hs (by obtain ⟨a, c, e⟩ := hv3; exact ⟨a, _, c, e⟩)
  obtain ⟨a0, c0, rfl⟩ := hv0
  obtain ⟨a1, c1, rfl⟩ := hv1
  obtain ⟨a2, c2, rfl⟩ := hv2
  obtain ⟨a3, c3, rfl⟩ := hv3
  obtain ⟨n0, hn0⟩ : ∃ n, n = K.length := ⟨_, rfl⟩
  obtain ⟨n1, hn1⟩ : ∃ n, n = N.length := ⟨_, rfl⟩
  obtain ⟨n2, hn2⟩ : ∃ n, n = S.length := ⟨_, rfl⟩
  obtain ⟨n3, hn3⟩ : ∃ n, n = M.length := ⟨_, rfl⟩
  rw [← hn0, ← hn1, ← hn2, ← hn3] at OO hon ⊢
  have HOO := Lib.hid OO
  clear OO rK rN rS rM hn0 hn1 hn2 hn3
  have hd : n0 ≠ 16 ∨ (n0 = 16 ∧ n1 ≠ 12) ∨ (n0 = 16 ∧ n1 = 12 ∧ 100 < n2) ∨ (n0 = 16 ∧ n1 = 12 ∧ n2 ≤ 100 ∧ 60 < n3) ∨ (n0 = 16 ∧ n1 = 12 ∧ n2 < 16 ∧ n3 ≤ 60) := by omega
  clear hon
  rcases hd with h | ⟨rfl, h⟩ | ⟨rfl, rfl, h⟩ | ⟨rfl, rfl, h', h⟩ | ⟨rfl, rfl, h', h⟩
  case' inl => have h' : ((n0 : Int) == 16) = false := by rw [beq_eq_false_iff_ne]; omega
  case' inr.inl => have h' : ((n1 : Int) == 12) = false := by rw [beq_eq_false_iff_ne]; omega
  iterate 4
    · go_enter Try.func8, Try.ntmps8
      go_wp2_with fail
      refine (alive12 _).mono ?_
      rintro e w1 ⟨rfl, hb1⟩
      have HB1 := Lib.hid hb1
      clear hb1
      go_wp2_with fail
      go_ret
      exact ⟨rfl, HB1.out⟩
  go_enter Try.func8, Try.ntmps8
  go_wp2_with fail
  refine (alive12 _).mono ?_
  rintro e w1 ⟨rfl, hb1⟩
  have HB1 := Lib.hid hb1
  clear hb1
  go_wp2_with fail
  refine (HOO.out w1 HB1.out (by first | trivial | exact ⟨rfl, rfl⟩) h').mono ?_
  rintro e w2 ⟨rfl, rfl⟩
  go_wp2_with fail
  go_ret
  exact ⟨rfl, HB1.out⟩
#print axioms gcmOpens_walk
end Go.Proofs.Ytfpjpakjlhidkaa
