/- Walks: the reference's Seal. -/
import Derived.Test.YtfpjpakjlhidkaaGcmRefTag
namespace Go.Proofs.Ytfpjpakjlhidkaa
open Go.RowKit AesM GcmM GcmB
set_option linter.unusedVariables false
set_option maxRecDepth 100000 in
set_option maxHeartbeats 4000000 in
theorem rseal_any (v1 v2 v3 v4 : Value) (K N T M : List Nat) (w : World) (h1 : Rd w v1 (bvs K)) (h2 : Rd w v2 (bvs N)) (h3 : Rd w v3 (bvs T)) (h4 : Rd w v4 (bvs M)) (hK : ∀ x ∈ K, x < 256) (hN : ∀ x ∈ N, x < 256) (hT : ∀ x ∈ T, x < 256) (hM : ∀ x ∈ M, x < 256) (lk : K.length = 16) (ln : N.length = 12) (lt : T.length ≤ 100000) (lm : M.length ≤ 100000) :
    Calls Try.prog 26 #[v1, v2, v3, v4] w fun e w' => ∃ u, e = .returned u ∧ Own w' w.heap.size 5 u (bvs (sealF K N T M)) ∧ Below w.heap.size w w' := by
  have BX := rboxes_any w
  have MS := fun (W : World) (bx : Value) (hb : Below w.heap.size w W) (hbx : Rd W bx (nvs boxL)) => rmasked_any v1 v2 v3 bx K N T W (h1.below hb (Nat.le_refl _)) (h2.below hb (Nat.le_refl _)) (h3.below hb (Nat.le_refl _)) hbx hK hN hT lk ln lt
  have bS := maskF_lt hK hN lk ln hT
  have TG := fun (W : World) (bx s : Value) (hb : Below w.heap.size w W) (hbx : Rd W bx (nvs boxL)) (hs : Rd W s (bvs (maskF K N T))) => rtag_any v1 v2 s v4 bx K N (maskF K N T) M W (h1.below hb (Nat.le_refl _)) (h2.below hb (Nat.le_refl _)) hs (h4.below hb (Nat.le_refl _)) hbx hK hN bS hM lk ln (by rw [maskF_len]; exact lt) lm
  rw [sealF]
  have lS : (maskF K N T).length ≤ 100000 := by rw [maskF_len]; exact lt
  have lT := tagF_len K N (maskF K N T) M
  obtain ⟨S, hS⟩ : ∃ S, S = maskF K N T := ⟨_, rfl⟩
  rw [← hS] at lS lT ⊢
  simp only [← hS] at MS TG
  obtain ⟨G, hG⟩ : ∃ G, G = tagF K N S M := ⟨_, rfl⟩
  rw [← hG] at lT ⊢
  simp only [← hG] at TG
  have hv1 : ∃ a b c, v1 = .slice a b c := by obtain ⟨a, c, e, _⟩ := h1; exact ⟨a, _, c, e⟩
  have hv2 : ∃ a b c, v2 = .slice a b c := by obtain ⟨a, c, e, _⟩ := h2; exact ⟨a, _, c, e⟩
  have hv3 : ∃ a b c, v3 = .slice a b c := by obtain ⟨a, c, e, _⟩ := h3; exact ⟨a, _, c, e⟩
  have hv4 : ∃ a b c, v4 = .slice a b c := by obtain ⟨a, c, e, _⟩ := h4; exact ⟨a, _, c, e⟩
  obtain ⟨a1, b1, c1, rfl⟩ := hv1
  obtain ⟨a2, b2, c2, rfl⟩ := hv2
  obtain ⟨a3, b3, c3, rfl⟩ := hv3
  obtain ⟨a4, b4, c4, rfl⟩ := hv4
  have HBX := Lib.hid BX
  have HMS := Lib.hid MS
  have HTG := Lib.hid TG
  have HLS := Lib.hid lS
  have HLT := Lib.hid lT
  clear BX MS TG h1 h2 h3 h4 hK hN hT hM lk ln lt lm bS hS hG lS lT
  go_enter Try.func26, Try.ntmps26
  go_wp2_with fail
  refine (HBX.out).mono ?_
  rintro e w1 ⟨bx, rfl, hown, hb⟩
  obtain ⟨x1, x2, x3, rfl⟩ := slOf hown
  have HX1 := Lib.hid hown.rd
  have HB1 := Lib.hid hb
  clear hown hb
  go_wp2_with fail
  refine (HMS.out w1 _ HB1.out HX1.out).mono ?_
  rintro e w2 ⟨s, rfl, hown, hb⟩
  obtain ⟨s1, s2, s3, rfl⟩ := slOf hown
  have HS2 := Lib.hid hown.rd
  have HX2 := Lib.hid (HX1.out.below hb (Nat.le_refl _))
  have HB2 := Lib.hid (HB1.out.trans (hb.mono HB1.out.size))
  clear hown hb
  go_wp2_with (at_builtin; refine wpList_app rfl (.tmp 17) (.tmp 18) 28 rfl w2.heap.size 5 _ 1 bytesE _ [] rfl (Own.lit0 rfl (Nat.le_refl _)) _ (bvs S) rfl (HS2.out.alloc _) (bvs_one _) ?c2 ?c3 ?_)
  case c2 => have := HLS.out; rw [bvs_len]; simp; omega
  case c3 => simp
  rintro v5 w3 hown - hb
  obtain ⟨y1, y2, y3, rfl⟩ := slOf hown
  have hb23 : Below w2.heap.size w2 w3 := ((Below.refl w2.heap.size w2).alloc (Nat.le_refl _) (.cells #[] 5)).trans hb
  have HO3 := Lib.hid hown
  have HS3 := Lib.hid (HS2.out.below hb23 (Nat.le_refl _))
  have HX3 := Lib.hid (HX2.out.below hb23 (Nat.le_refl _))
  have HB3 := Lib.hid (HB2.out.trans (hb23.mono HB2.out.size))
  have HB23 := Lib.hid hb23
  clear hown hb hb23
  go_wp2_with fail
  refine (HTG.out w3 _ _ HB3.out HX3.out HS3.out).mono ?_
  rintro e w4 ⟨g, rfl, hown, hb⟩
  obtain ⟨g1, g2, g3, rfl⟩ := slOf hown
  have HG4 := Lib.hid hown.rd
  have HO4 := Lib.hid (HO3.out.below hb (Nat.le_refl _))
  have HB4 := Lib.hid (HB3.out.trans (hb.mono HB3.out.size))
  have HB24 := Lib.hid (HB23.out.trans (hb.mono HB23.out.size))
  clear hown hb
  go_wp2_with (at_builtin; refine wpList_app rfl (.tmp 19) (.tmp 25) 28 rfl w2.heap.size 5 _ 1 bytesE _ (bvs S) rfl HO4.out _ (bvs G) rfl HG4.out (bvs_one _) ?d2 ?d3 ?_)
  case d2 => have := HLS.out; have := HLT.out; rw [bvs_len, bvs_len]; omega
  case d3 => exact HB24.out.size
  rintro v6 w5 hown - hb
  obtain ⟨z1, z2, z3, rfl⟩ := slOf hown
  have HO5 := Lib.hid (hown.mono HB2.out.size)
  have HB5 := Lib.hid (HB4.out.trans (hb.mono HB2.out.size))
  clear hown hb
  go_wp2_with fail
  go_ret
  refine ⟨_, rfl, ?_, HB5.out⟩
  rw [bvs_append]
  exact HO5.out
#print axioms rseal_any
end Go.Proofs.Ytfpjpakjlhidkaa
