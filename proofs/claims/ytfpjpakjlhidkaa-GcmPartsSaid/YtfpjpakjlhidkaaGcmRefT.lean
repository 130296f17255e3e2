/- Walks: the reference's bit, Times. -/
import Derived.Test.YtfpjpakjlhidkaaGcmRefM
import Derived.Test.YtfpjpakjlhidkaaGcmTagS
namespace Go.Proofs.Ytfpjpakjlhidkaa
open Go.RowKit AesM GcmM GcmB
set_option linter.unusedVariables false
set_option maxRecDepth 100000 in
set_option maxHeartbeats 2000000 in
theorem rbit_any (v : Value) (B : List Nat) (n : Nat) (w : World) (h : Rd w v (bvs B)) (hB : ∀ x ∈ B, x < 256) (hl : B.length = 16) (hn : n < 128) :
    Calls Try.prog 35 #[v, .int .i64 (n : Nat)] w fun e w' => e = .returned (.int .i64 (pv (bt (beV B) n) : Nat)) ∧ w' = w := by
  have hv : ∃ a c, v = .slice a 16 c := by obtain ⟨a, c, e, _⟩ := h; exact ⟨a, c, by rw [e, bvs_len, hl]⟩
  obtain ⟨a, c, rfl⟩ := hv
  obtain ⟨b, off, rfl, hbl, hc⟩ := h.get3 (bvs_getD (L := B) (i := n / 8) (by omega))
  have hbit := bit_at hB hl hn
  obtain ⟨x, hx⟩ : ∃ x, x = B.getD (n / 8) 0 := ⟨_, rfl⟩
  obtain ⟨r, hr⟩ : ∃ r, r = n % 8 := ⟨_, rfl⟩
  obtain ⟨q, hq⟩ : ∃ q, q = n / 8 := ⟨_, rfl⟩
  have hx1 : x < 256 := by rw [hx]; exact getD_lt hB (by omega) _
  rw [← hx, ← hr] at hbit
  rw [← hx, ← hq] at hc
  obtain ⟨res, hres⟩ : ∃ res, res = pv (bt (beV B) n) := ⟨_, rfl⟩
  rw [← hres] at hbit ⊢
  have e1 : (n : Int) / 8 = (q : Int) := by omega
  have e2 : (n : Int) % 8 = (r : Int) := by omega
  have hr8 : r < 8 := by omega
  have hq16 : q < 16 := by omega
  have HBIT := Lib.hid hbit
  clear hbit hres h hx hr hq hB hl
  go_enter Try.func35, Try.ntmps35
  go_wp2_with fail
  go_loopg [5, 6] 8 (fun g xv iv wr => ∃ i y : Nat, i + g = 8 ∧ i ≤ 7 - r ∧ iv = .int .i64 (i : Nat) ∧ xv = .int .i64 (y : Nat) ∧ y = x / 2 ^ i ∧ y < 256 ∧ wr = w)
  case atStart => exact ⟨0, x, rfl, by omega, rfl, rfl, by simp, hx1, rfl⟩
  case round =>
    obtain ⟨i, y, hi, hi2, rfl, rfl, hy, hy2, rfl⟩ := hrel
    have HI := Lib.hid hi
    have HY := Lib.hid hy
    clear hi hy
    by_cases hlt : i < 7 - r
    · have hlt' : decide ((i : Int) < 7 - (r : Int)) = true := by rw [decide_eq_true_iff]; omega
      go_wp2_with fail
      go_roundg (gk - 1)
      case measure => have := HI.out; omega
      case rel => exact ⟨i + 1, y / 2, by have := HI.out; omega, by omega, by go_num, by go_num, by rw [HY.out, Nat.div_div_eq_div_mul, Nat.pow_succ], by omega, rfl⟩
    · have hlt' : decide ((i : Int) < 7 - (r : Int)) = false := by rw [decide_eq_false_iff_not]; omega
      have e3 : (y : Int) % 2 = (res : Int) := by
        rw [← HBIT.out, show 7 - r = i by omega, ← HY.out]; omega
      go_wp2_with fail
      go_ret
      refine ⟨?_, rfl⟩
      show Ending.returned (.int .i64 ((y : Int) % 2)) = _
      rw [e3]
theorem rbit_at (v : Value) (B : List Nat) (n : Nat) (b : Bool) (w : World) (h : Rd w v (bvs B)) (hB : ∀ x ∈ B, x < 256) (hl : B.length = 16) (hn : n < 128) (hb : bt (beV B) n = b) :
    Calls Try.prog 35 #[v, .int .i64 (n : Nat)] w fun e w' => e = .returned (.int .i64 (if b then 1 else 0)) ∧ w' = w := by
  have := rbit_any v B n w h hB hl hn
  rw [hb] at this
  cases b <;> exact this
def Z255 : Array Value := (nvs (pL fun _ => false)).toArray
theorem nvs_set1 (L : List Nat) (i : Nat) (u : Int) (n : Nat) (h : u = (n : Int)) : (nvs L).set i (.int .i64 u) = nvs (L.set i n) := by rw [h, nvs_set]
set_option maxRecDepth 100000 in
set_option maxHeartbeats 4000000 in
theorem r12times_any (v1 v2 : Value) (A B : List Nat) (w : World) (h1 : Rd w v1 (bvs A)) (h2 : Rd w v2 (bvs B)) (hA : ∀ x ∈ A, x < 256) (hB : ∀ x ∈ B, x < 256) (la : A.length = 16) (lb : B.length = 16) :
    Calls Try.prog 23 #[v1, v2] w fun e w' => ∃ u, e = .returned u ∧ Own w' w.heap.size 5 u (bvs (beN 16 (GcmM.gm (beV A) (beV B)))) ∧ Below w.heap.size w w' := by
  have hv1 : ∃ a c, v1 = .slice a 16 c := by obtain ⟨a, c, e, _⟩ := h1; exact ⟨a, c, by rw [e, bvs_len, la]⟩
  have hv2 : ∃ a c, v2 = .slice a 16 c := by obtain ⟨a, c, e, _⟩ := h2; exact ⟨a, c, by rw [e, bvs_len, lb]⟩
  have hbl := beV_lt128 hB lb
  have BA := fun (n : Nat) (b : Bool) (W : World) (hb : Below w.heap.size w W) (hn : n < 128) (e : bt (beV A) n = b) => rbit_at v1 A n b W (h1.below hb (Nat.le_refl _)) hA la hn e
  have BB := fun (n : Nat) (b : Bool) (W : World) (hb : Below w.heap.size w W) (hn : n < 128) (e : bt (beV B) n = b) => rbit_at v2 B n b W (h2.below hb (Nat.le_refl _)) hB lb hn e
  obtain ⟨a1, c1, rfl⟩ := hv1
  obtain ⟨a2, c2, rfl⟩ := hv2
  obtain ⟨va, hva⟩ : ∃ x, x = beV A := ⟨_, rfl⟩
  obtain ⟨vb, hvb⟩ : ∃ x, x = beV B := ⟨_, rfl⟩
  rw [← hva] at BA ⊢
  rw [← hvb] at BB hbl ⊢
  have hmk : ∀ w, (Instr.makeSlice 34 (.int .i64 255) (.int .i64 255)).run Try.prog w = .ok (.slice (some ⟨w.heap.size, 0, none⟩) 255 255) (w.alloc (.cells Z255 3)) := fun _ => by kernel_rfl
  have hmk2 : ∀ w, (Instr.makeSlice 28 (.int .i64 16) (.int .i64 16)).run Try.prog w = .ok (.slice (some ⟨w.heap.size, 0, none⟩) 16 16) (w.alloc (.cells Z16 5)) := fun _ => by kernel_rfl
  have HOZ := Lib.hid (fun (W : World) => (Own.full (w := W) (B := W.heap.size) (e := 5) (cs := (bvs (List.replicate 16 0)).toArray) rfl (Nat.le_refl _) (by unfold maxLen; simp) (n := 16) (by simp) : Own (W.alloc (.cells Z16 5)) W.heap.size 5 (.slice (some ⟨W.heap.size, 0, none⟩) 16 16) (bvs (List.replicate 16 0))))
  have HOP := Lib.hid ((Own.full (w := w) (B := w.heap.size) (e := 3) (cs := (nvs (pL fun _ => false)).toArray) rfl (Nat.le_refl _) (by unfold maxLen; rw [List.size_toArray, nvs_len, pL_len]; omega) (n := 255) (by rw [List.size_toArray, nvs_len, pL_len])) : Own (w.alloc (.cells Z255 3)) w.heap.size 3 (.slice (some ⟨w.heap.size, 0, none⟩) 255 255) (nvs (pL fun _ => false)))
  have HBA := Lib.hid BA
  have HBB := Lib.hid BB
  have hphi0 : phi (fun _ => false) 255 = 0 := phi_false (m := 0) (n := 255) (by omega) (fun _ _ _ => rfl)
  have HPH := Lib.hid hphi0
  clear BA BB h1 h2 hA hB la lb hva hvb hphi0
  go_enter Try.func23, Try.ntmps23
  go_wp2_with fail
  go_loopg [6] 128 (fun q iv wr => ∃ (i : Nat) (p : Nat → Bool), i + q = 128 ∧ iv = .int .i64 (i : Nat) ∧ Own wr w.heap.size 3 (.slice (some ⟨w.heap.size, 0, none⟩) 255 255) (nvs (pL p)) ∧ phi p 255 = gmK va vb i ∧ Below w.heap.size w wr)
  case atStart => exact ⟨0, _, rfl, rfl, HOP.out, HPH.out, (Below.refl _ _).alloc (Nat.le_refl _) _⟩
  case round =>
    obtain ⟨i, p, hi, rfl, hown, hphi, hb⟩ := hrel
    have HI := Lib.hid hi
    have HO := Lib.hid hown
    have HP := Lib.hid hphi
    have HB := Lib.hid hb
    clear hi hown hphi hb
    by_cases hlt : i < 128
    · have hlt' : decide ((i : Int) < 128) = true := by rw [decide_eq_true_iff]; omega
      go_wp2_with fail
      obtain ⟨g1, rfl⟩ : ∃ g1, g1 = gk := ⟨_, rfl⟩
      obtain ⟨w1, rfl⟩ : ∃ w1, w1 = wr := ⟨_, rfl⟩
      go_loopg [7] 128 (fun q iv wr => ∃ (k : Nat) (p : Nat → Bool), k + q = 128 ∧ iv = .int .i64 (k : Nat) ∧ Own wr w.heap.size 3 (.slice (some ⟨w.heap.size, 0, none⟩) 255 255) (nvs (pL p)) ∧ phi p 255 = gmK va vb i ^^^ (if bt va i then GcmM.xtn i (cut vb k) else 0) ∧ Below w.heap.size w wr)
      case atStart => exact ⟨0, p, rfl, rfl, HO.out, by rw [HP.out]; simp [cut, gmK, GcmM.xtn_zero], HB.out⟩
      case round =>
        obtain ⟨k, p2, hk, rfl, hown, hphi, hb⟩ := hrel
        have HK := Lib.hid hk
        have HO2 := Lib.hid hown
        have HP2 := Lib.hid hphi
        have HB2 := Lib.hid hb
        clear hk hphi hb
        by_cases hlt2 : k < 128
        · have hlt2' : decide ((k : Int) < 128) = true := by rw [decide_eq_true_iff]; omega
          cases hba : bt va i with
          | false =>
            have HBT := Lib.hid hba
            clear hba hown
            go_wp2_with fail
            refine (HBA.out i false _ HB2.out hlt HBT.out).mono ?_
            rintro e w' ⟨rfl, rfl⟩
            go_wp2_with fail
            go_roundg (gk - 1)
            case measure => have := HK.out; omega
            case rel => exact ⟨k + 1, p2, by have := HK.out; omega, by go_num, HO2.out, by rw [HP2.out, HBT.out]; rfl, HB2.out⟩
          | true =>
            have HBT := Lib.hid hba
            clear hba
            cases hbb : bt vb k with
            | false =>
              have HBU := Lib.hid hbb
              clear hbb hown
              go_wp2_with fail
              refine (HBA.out i true _ HB2.out hlt HBT.out).mono ?_
              rintro e w' ⟨rfl, rfl⟩
              go_wp2_with fail
              refine (HBB.out k false _ HB2.out hlt2 HBU.out).mono ?_
              rintro e w'' ⟨rfl, rfl⟩
              go_wp2_with fail
              go_roundg (gk - 1)
              case measure => have := HK.out; omega
              case rel => exact ⟨k + 1, p2, by have := HK.out; omega, by go_num, HO2.out, by rw [HP2.out, HBT.out, if_pos rfl, if_pos rfl, xt_cut _ _ _ hlt2, HBU.out]; simp, HB2.out⟩
            | true =>
              have HBU := Lib.hid hbb
              obtain ⟨j, hj⟩ : ∃ j, j = i + k := ⟨_, rfl⟩
              have hj2 : j < 255 := by omega
              have hjI : (i : Int) + (k : Int) = (j : Int) := by omega
              obtain ⟨y, hy⟩ : ∃ y, y = pv (p2 j) := ⟨_, rfl⟩
              have q1 := hown.at.1 j (.int .i64 (y : Nat)) (by rw [nvs_getD (by rw [pL_len]; exact hj2), pL_get _ hj2, hy])
              have q2 := hown.at.2 j
              have hy1 : y ≤ 1 := by rw [hy]; unfold pv; split <;> omega
              have HY := Lib.hid hy
              have HJ := Lib.hid hj
              clear hbb hown hy hj
              go_wp2_with fail
              refine (HBA.out i true _ HB2.out hlt HBT.out).mono ?_
              rintro e w' ⟨rfl, rfl⟩
              go_wp2_with fail
              refine (HBB.out k true _ HB2.out hlt2 HBU.out).mono ?_
              rintro e w'' ⟨rfl, rfl⟩
              go_wp2_with fail
              go_roundg (gk - 1)
              case measure => have := HK.out; omega
              case rel =>
                refine ⟨k + 1, GcmM.flip p2 j, by have := HK.out; omega, by go_num, ?_, ?_, HB2.out.setCell (p := ⟨w.heap.size, j, none⟩) (Nat.le_refl _) _⟩
                · rw [pL_flip _ hj2, ← HY.out, ← nvs_set1 _ _ (1 - (y : Int)) (1 - y) (by omega)]
                  exact HO2.out.set j _
                · rw [phi_flip, HP2.out, HBT.out, if_pos rfl, if_pos rfl, xt_cut _ _ _ hlt2, HBU.out, if_pos rfl, if_pos hj2, HJ.out, Nat.xor_assoc]
        · obtain rfl : k = 128 := by have := HK.out; omega
          have hlt2' : decide ((128 : Int) < 128) = false := by decide
          clear hown
          go_wp2_with fail
          go_roundg (g1 - 1)
          case measure => have := HI.out; omega
          case rel => exact ⟨i + 1, p2, by have := HI.out; omega, by go_num, HO2.out, by rw [HP2.out, cut_full hbl]; rfl, HB2.out⟩
    · obtain rfl : i = 128 := by have := HI.out; omega
      clear hlt
      clear HBA HBB
      have HPX := Lib.hid (show phi p 255 = GcmM.gm va vb from HP.out)
      go_wp2_with fail
      obtain ⟨g1, rfl⟩ : ∃ g1, g1 = gk := ⟨_, rfl⟩
      obtain ⟨w1, rfl⟩ : ∃ w1, w1 = wr := ⟨_, rfl⟩
      go_loopg [8] 127 (fun q iv wr => ∃ (n : Nat) (p : Nat → Bool), n = 127 + q ∧ q ≤ 127 ∧ iv = .int .i64 (n : Nat) ∧ Own wr w.heap.size 3 (.slice (some ⟨w.heap.size, 0, none⟩) 255 255) (nvs (pL p)) ∧ phi p 255 = GcmM.gm va vb ∧ (∀ j, n < j → j < 255 → p j = false) ∧ Below w.heap.size w wr)
      case atStart => exact ⟨254, p, rfl, by omega, rfl, HO.out, HPX.out, fun j h1 h2 => by omega, HB.out⟩
      case round =>
        obtain ⟨n, p, hn, hq, rfl, hown, hphi, htop, hb⟩ := hrel
        have HN := Lib.hid hn
        have HO2 := Lib.hid hown
        have HP2 := Lib.hid hphi
        have HT2 := Lib.hid htop
        have HB2 := Lib.hid hb
        have hc := fun (j : Nat) (hj : j < 255) => hown.at.1 j (.int .i64 (pv (p j) : Nat)) (by rw [nvs_getD (by rw [pL_len]; exact hj), pL_get _ hj])
        have hf := hown.at.2
        have HC := Lib.hid hc
        clear hn hphi htop hb hown hc
        by_cases hge : 128 ≤ n
        · have hn255 : n < 255 := by have := HN.out; omega
          have hge' : decide ((n : Int) ≥ 128) = true := by rw [decide_eq_true_iff]; omega
          have hge2 : decide ((128 : Int) ≤ (n : Int)) = true := by rw [decide_eq_true_iff]; omega
          have q0 := HC.out n hn255
          cases hpn : p n with
          | false =>
            rw [hpn] at q0
            have q0' : wr.cell? ⟨w.heap.size, n, none⟩ = some (.int .i64 0) := q0
            have HPN := Lib.hid hpn
            clear hpn q0
            go_wp2_with fail
            go_roundg (gk - 1)
            case measure => have := HN.out; omega
            case rel =>
              refine ⟨n - 1, p, by have := HN.out; omega, by omega, by go_num, HO2.out, HP2.out, fun j h1 h2 => ?_, HB2.out⟩
              rcases (show j = n ∨ n < j by omega) with rfl | h
              · exact HPN.out
              · exact HT2.out j h h2
          | true =>
            rw [hpn] at q0
            have q0' : wr.cell? ⟨w.heap.size, n, none⟩ = some (.int .i64 1) := q0
            have HPN := Lib.hid hpn
            clear hpn q0
            obtain ⟨j1, hj1⟩ : ∃ j, j = n - 128 := ⟨_, rfl⟩
            obtain ⟨j2, hj2⟩ : ∃ j, j = n - 127 := ⟨_, rfl⟩
            obtain ⟨j3, hj3⟩ : ∃ j, j = n - 126 := ⟨_, rfl⟩
            obtain ⟨j4, hj4⟩ : ∃ j, j = n - 121 := ⟨_, rfl⟩
            have i1 : (n : Int) - 128 = (j1 : Int) := by omega
            have i2 : (n : Int) - 127 = (j2 : Int) := by omega
            have i3 : (n : Int) - 126 = (j3 : Int) := by omega
            have i4 : (n : Int) - 121 = (j4 : Int) := by omega
            obtain ⟨y1, hy1⟩ : ∃ y, y = pv (p j1) := ⟨_, rfl⟩
            obtain ⟨y2, hy2⟩ : ∃ y, y = pv (p j2) := ⟨_, rfl⟩
            obtain ⟨y3, hy3⟩ : ∃ y, y = pv (p j3) := ⟨_, rfl⟩
            obtain ⟨y4, hy4⟩ : ∃ y, y = pv (p j4) := ⟨_, rfl⟩
            have r1 := HC.out j1 (by omega)
            have r2 := HC.out j2 (by omega)
            have r3 := HC.out j3 (by omega)
            have r4 := HC.out j4 (by omega)
            have b1 : y1 ≤ 1 := by rw [hy1]; unfold pv; split <;> omega
            have b2 : y2 ≤ 1 := by rw [hy2]; unfold pv; split <;> omega
            have b3 : y3 ≤ 1 := by rw [hy3]; unfold pv; split <;> omega
            have b4 : y4 ≤ 1 := by rw [hy4]; unfold pv; split <;> omega
            rw [← hy1] at r1
            rw [← hy2] at r2
            rw [← hy3] at r3
            rw [← hy4] at r4
            have f0 := hf n
            have f1 := hf j1
            have f2 := hf j2
            have f3 := hf j3
            have f4 := hf j4
            have d1 : j1 ≠ n := by omega
            have d2 : j2 ≠ n := by omega
            have d3 : j3 ≠ n := by omega
            have d4 : j4 ≠ n := by omega
            have d5 : j2 ≠ j1 := by omega
            have d6 : j3 ≠ j1 := by omega
            have d7 : j4 ≠ j1 := by omega
            have d8 : j3 ≠ j2 := by omega
            have d9 : j4 ≠ j2 := by omega
            have d10 : j4 ≠ j3 := by omega
            have l1 : j1 < 255 := by omega
            have l2 : j2 < 255 := by omega
            have l3 : j3 < 255 := by omega
            have l4 : j4 < 255 := by omega
            have HY1 := Lib.hid hy1
            have HY2 := Lib.hid hy2
            have HY3 := Lib.hid hy3
            have HY4 := Lib.hid hy4
            have HJ1 := Lib.hid hj1
            have HJ2 := Lib.hid hj2
            have HJ3 := Lib.hid hj3
            have HJ4 := Lib.hid hj4
            clear hf hy1 hy2 hy3 hy4 hj1 hj2 hj3 hj4
            go_wp2_with fail
            go_roundg (gk - 1)
            case measure => have := HN.out; omega
            case rel =>
              refine ⟨n - 1, GcmM.flip (GcmM.flip (GcmM.flip (GcmM.flip (GcmM.flip p n) j1) j2) j3) j4, by have := HN.out; omega, by omega, by go_num, ?_, ?_, fun j h1 h2 => ?_, ?_⟩
              · rw [pL_flip _ l4, pL_flip _ l3, pL_flip _ l2, pL_flip _ l1, pL_flip _ hn255, flip_ne d10, flip_ne d9, flip_ne d7, flip_ne d4, flip_ne d8, flip_ne d6, flip_ne d3, flip_ne d5, flip_ne d2, flip_ne d1, HPN.out, ← HY1.out, ← HY2.out, ← HY3.out, ← HY4.out,
                  ← nvs_set1 _ _ (1 - (y4 : Int)) (1 - y4) (by omega), ← nvs_set1 _ _ (1 - (y3 : Int)) (1 - y3) (by omega), ← nvs_set1 _ _ (1 - (y2 : Int)) (1 - y2) (by omega), ← nvs_set1 _ _ (1 - (y1 : Int)) (1 - y1) (by omega), ← nvs_set1 _ n 0 (1 - pv true) rfl]
                exact ((((HO2.out.set n _).set j1 _).set j2 _).set j3 _).set j4 _
              · rw [HJ1.out, HJ2.out, HJ3.out, HJ4.out, red_step hge hn255, HP2.out]
              · rcases (show j = n ∨ n < j by omega) with rfl | h
                · rw [flip_ne d4.symm, flip_ne d3.symm, flip_ne d2.symm, flip_ne d1.symm, flip_eq, HPN.out]; rfl
                · rw [flip_ne (by omega), flip_ne (by omega), flip_ne (by omega), flip_ne (by omega), flip_ne (by omega)]
                  exact HT2.out j h h2
              · exact ((((HB2.out.setCell (p := ⟨w.heap.size, n, none⟩) (Nat.le_refl _) _).setCell (p := ⟨w.heap.size, j1, none⟩) (Nat.le_refl _) _).setCell (p := ⟨w.heap.size, j2, none⟩) (Nat.le_refl _) _).setCell (p := ⟨w.heap.size, j3, none⟩) (Nat.le_refl _) _).setCell (p := ⟨w.heap.size, j4, none⟩) (Nat.le_refl _) _
        · obtain rfl : n = 127 := by have := HN.out; omega
          clear hf
          have HPZ := Lib.hid (show phi p 128 = GcmM.gm va vb by rw [← HP2.out]; exact (phi_false (by omega) (fun j h1 h2 => HT2.out j (by omega) h2)).symm)
          go_wp2_with fail
          have ho0 : Own (wr.alloc (.cells Z16 5)) w.heap.size 5 (.slice (some ⟨wr.heap.size, 0, none⟩) 16 16) (bvs (oL p 0)) := by rw [oL_zero]; exact (HOZ.out wr).mono HB2.out.size
          have ho1 := HO2.out.alloc (.cells Z16 5)
          have ho2 := HB2.out.alloc HB2.out.size (.cells Z16 5)
          have hbz := HB2.out.size
          have hgz : w.heap.size < wr.heap.size := by
            rcases HO2.out.rd.lt with e | ⟨b', o', cp', e, h2⟩
            · exact absurd (congrArg List.length e) (by rw [nvs_len, pL_len]; simp)
            · simp only [Value.slice.injEq, Option.some.injEq, Addr.mk.injEq, and_true] at e
              rw [e.1.1]; exact h2
          obtain ⟨s2, hs2⟩ : ∃ s2, s2 = wr.heap.size := ⟨_, rfl⟩
          rw [← hs2] at ho0 hbz hgz
          rw [← hs2]
          have HO0 := Lib.hid ho0
          have HO1 := Lib.hid ho1
          have HO2' := Lib.hid ho2
          clear ho0 ho1 ho2 hs2
          obtain ⟨g2, rfl⟩ : ∃ g2, g2 = gk := ⟨_, rfl⟩
          obtain ⟨w2, rfl⟩ : ∃ w2, w2 = wr := ⟨_, rfl⟩
          go_loopg [10] 128 (fun q iv wr => ∃ (i : Nat), i + q = 128 ∧ iv = .int .i64 (i : Nat) ∧ Own wr w.heap.size 3 (.slice (some ⟨w.heap.size, 0, none⟩) 255 255) (nvs (pL p)) ∧ Own wr w.heap.size 5 (.slice (some ⟨s2, 0, none⟩) 16 16) (bvs (oL p i)) ∧ Below w.heap.size w wr)
          case atStart => exact ⟨0, rfl, rfl, HO1.out, HO0.out, HO2'.out⟩
          case round =>
            obtain ⟨i, hi, rfl, hown1, hown2, hb⟩ := hrel
            have HI := Lib.hid hi
            have HW1 := Lib.hid hown1
            have HW2 := Lib.hid hown2
            have HW3 := Lib.hid hb
            clear hi hown1 hown2 hb
            by_cases hlt : i < 128
            · have hlt' : decide ((i : Int) < 128) = true := by rw [decide_eq_true_iff]; omega
              have q0 := HW1.out.at.1 i (.int .i64 (pv (p i) : Nat)) (by rw [nvs_getD (by rw [pL_len]; omega), pL_get _ (by omega)])
              cases hpi : p i with
              | false =>
                rw [hpi] at q0
                have q0' : wr.cell? ⟨w.heap.size, i, none⟩ = some (.int .i64 0) := q0
                have HPI := Lib.hid hpi
                clear hpi q0
                go_wp2_with fail
                go_roundg (gk - 1)
                case measure => have := HI.out; omega
                case rel =>
                  refine ⟨i + 1, by have := HI.out; omega, by go_num, HW1.out, ?_, HW3.out⟩
                  have e : (oL p i).set (i / 8) ((oL p i).getD (i / 8) 0 + 0) = oL p i := by
                    refine ext_getD (by simp) fun j hj => ?_
                    rw [set_getD]
                    split
                    · rename_i h; rw [← h.1]; rfl
                    · rfl
                  have e2 : oL p (i + 1) = oL p i := by rw [oL_step p hlt, HPI.out]; exact e
                  rw [e2]
                  exact HW2.out
              | true =>
                rw [hpi] at q0
                have q0' : wr.cell? ⟨w.heap.size, i, none⟩ = some (.int .i64 1) := q0
                have HPI := Lib.hid hpi
                clear hpi q0
                obtain ⟨r, hr⟩ : ∃ r, r = i % 8 := ⟨_, rfl⟩
                obtain ⟨q, hq⟩ : ∃ q, q = i / 8 := ⟨_, rfl⟩
                have e1 : (i : Int) / 8 = (q : Int) := by omega
                have e2 : (i : Int) % 8 = (r : Int) := by omega
                have hr8 : r < 8 := by omega
                have hq16 : q < 16 := by omega
                obtain ⟨x, hx⟩ : ∃ x, x = (oL p i).getD q 0 := ⟨_, rfl⟩
                have hxb : x + 2 ^ (7 - r) < 256 := by rw [hx, hq, hr]; exact oL_bound p hlt
                have c0 := HW2.out.at.1 q (.int .u8 (x : Nat)) (by rw [bvs_getD (by rw [oL_len]; exact hq16), hx])
                have c1 := HW2.out.at.2 q
                have HST := Lib.hid (show oL p (i + 1) = (oL p i).set q (x + 2 ^ (7 - r)) by rw [oL_step p hlt, HPI.out, if_pos rfl, hx, hq, hr])
                have HXB := Lib.hid hxb
                clear hr hq hx hxb
                go_wp2_with fail
                obtain ⟨g3, rfl⟩ : ∃ g3, g3 = gk := ⟨_, rfl⟩
                obtain ⟨w3, rfl⟩ : ∃ w3, w3 = wr := ⟨_, rfl⟩
                go_loopg [11, 12] 8 (fun q uv kv wr' => ∃ k u : Nat, k + q = 8 ∧ k ≤ 7 - r ∧ kv = .int .i64 (k : Nat) ∧ uv = .int .i64 (u : Nat) ∧ u = 2 ^ k ∧ u ≤ 128 ∧ wr' = w3)
                case atStart => exact ⟨0, 1, rfl, by omega, rfl, rfl, rfl, by omega, rfl⟩
                case round =>
                  obtain ⟨k, u, hk, hk2, rfl, rfl, hu, hu2, rfl⟩ := hrel
                  have HK := Lib.hid hk
                  have HU := Lib.hid hu
                  clear hk hu
                  by_cases hlt3 : k < 7 - r
                  · have hlt3' : decide ((k : Int) < 7 - (r : Int)) = true := by rw [decide_eq_true_iff]; omega
                    have hu3 : 2 * u ≤ 128 := by
                      rw [HU.out, Nat.mul_comm, ← Nat.pow_succ]
                      calc 2 ^ (k + 1) ≤ 2 ^ 7 := Nat.pow_le_pow_right (by omega) (by omega)
                        _ = 128 := rfl
                    go_wp2_with fail
                    go_roundg (gk - 1)
                    case measure => have := HK.out; omega
                    case rel => exact ⟨k + 1, 2 * u, by have := HK.out; omega, by omega, by go_num, by go_num, by rw [HU.out, Nat.pow_succ, Nat.mul_comm], hu3, rfl⟩
                  · have hlt3' : decide ((k : Int) < 7 - (r : Int)) = false := by rw [decide_eq_false_iff_not]; omega
                    have hu7 : u = 2 ^ (7 - r) := by rw [HU.out, show k = 7 - r by omega]
                    obtain ⟨xu, hxu⟩ : ∃ xu, xu = x + u := ⟨_, rfl⟩
                    have hxub : xu < 256 := by rw [hxu, hu7]; exact HXB.out
                    have hs : (x : Int) + (u : Int) = (xu : Int) := by omega
                    have w1 : IntKind.u8.wrap (u : Int) = (u : Int) := by rw [IntKind.wrap_u8]; omega
                    have w2 : IntKind.u8.wrap (xu : Int) = (xu : Int) := by rw [IntKind.wrap_u8]; omega
                    have HXU := Lib.hid (show x + 2 ^ (7 - r) = xu by rw [hxu, hu7])
                    clear hu7 hxu hlt3
                    go_wp2_with fail
                    go_roundg (g3 - 1)
                    case measure => have := HI.out; omega
                    case rel =>
                      refine ⟨i + 1, by have := HI.out; omega, by go_num, HW1.out.setOther (by simp only [Value.ownBlock, ne_eq, Option.some.injEq]; omega) _, ?_, HW3.out.setCell (p := ⟨s2, q, none⟩) hbz _⟩
                      rw [HST.out, HXU.out, bvs_set']
                      exact HW2.out.set q _
            · obtain rfl : i = 128 := by have := HI.out; omega
              clear hlt
              go_wp2_with fail
              go_ret
              refine ⟨_, rfl, ?_, HW3.out⟩
              have := HW2.out
              rw [oL_end, HPZ.out] at this
              exact this
end Go.Proofs.Ytfpjpakjlhidkaa
