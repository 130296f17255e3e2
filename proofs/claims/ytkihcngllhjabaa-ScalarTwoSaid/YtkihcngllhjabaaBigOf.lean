/- Walks: the references' Of, Order, Mod, Bytes, Same. -/
import Derived.Test.YtkihcngllhjabaaBigDiv
import Derived.Test.YtkihcngllhjabaaScOut
import Derived.Test.YtkihcngllhjabaaOnce
namespace Go.Proofs.Ytkihcngllhjabaa
open Go.RowKit BigM
set_option linter.unusedVariables false
theorem big_len_of {n k m : Nat} (h : n < 32768 ^ k) (hk : k < m) : (big n).length < m := Nat.lt_of_le_of_lt (big_len_le h) hk
theorem pow_256 (k : Nat) : 256 ^ k < 32768 ^ (k + 1) := by
  have h1 : 256 ^ k ≤ 32768 ^ k := Nat.pow_le_pow_left (by omega) k
  have h2 : 0 < 32768 ^ k := Nat.pow_pos (by omega)
  rw [Nat.pow_succ]; omega
theorem leV_big {K : List Nat} (h : ∀ n ∈ K, n < 256) (hl : K.length ≤ 1000) : (big (leV K)).length < 1002 :=
  big_len_of (k := K.length + 1) (Nat.lt_trans (leV_lt h) (pow_256 _)) (by omega)
theorem len_mul (A c : Nat) (hc : c < 32768) : (big (A * c)).length ≤ (big A).length + 1 := by
  apply big_len_le
  have h := big_lt A
  rw [Nat.pow_succ]
  have h1 : A * c ≤ A * 32768 := Nat.mul_le_mul_left _ (by omega)
  omega
theorem leV_drop {K : List Nat} {j : Nat} (h : j < K.length) : leV (K.drop j) = leV (K.drop (j + 1)) * 256 + K.getD j 0 := by
  rw [List.drop_eq_getElem_cons h, leV]
  have : K[j] = K.getD j 0 := by simp [List.getD_eq_getElem?_getD, List.getElem?_eq_getElem h]
  rw [this]; omega
set_option maxRecDepth 100000 in
set_option maxHeartbeats 4000000 in
theorem bof_any (v : Value) (K : List Nat) (w : World) (h : Rd w v (bvs K)) (hK : ∀ n ∈ K, n < 256) (hl : K.length ≤ 1000) :
    Calls Try.prog 12 #[v] w fun e w' => ∃ v2, e = .returned v2 ∧ Own w' w.heap.size 3 v2 (dvs (big (leV K))) ∧ Below w.heap.size w w' := by
  obtain ⟨k, hk⟩ : ∃ k, k = K.length := ⟨_, rfl⟩
  have hv : ∃ a c, v = .slice a k c := by obtain ⟨a, c, e, _⟩ := h; exact ⟨a, c, by rw [e, bvs_len, hk]⟩
  obtain ⟨a, c, rfl⟩ := hv
  have hk1 : k ≤ 1000 := by omega
  have C : ∀ (i : Nat) (wr : World), i < k → Below w.heap.size w wr → ∃ b off, a = some ⟨b, off, none⟩ ∧ b < wr.heap.size ∧ wr.cell? ⟨b, off + i, none⟩ = some (.int .u8 ((K.getD i 0 : Nat) : Int)) := by
    intro i wr hi hb
    obtain ⟨b, off, e1, e2, e3⟩ := (h.below hb (Nat.le_refl _)).get2 (bvs_getD (L := K) (i := i) (by omega))
    exact ⟨b, off, e1, e2, e3⟩
  have HC := Lib.hid C
  have HKB := Lib.hid hK
  have HKL := Lib.hid hk
  clear C h hK hk hl
  go_enter Try.func12, Try.ntmps12
  go_wp2_with fail
  go_loopg [3, 4] k (fun q ov iv wr => q ≤ k ∧ iv = .int .i64 ((q : Int) - 1) ∧ Own wr w.heap.size 3 ov (dvs (big (leV (K.drop q)))) ∧ Below w.heap.size w wr)
  case atStart =>
    refine ⟨Nat.le_refl _, rfl, ?_, Below.refl _ _⟩
    rw [HKL.out, List.drop_length]
    show Own _ _ _ _ (dvs (big 0))
    rw [big_zero]; exact Own.nil _ _ _
  case round =>
    obtain ⟨hq, rfl, hown, hb⟩ := hrel
    obtain ⟨s1, s2, s3, rfl⟩ := slOf hown
    have HO := Lib.hid hown
    have HB := Lib.hid hb
    clear hown hb
    by_cases h0 : gk = 0
    · subst h0
      go_wp2_with fail
      go_ret
      exact ⟨_, rfl, HO.out, HB.out⟩
    · obtain ⟨j, rfl⟩ : ∃ j, gk = j + 1 := ⟨gk - 1, by omega⟩
      have hj : j < k := by omega
      have ej : ((j + 1 : Nat) : Int) - 1 = (j : Int) := by omega
      rw [ej]
      obtain ⟨b, off, rfl, hbl, hcell⟩ := HC.out j wr hj HB.out
      have hx := getD_lt HKB.out (by omega) j
      have hA := leV_big (K := K.drop (j + 1)) (fun n hn => HKB.out n (List.mem_of_mem_drop hn)) (by rw [List.length_drop, ← HKL.out]; omega)
      have hstep := leV_drop (K := K) (j := j) (by rw [← HKL.out]; exact hj)
      obtain ⟨x, hxe⟩ : ∃ x, x = K.getD j 0 := ⟨_, rfl⟩
      obtain ⟨A, hAe⟩ : ∃ A, A = leV (K.drop (j + 1)) := ⟨_, rfl⟩
      rw [← hxe] at hcell hx hstep
      rw [← hAe] at HO hA hstep
      have hA3 : (big (A * 256)).length < 1000000 := by have := len_mul A 256 (by omega); omega
      have HST := Lib.hid hstep
      have HA3 := Lib.hid hA3
      have HA := Lib.hid hA
      clear hstep hxe hAe h0 ej hA3 hA
      go_wp2_with fail
      refine wp_region_once [fun v _ => v = .slice s1 s2 s3, fun v w' => Rd w' v (dvs (big (256))), fun v w' => Rd w' v (dvs (big (A * 256))), fun v _ => v = .slice (some ⟨b, off, none⟩) k c, fun v _ => v = .int .i64 (j : Nat), fun v _ => v = .pointer (some ⟨b, off + j, none⟩), fun v _ => v = .int .u8 (x : Nat), fun v _ => v = .int .u64 (x : Nat), fun v w' => Rd w' v (dvs (big (x))), fun v w' => Own w' wr.heap.size 3 v (dvs (big (A * 256 + x))), fun v w' => Own w' wr.heap.size 3 v (dvs (big (A * 256 + x)))]
        (by kernel_rfl) ?_ (by kernel_rfl) (by kernel_rfl) ?_ ?_
      · exact keeps_cons (fun _ _ _ h _ => h) (keeps_cons (fun v w1 w2 h hb => Rd.below h hb (Nat.le_refl _)) (keeps_cons (fun v w1 w2 h hb => Rd.below h hb (Nat.le_refl _)) (keeps_cons (fun _ _ _ h _ => h) (keeps_cons (fun _ _ _ h _ => h) (keeps_cons (fun _ _ _ h _ => h) (keeps_cons (fun _ _ _ h _ => h) (keeps_cons (fun _ _ _ h _ => h) (keeps_cons (fun v w1 w2 h hb => Rd.below h hb (Nat.le_refl _)) (keeps_cons (fun v w1 w2 h hb => Own.below h hb (Nat.le_refl _)) (keeps_cons (fun v w1 w2 h hb => Own.below h hb (Nat.le_refl _)) (keeps_nil)))))))))))
      · refine .cons (owed_go rfl ?_) (.cons (owed_go rfl ?_) (.cons (owed_go rfl ?_) (.cons (owed_go rfl ?_) (.cons (owed_go rfl ?_) (.cons (owed_go rfl ?_) (.cons (owed_go rfl ?_) (.cons (owed_go rfl ?_) (.cons (owed_go rfl ?_) (.cons (owed_go rfl ?_) (.cons (owed_go rfl ?_) (.nil)))))))))))
        · intro a wx hbx ho hf K hK
          have e0 : a.tmps[3]?.getD undef = .slice s1 s2 s3 := ho 3 (by kernel_rfl)
          go_simp
          exact hK _ _ rfl (Below.refl _ _)
        · intro a wx hbx ho hf K hK
          skip
          go_simp
          refine (bnum_any (256) wx (by decide)).mono ?_
          rintro e w2 ⟨v2, rfl, hown, hb2⟩
          exact hK _ _ hown.rd hb2
        · intro a wx hbx ho hf K hK
          have e0 : a.tmps[12]?.getD undef = .slice s1 s2 s3 := hf.1
          have o1 : Rd wx (a.tmps[13]?.getD undef) (dvs (big (256))) := hf.2.1
          obtain ⟨v1, hv1⟩ : ∃ v, v = a.tmps[13]?.getD undef := ⟨_, rfl⟩
          rw [← hv1] at o1
          have e1 := hv1.symm
          clear hv1
          go_simp
          refine (bmul_any _ v1 A 256 wx (HO.out.rd.below hbx (Nat.le_refl _)) o1 (by have := HA.out; omega) (big_len_of (k := 2) (by decide) (by omega))).mono ?_
          rintro e w2 ⟨v2, rfl, hown, hb2⟩
          exact hK _ _ hown.rd hb2
        · intro a wx hbx ho hf K hK
          have e0 : a.tmps[0]?.getD undef = .slice (some ⟨b, off, none⟩) k c := ho 0 (by kernel_rfl)
          go_simp
          exact hK _ _ rfl (Below.refl _ _)
        · intro a wx hbx ho hf K hK
          have e0 : a.tmps[4]?.getD undef = .int .i64 (j : Nat) := ho 4 (by kernel_rfl)
          go_simp
          exact hK _ _ rfl (Below.refl _ _)
        · intro a wx hbx ho hf K hK
          have e0 : a.tmps[15]?.getD undef = .slice (some ⟨b, off, none⟩) k c := hf.1
          have e1 : a.tmps[16]?.getD undef = .int .i64 (j : Nat) := hf.2.1
          go_simp
          exact hK _ _ rfl (Below.refl _ _)
        · intro a wx hbx ho hf K hK
          have e0 : a.tmps[17]?.getD undef = .pointer (some ⟨b, off + j, none⟩) := hf.1
          have c0 := (hbx.cell (p := ⟨b, off + j, none⟩) hbl).trans hcell
          go_simp
          exact hK _ _ rfl (Below.refl _ _)
        · intro a wx hbx ho hf K hK
          have e0 : a.tmps[18]?.getD undef = .int .u8 (x : Nat) := hf.1
          go_simp
          refine hK _ _ ?_ (Below.refl _ _)
          show Value.int .u64 _ = .int .u64 _
          rw [IntKind.wrap_u64]
          exact val_int (by omega)
        · intro a wx hbx ho hf K hK
          have e0 : a.tmps[19]?.getD undef = .int .u64 (x : Nat) := hf.1
          go_simp
          refine (bnum_any (x) wx (by omega)).mono ?_
          rintro e w2 ⟨v2, rfl, hown, hb2⟩
          exact hK _ _ hown.rd hb2
        · intro a wx hbx ho hf K hK
          have o1 : Rd wx (a.tmps[14]?.getD undef) (dvs (big (A * 256))) := hf.1
          obtain ⟨v1, hv1⟩ : ∃ v, v = a.tmps[14]?.getD undef := ⟨_, rfl⟩
          rw [← hv1] at o1
          have e1 := hv1.symm
          clear hv1
          have o2 : Rd wx (a.tmps[20]?.getD undef) (dvs (big (x))) := hf.2.1
          obtain ⟨v2, hv2⟩ : ∃ v, v = a.tmps[20]?.getD undef := ⟨_, rfl⟩
          rw [← hv2] at o2
          have e2 := hv2.symm
          clear hv2
          go_simp
          refine (badd_any v1 v2 (A * 256) x wx o1 o2 HA3.out (big_len_of (k := 2) (by omega) (by omega))).mono ?_
          rintro e w2 ⟨v9, rfl, hown, hb2⟩
          exact hK _ _ (hown.mono hbx.size) hb2
        · intro a wx hbx ho hf K hK
          have o0 : Own wx wr.heap.size 3 (a.tmps[21]?.getD undef) (dvs (big (A * 256 + x))) := hf.1
          obtain ⟨v0, hv0⟩ : ∃ v, v = a.tmps[21]?.getD undef := ⟨_, rfl⟩
          rw [← hv0] at o0
          have e0 := hv0.symm
          clear hv0
          go_simp
          exact hK _ _ o0 (Below.refl _ _)
      · rintro f w9 hb9 ⟨-, -, -, -, -, -, -, -, -, -, f10, -⟩
        have h10 : Own w9 wr.heap.size 3 (f 3) (dvs (big (A * 256 + x))) := f10
        have H10 := Lib.hid (h10.mono HB.out.size)
        have HB9 := Lib.hid (HB.out.trans (hb9.mono HB.out.size))
        clear f10 hb9 h10
        simp only [frameOf, dstsOf, zipF, List.filterMap_cons, List.filterMap_nil, List.contains_cons, List.contains_nil, Nat.reduceBEq, Nat.reduceAdd, Bool.or_false, Bool.or_true, cond_true, cond_false]
        go_wp2_with fail
        go_roundg j
        case measure => omega
        case rel =>
          refine ⟨by omega, rfl, ?_, HB9.out⟩
          rw [HST.out]
          exact H10.out
def KO : Nat := 27742317777372353535851937790883648493
def SO : ByteArray := { data := #[50, 55, 55, 52, 50, 51, 49, 55, 55, 55, 55, 51, 55, 50, 51, 53, 51, 53, 51, 53, 56, 53, 49, 57, 51, 55, 55, 57, 48, 56, 56, 51, 54, 52, 56, 52, 57, 51] }
theorem so_index (j : Nat) (hj : j < 38) (w : World) : (Instr.index 9 (.string SO) (.int .i64 (j : Nat))).run Try.prog w = .ok (.int .u8 ((KO / 10 ^ (37 - j) % 10 + 48 : Nat) : Int)) w := by
  have : ∀ j, j < 38 → ∀ w, (Instr.index 9 (.string SO) (.int .i64 (j : Nat))).run Try.prog w = .ok (.int .u8 ((KO / 10 ^ (37 - j) % 10 + 48 : Nat) : Int)) w := by
    intro j hj
    rcases j with _ | j
    · intro w; kernel_rfl
    rcases j with _ | j
    · intro w; kernel_rfl
    rcases j with _ | j
    · intro w; kernel_rfl
    rcases j with _ | j
    · intro w; kernel_rfl
    rcases j with _ | j
    · intro w; kernel_rfl
    rcases j with _ | j
    · intro w; kernel_rfl
    rcases j with _ | j
    · intro w; kernel_rfl
    rcases j with _ | j
    · intro w; kernel_rfl
    rcases j with _ | j
    · intro w; kernel_rfl
    rcases j with _ | j
    · intro w; kernel_rfl
    rcases j with _ | j
    · intro w; kernel_rfl
    rcases j with _ | j
    · intro w; kernel_rfl
    rcases j with _ | j
    · intro w; kernel_rfl
    rcases j with _ | j
    · intro w; kernel_rfl
    rcases j with _ | j
    · intro w; kernel_rfl
    rcases j with _ | j
    · intro w; kernel_rfl
    rcases j with _ | j
    · intro w; kernel_rfl
    rcases j with _ | j
    · intro w; kernel_rfl
    rcases j with _ | j
    · intro w; kernel_rfl
    rcases j with _ | j
    · intro w; kernel_rfl
    rcases j with _ | j
    · intro w; kernel_rfl
    rcases j with _ | j
    · intro w; kernel_rfl
    rcases j with _ | j
    · intro w; kernel_rfl
    rcases j with _ | j
    · intro w; kernel_rfl
    rcases j with _ | j
    · intro w; kernel_rfl
    rcases j with _ | j
    · intro w; kernel_rfl
    rcases j with _ | j
    · intro w; kernel_rfl
    rcases j with _ | j
    · intro w; kernel_rfl
    rcases j with _ | j
    · intro w; kernel_rfl
    rcases j with _ | j
    · intro w; kernel_rfl
    rcases j with _ | j
    · intro w; kernel_rfl
    rcases j with _ | j
    · intro w; kernel_rfl
    rcases j with _ | j
    · intro w; kernel_rfl
    rcases j with _ | j
    · intro w; kernel_rfl
    rcases j with _ | j
    · intro w; kernel_rfl
    rcases j with _ | j
    · intro w; kernel_rfl
    rcases j with _ | j
    · intro w; kernel_rfl
    rcases j with _ | j
    · intro w; kernel_rfl
    omega
  exact this j hj w
theorem ko_step (j : Nat) : KO / 10 ^ j = KO / 10 ^ (j + 1) * 10 + KO / 10 ^ j % 10 := by
  rw [Nat.pow_succ, ← Nat.div_div_eq_div_mul]; omega
set_option maxRecDepth 100000 in
set_option maxHeartbeats 4000000 in
theorem border_any (w : World) :
    Calls Try.prog 14 #[] w fun e w' => ∃ v2, e = .returned v2 ∧ Own w' w.heap.size 3 v2 (dvs (big ScM.L)) ∧ Below w.heap.size w w' := by
  have hS : SO = { data := #[50, 55, 55, 52, 50, 51, 49, 55, 55, 55, 55, 51, 55, 50, 51, 53, 51, 53, 51, 53, 56, 53, 49, 57, 51, 55, 55, 57, 48, 56, 56, 51, 54, 52, 56, 52, 57, 51] } := rfl
  go_enter Try.func14, Try.ntmps14
  go_wp2_with fail
  rw [← hS]
  clear hS
  have hlen : ((SO.size : Nat) : Int) = 38 := by decide
  go_loopg [1, 3] 38 (fun q ov iv wr => ∃ j : Nat, j + q = 38 ∧ iv = .int .i64 (j : Nat) ∧ Own wr w.heap.size 3 ov (dvs (big (KO / 10 ^ q))) ∧ Below w.heap.size w wr)
  case atStart =>
    refine ⟨0, rfl, rfl, ?_, Below.refl _ _⟩
    have : KO / 10 ^ 38 = 0 := by decide
    rw [this, big_zero]; exact Own.nil _ _ _
  case round =>
    obtain ⟨j, hj, rfl, hown, hb⟩ := hrel
    obtain ⟨s1, s2, s3, rfl⟩ := slOf hown
    have HO := Lib.hid hown
    have HB := Lib.hid hb
    clear hown hb
    by_cases h0 : gk = 0
    · subst h0
      obtain rfl : j = 38 := by omega
      rw [Nat.pow_zero, Nat.div_one] at HO
      have HP := Lib.hid (bpow_any 252 wr (by decide))
      go_wp2_with fail
      refine (HP.out).mono ?_
      rintro e w1 ⟨v1, rfl, hown, hb⟩
      have A := badd_any v1 (.slice s1 s2 s3) (2 ^ 252) KO w1 hown.rd (HO.out.rd.below hb (Nat.le_refl _)) (big_len_of (k := 18) (by decide) (by omega)) (big_len_of (k := 9) (by decide) (by omega))
      have eL : 2 ^ 252 + KO = ScM.L := by decide
      rw [eL] at A
      have HA := Lib.hid A
      have HB1 := Lib.hid (HB.out.trans (hb.mono HB.out.size))
      clear hown hb A eL
      go_wp2_with fail
      refine (HA.out).mono ?_
      rintro e w2 ⟨v2, rfl, hown, hb⟩
      have HO2 := Lib.hid (hown.mono HB1.out.size)
      have HB2 := Lib.hid (HB1.out.trans (hb.mono HB1.out.size))
      clear hown hb
      obtain ⟨t1, t2, t3, rfl⟩ := slOf HO2.out
      go_wp2_with fail
      go_ret
      exact ⟨_, rfl, HO2.out, HB2.out⟩
    · obtain ⟨q, rfl⟩ : ∃ q, gk = q + 1 := ⟨gk - 1, by omega⟩
      have hj38 : j < 38 := by omega
      have hjq : 37 - j = q := by omega
      have I := fun w => so_index j hj38 w
      rw [hjq] at I
      have hstep := ko_step q
      have hd : KO / 10 ^ q % 10 < 10 := Nat.mod_lt _ (by omega)
      have hA1 : KO / 10 ^ (q + 1) ≤ KO := Nat.div_le_self _ _
      obtain ⟨A, hAe⟩ : ∃ A, A = KO / 10 ^ (q + 1) := ⟨_, rfl⟩
      obtain ⟨d, hde⟩ : ∃ d, d = KO / 10 ^ q % 10 := ⟨_, rfl⟩
      rw [← hAe] at HO hstep hA1
      rw [← hde] at I hstep hd
      have hA2 : A < 32768 ^ 9 := Nat.lt_of_le_of_lt hA1 (by decide)
      have hA3 : (big (A * 10)).length < 1000000 := big_len_of (k := 10) (by rw [Nat.pow_succ]; omega) (by omega)
      have hA4 : (big A).length < 1000000 := big_len_of hA2 (by omega)
      have HST := Lib.hid hstep
      have HA3 := Lib.hid hA3
      have HA := Lib.hid hA4
      have HJ := Lib.hid hj
      clear hstep hA1 hA2 hA3 hA4 hde hAe h0 hjq
      go_wp2_with fail
      refine wp_region_once [fun v _ => v = .slice s1 s2 s3, fun v w' => Rd w' v (dvs (big (10))), fun v w' => Rd w' v (dvs (big (A * 10))), fun v _ => v = .string SO, fun v _ => v = .int .i64 (j : Nat), fun v _ => v = .int .u8 ((d + 48 : Nat) : Int), fun v _ => v = .int .u64 ((d + 48 : Nat) : Int), fun v _ => v = .int .u64 (d : Nat), fun v w' => Rd w' v (dvs (big (d))), fun v w' => Own w' wr.heap.size 3 v (dvs (big (A * 10 + d))), fun v w' => Own w' wr.heap.size 3 v (dvs (big (A * 10 + d)))]
        (by kernel_rfl) ?_ (by kernel_rfl) (by kernel_rfl) ?_ ?_
      · exact keeps_cons (fun _ _ _ h _ => h) (keeps_cons (fun v w1 w2 h hb => Rd.below h hb (Nat.le_refl _)) (keeps_cons (fun v w1 w2 h hb => Rd.below h hb (Nat.le_refl _)) (keeps_cons (fun _ _ _ h _ => h) (keeps_cons (fun _ _ _ h _ => h) (keeps_cons (fun _ _ _ h _ => h) (keeps_cons (fun _ _ _ h _ => h) (keeps_cons (fun _ _ _ h _ => h) (keeps_cons (fun v w1 w2 h hb => Rd.below h hb (Nat.le_refl _)) (keeps_cons (fun v w1 w2 h hb => Own.below h hb (Nat.le_refl _)) (keeps_cons (fun v w1 w2 h hb => Own.below h hb (Nat.le_refl _)) (keeps_nil)))))))))))
      · refine .cons (owed_go rfl ?_) (.cons (owed_go rfl ?_) (.cons (owed_go rfl ?_) (.cons (owed_go rfl ?_) (.cons (owed_go rfl ?_) (.cons (owed_go rfl ?_) (.cons (owed_go rfl ?_) (.cons (owed_go rfl ?_) (.cons (owed_go rfl ?_) (.cons (owed_go rfl ?_) (.cons (owed_go rfl ?_) (.nil)))))))))))
        · intro a wx hbx ho hf K hK
          have e0 : a.tmps[1]?.getD undef = .slice s1 s2 s3 := ho 1 (by kernel_rfl)
          go_simp
          exact hK _ _ rfl (Below.refl _ _)
        · intro a wx hbx ho hf K hK
          skip
          go_simp
          refine (bnum_any (10) wx (by decide)).mono ?_
          rintro e w2 ⟨v2, rfl, hown, hb2⟩
          exact hK _ _ hown.rd hb2
        · intro a wx hbx ho hf K hK
          have e0 : a.tmps[10]?.getD undef = .slice s1 s2 s3 := hf.1
          have o1 : Rd wx (a.tmps[11]?.getD undef) (dvs (big (10))) := hf.2.1
          obtain ⟨v1, hv1⟩ : ∃ v, v = a.tmps[11]?.getD undef := ⟨_, rfl⟩
          rw [← hv1] at o1
          have e1 := hv1.symm
          clear hv1
          go_simp
          refine (bmul_any _ v1 A 10 wx (HO.out.rd.below hbx (Nat.le_refl _)) o1 (by have := HA.out; omega) (big_len_of (k := 2) (by decide) (by omega))).mono ?_
          rintro e w2 ⟨v2, rfl, hown, hb2⟩
          exact hK _ _ hown.rd hb2
        · intro a wx hbx ho hf K hK
          have e0 : a.tmps[2]?.getD undef = .string SO := ho 2 (by kernel_rfl)
          go_simp
          exact hK _ _ rfl (Below.refl _ _)
        · intro a wx hbx ho hf K hK
          have e0 : a.tmps[3]?.getD undef = .int .i64 (j : Nat) := ho 3 (by kernel_rfl)
          go_simp
          exact hK _ _ rfl (Below.refl _ _)
        · intro a wx hbx ho hf K hK
          have e0 : a.tmps[13]?.getD undef = .string SO := hf.1
          have e1 : a.tmps[14]?.getD undef = .int .i64 (j : Nat) := hf.2.1
          go_simp
          exact hK _ _ rfl (Below.refl _ _)
        · intro a wx hbx ho hf K hK
          have e0 : a.tmps[15]?.getD undef = .int .u8 ((d + 48 : Nat) : Int) := hf.1
          go_simp
          refine hK _ _ ?_ (Below.refl _ _)
          show Value.int .u64 _ = .int .u64 _
          rw [IntKind.wrap_u64]
          exact val_int (by omega)
        · intro a wx hbx ho hf K hK
          have e0 : a.tmps[16]?.getD undef = .int .u64 ((d + 48 : Nat) : Int) := hf.1
          go_simp
          refine hK _ _ ?_ (Below.refl _ _)
          show Value.int .u64 _ = .int .u64 _
          rw [IntKind.wrap_u64]
          exact val_int (by omega)
        · intro a wx hbx ho hf K hK
          have e0 : a.tmps[17]?.getD undef = .int .u64 (d : Nat) := hf.1
          go_simp
          refine (bnum_any (d) wx (by omega)).mono ?_
          rintro e w2 ⟨v2, rfl, hown, hb2⟩
          exact hK _ _ hown.rd hb2
        · intro a wx hbx ho hf K hK
          have o1 : Rd wx (a.tmps[12]?.getD undef) (dvs (big (A * 10))) := hf.1
          obtain ⟨v1, hv1⟩ : ∃ v, v = a.tmps[12]?.getD undef := ⟨_, rfl⟩
          rw [← hv1] at o1
          have e1 := hv1.symm
          clear hv1
          have o2 : Rd wx (a.tmps[18]?.getD undef) (dvs (big (d))) := hf.2.1
          obtain ⟨v2, hv2⟩ : ∃ v, v = a.tmps[18]?.getD undef := ⟨_, rfl⟩
          rw [← hv2] at o2
          have e2 := hv2.symm
          clear hv2
          go_simp
          refine (badd_any v1 v2 (A * 10) d wx o1 o2 HA3.out (big_len_of (k := 2) (by omega) (by omega))).mono ?_
          rintro e w2 ⟨v9, rfl, hown, hb2⟩
          exact hK _ _ (hown.mono hbx.size) hb2
        · intro a wx hbx ho hf K hK
          have o0 : Own wx wr.heap.size 3 (a.tmps[19]?.getD undef) (dvs (big (A * 10 + d))) := hf.1
          obtain ⟨v0, hv0⟩ : ∃ v, v = a.tmps[19]?.getD undef := ⟨_, rfl⟩
          rw [← hv0] at o0
          have e0 := hv0.symm
          clear hv0
          go_simp
          exact hK _ _ o0 (Below.refl _ _)
      · rintro f w9 hb9 ⟨-, -, -, -, -, -, -, -, -, -, f10, -⟩
        have h10 : Own w9 wr.heap.size 3 (f 1) (dvs (big (A * 10 + d))) := f10
        have H10 := Lib.hid (h10.mono HB.out.size)
        have HB9 := Lib.hid (HB.out.trans (hb9.mono HB.out.size))
        clear f10 hb9 h10
        simp only [frameOf, dstsOf, zipF, List.filterMap_cons, List.filterMap_nil, List.contains_cons, List.contains_nil, Nat.reduceBEq, Nat.reduceAdd, Bool.or_false, Bool.or_true, cond_true, cond_false]
        go_wp2_with fail
        go_roundg q
        case measure => omega
        case rel =>
          refine ⟨j + 1, by have := HJ.out; omega, by go_num, ?_, HB9.out⟩
          rw [HST.out]
          exact H10.out
set_option maxRecDepth 100000 in
set_option maxHeartbeats 4000000 in
theorem bmod_any (v : Value) (A : Nat) (w : World) (h : Rd w v (dvs (big A))) (hA : (big A).length < 100000) :
    Calls Try.prog 27 #[v] w fun e w' => ∃ v2, e = .returned v2 ∧ Own w' w.heap.size 3 v2 (dvs (big (A % ScM.L))) ∧ Below w.heap.size w w' := by
  have hv : ∃ a b c, v = .slice a b c := by obtain ⟨a, c, e, _⟩ := h; exact ⟨a, _, c, e⟩
  obtain ⟨a, b, c, rfl⟩ := hv
  have HO := Lib.hid (border_any w)
  have HR := Lib.hid h
  clear h
  go_enter Try.func27, Try.ntmps27
  go_wp2_with fail
  refine (HO.out).mono ?_
  rintro e w1 ⟨v1, rfl, hown, hb⟩
  have D := bdiv_any (.slice a b c) v1 A ScM.L w1 (HR.out.below hb (Nat.le_refl _)) hown.rd hA (big_len_of (k := 18) (by decide) (by omega)) (by decide)
  have HD := Lib.hid D
  have HB := Lib.hid hb
  clear D hown hb
  go_wp2_with fail
  refine (HD.out).mono ?_
  rintro e w2 ⟨q, r, rfl, hq, hr, hb⟩
  obtain ⟨t1, t2, t3, rfl⟩ := slOf hq
  obtain ⟨r1, r2, r3, rfl⟩ := slOf hr
  have HQ := Lib.hid (hr.mono HB.out.size)
  have HB2 := Lib.hid (HB.out.trans (hb.mono HB.out.size))
  clear hq hr hb
  go_wp2_with fail
  go_ret
  exact ⟨_, rfl, HQ.out, HB2.out⟩
theorem bvs_tk (L : List Nat) (n : Nat) : bvs (L.take n) = (bvs L).take n := by simp [bvs, List.map_take]
set_option maxRecDepth 100000 in
set_option maxHeartbeats 4000000 in
theorem rof_any (v : Value) (K : List Nat) (w : World) (h : Rd w v (bvs K)) (hK : ∀ n ∈ K, n < 256) :
    Calls Try.prog 22 #[v] w fun e w' => ∃ v2, e = .returned v2 ∧ Own w' w.heap.size 3 v2 (dvs (big (leV (K.take 64) % ScM.L))) ∧ Below w.heap.size w w' := by
  obtain ⟨n, hn⟩ : ∃ n, n = K.length := ⟨_, rfl⟩
  have hv : ∃ a c, v = .slice a n c ∧ n ≤ c ∧ c ≤ maxLen := by
    obtain ⟨a, c, e, h1, h2, _⟩ := h
    exact ⟨a, c, by rw [e, bvs_len, hn], by rw [bvs_len] at h1; omega, h2⟩
  obtain ⟨a, cap, rfl, hnc, hcm⟩ := hv
  have hcm' : cap ≤ 9223372036854775807 := by unfold maxLen at hcm; omega
  have hb64 : ∀ x ∈ K.take 64, x < 256 := fun x hx => hK x (List.mem_of_mem_take hx)
  have hlen : (big (leV (K.take 64))).length < 100000 := by
    have := leV_big hb64 (by rw [List.length_take]; omega)
    omega
  obtain ⟨m, hm⟩ : ∃ m, m = min n 64 := ⟨_, rfl⟩
  have hR : Rd w (.slice a m cap) (bvs (K.take 64)) := by
    have := h.front' (k := m) (by omega)
    have e : (bvs K).take m = bvs (K.take 64) := by
      rw [bvs_tk]
      by_cases h64 : n ≤ 64
      · rw [List.take_of_length_le (by simp; omega), List.take_of_length_le (by simp; omega)]
      · rw [show m = 64 by omega]
    rw [e] at this
    exact this
  have HO := Lib.hid (bof_any (.slice a m cap) (K.take 64) w hR hb64 (by rw [List.length_take]; omega))
  have HLEN := Lib.hid hlen
  clear hR hb64 hlen h hK hn hcm
  by_cases h64 : 64 < n
  · obtain rfl : m = 64 := by omega
    have h64' : decide ((64 : Int) < (n : Int)) = true := by rw [decide_eq_true_iff]; omega
    clear hm
    go_enter Try.func22, Try.ntmps22
    go_wp2_with fail
    refine (HO.out).mono ?_
    rintro e w1 ⟨v1, rfl, hown, hb⟩
    have HM := Lib.hid (bmod_any v1 _ w1 hown.rd HLEN.out)
    have HB := Lib.hid hb
    clear hown hb
    go_wp2_with fail
    refine (HM.out).mono ?_
    rintro e w2 ⟨v2, rfl, hown, hb⟩
    obtain ⟨t1, t2, t3, rfl⟩ := slOf hown
    have HQ := Lib.hid (hown.mono HB.out.size)
    have HB2 := Lib.hid (HB.out.trans (hb.mono HB.out.size))
    clear hown hb
    go_wp2_with fail
    go_ret
    exact ⟨_, rfl, HQ.out, HB2.out⟩
  · obtain rfl : m = n := by omega
    have h64' : decide ((64 : Int) < (m : Int)) = false := by rw [decide_eq_false_iff_not]; omega
    clear hm
    go_enter Try.func22, Try.ntmps22
    go_wp2_with fail
    refine (HO.out).mono ?_
    rintro e w1 ⟨v1, rfl, hown, hb⟩
    have HM := Lib.hid (bmod_any v1 _ w1 hown.rd HLEN.out)
    have HB := Lib.hid hb
    clear hown hb
    go_wp2_with fail
    refine (HM.out).mono ?_
    rintro e w2 ⟨v2, rfl, hown, hb⟩
    obtain ⟨t1, t2, t3, rfl⟩ := slOf hown
    have HQ := Lib.hid (hown.mono HB.out.size)
    have HB2 := Lib.hid (HB.out.trans (hb.mono HB.out.size))
    clear hown hb
    go_wp2_with fail
    go_ret
    exact ⟨_, rfl, HQ.out, HB2.out⟩
theorem leN_snoc (n x : Nat) : leN (n + 1) x = leN n x ++ [x / 256 ^ n % 256] := by
  induction n generalizing x with
  | zero => simp [leN]
  | succ n ih => rw [leN, ih, leN, Nat.div_div_eq_div_mul, Nat.pow_succ, Nat.mul_comm 256]; rfl
theorem bytesE8 : Elem Try.prog 22 5 (.int .u8 0) 1 := ⟨Try.underlying22, by kernel_rfl, rfl, by omega⟩
set_option maxRecDepth 100000 in
set_option maxHeartbeats 4000000 in
theorem bbytes_any (v : Value) (A n : Nat) (w : World) (h : Rd w v (dvs (big A))) (hA : (big A).length < 100000) (hn : n ≤ 1000) :
    Calls Try.prog 69 #[v, .int .i64 (n : Nat)] w fun e w' => ∃ v2, e = .returned v2 ∧ Own w' w.heap.size 5 v2 (bvs (leN n A)) ∧ Below w.heap.size w w' := by
  have hv : ∃ a b c, v = .slice a b c := by obtain ⟨a, c, e, _⟩ := h; exact ⟨a, _, c, e⟩
  obtain ⟨a, b, c, rfl⟩ := hv
  have HN := Lib.hid (fun (w : World) => bnum_any 256 w (by decide))
  have HDV := Lib.hid (fun (v v' : Value) (X : Nat) (w : World) (h : Rd w v (dvs (big X))) (h' : Rd w v' (dvs (big 256))) (hX : (big X).length < 100000) => bdiv_any v v' X 256 w h h' hX (big_len_of (k := 2) (by decide) (by omega)) (by decide))
  have HLW := Lib.hid (fun (v : Value) (X : Nat) (w : World) (h : Rd w v (dvs (big X))) => blow_any v X w h)
  have HR := Lib.hid h
  have HLA := Lib.hid hA
  clear h hA
  go_enter Try.func69, Try.ntmps69
  go_wp2_with fail
  go_loopg [0, 5, 6] n (fun q av ov iv wr => ∃ i : Nat, i + q = n ∧ iv = .int .i64 (i : Nat) ∧ (∃ s1 s2 s3, av = .slice s1 s2 s3) ∧ Rd wr av (dvs (big (A / 256 ^ i))) ∧ Own wr w.heap.size 5 ov (bvs (leN i A)) ∧ Below w.heap.size w wr)
  case atStart => exact ⟨0, by omega, rfl, ⟨_, _, _, rfl⟩, by simpa using HR.out, Own.nil _ _ _, Below.refl _ _⟩
  case round =>
    obtain ⟨i, hi, rfl, ⟨s1, s2, s3, rfl⟩, hr, hown, hb⟩ := hrel
    have HI := Lib.hid hi
    have HRR := Lib.hid hr
    have HO := Lib.hid hown
    have HB := Lib.hid hb
    clear hr hown hb
    by_cases hin : i < n
    · have hin' : decide ((i : Int) < (n : Int)) = true := by rw [decide_eq_true_iff]; omega
      have hlx : (big (A / 256 ^ i)).length < 100000 := by
        have h1 := big_lt A
        have h2 : A / 256 ^ i ≤ A := Nat.div_le_self _ _
        have := big_len_le (n := A / 256 ^ i) (k := (big A).length) (by omega)
        have := HLA.out
        omega
      obtain ⟨X, hX⟩ : ∃ X, X = A / 256 ^ i := ⟨_, rfl⟩
      rw [← hX] at HRR hlx
      have HX := Lib.hid hX
      have HLX := Lib.hid hlx
      clear hX hlx hi
      go_wp2_with fail
      refine (HN.out _).mono ?_
      rintro e w1 ⟨v1, rfl, hown1, hb1⟩
      have HD := Lib.hid (HDV.out (.slice s1 s2 s3) v1 X w1 (HRR.out.below hb1 (Nat.le_refl _)) hown1.rd HLX.out)
      have HB1 := Lib.hid hb1
      clear hown1 hb1
      go_wp2_with fail
      refine (HD.out).mono ?_
      rintro e w2 ⟨q, r, rfl, hq, hr, hb2⟩
      obtain ⟨t1, t2, t3, rfl⟩ := slOf hq
      obtain ⟨r1, r2, r3, rfl⟩ := slOf hr
      have HQ := Lib.hid hq
      have HL := Lib.hid (HLW.out (.slice r1 r2 r3) (X % 256) w2 hr.rd)
      have HB2 := Lib.hid (Below.next' HB1.out hb2)
      clear hq hr hb2
      go_wp2_with fail
      refine (HL.out).mono ?_
      rintro e w' ⟨rfl, rfl⟩
      have hm : X % 256 % 18446744073709551616 = X % 256 := by omega
      obtain ⟨d, hd⟩ : ∃ d, d = X % 256 := ⟨_, rfl⟩
      rw [hm, ← hd]
      have hd256 : d < 256 := by omega
      have hsz : w.heap.size ≤ w'.heap.size := Nat.le_trans HB.out.size HB2.out.size
      have HD := Lib.hid hd
      clear hm hd
      go_wp2_with (at_builtin; refine wpList_app rfl (.tmp 20) (.tmp 24) 22 rfl w.heap.size 5 _ 1 bytesE8 _ (bvs (leN i A)) rfl ((HO.out.below HB2.out (Nat.le_refl _)).alloc _) _ [.int .u8 (d : Nat)] rfl ?c1 ?c0 ?c2 ?c3 ?_)
      case c1 => exact (Own.full (B := w'.heap.size) (cs := #[.int .u8 (d : Nat)]) rfl (Nat.le_refl _) (by unfold maxLen; simp) rfl).rd
      case c0 => intro u hu; simp at hu; subst hu; rfl
      case c2 => rw [bvs_len, leN_len]; simp; omega
      case c3 => simp; omega
      rintro v' w3 hown3 hg3 hb3
      have HO3 := Lib.hid hown3
      have hq3 := World.ownsRow.kept (HQ.out.alloc (.cells #[.int .u8 (d : Nat)] 5)) hg3 (Own.apart HQ.out (HO.out.below HB2.out (Nat.le_refl _)) (by decide))
      have HAL := (Below.refl w.heap.size w').alloc hsz (.cells #[.int .u8 (d : Nat)] 5)
      have HB3 := Lib.hid ((HB.out.trans (HB2.out.mono HB.out.size)).trans (HAL.trans hb3))
      have HQ3 : Hid (Rd w3 (.slice t1 t2 t3) (dvs (big (X / 256)))) := Lib.hid (Own.rd hq3)
      clear hown3 hb3 HAL hg3 hq3
      go_wp2_with fail
      go_roundg (gk - 1)
      case measure => have := HI.out; omega
      case rel =>
        refine ⟨i + 1, by have := HI.out; omega, by go_num, ⟨_, _, _, rfl⟩, ?_, ?_, HB3.out⟩
        · have e : A / 256 ^ (i + 1) = X / 256 := by rw [HX.out, Nat.pow_succ, Nat.div_div_eq_div_mul]
          rw [e]
          exact HQ3.out
        · rw [leN_snoc, bvs_append, ← HX.out, ← HD.out]
          exact HO3.out
    · obtain rfl : i = n := by omega
      have hin' : decide ((i : Int) < (i : Int)) = false := by rw [decide_eq_false_iff_not]; omega
      clear hi
      go_wp2_with fail
      go_ret
      exact ⟨_, rfl, HO.out, HB.out⟩
set_option maxRecDepth 100000 in
set_option maxHeartbeats 4000000 in
theorem bsame_any (v v' : Value) (A B : Nat) (w : World) (h : Rd w v (dvs (big A))) (h' : Rd w v' (dvs (big B))) :
    Calls Try.prog 32 #[v, v'] w fun e w' => e = .returned (.bool (decide (A = B))) ∧ ∃ n, w' = w.drewN n := by
  have hv : ∃ a b c, v = .slice a b c := by obtain ⟨a, c, e, _⟩ := h; exact ⟨a, _, c, e⟩
  have hv' : ∃ a b c, v' = .slice a b c := by obtain ⟨a, c, e, _⟩ := h'; exact ⟨a, _, c, e⟩
  obtain ⟨a, b, c, rfl⟩ := hv
  obtain ⟨a', b', c', rfl⟩ := hv'
  have L1 := bless_any _ _ A B w h h'
  by_cases h1 : A < B
  · rw [decide_eq_true h1] at L1
    have e : decide (A = B) = false := decide_eq_false (by omega)
    rw [e]
    have HL1 := Lib.hid L1
    clear L1 e h1 h h'
    go_enter Try.func32, Try.ntmps32
    go_wp2_with fail
    refine (HL1.out).mono ?_
    rintro e w1 ⟨rfl, n, rfl⟩
    go_wp2_with fail
    go_ret
    exact ⟨rfl, _, rfl⟩
  · rw [decide_eq_false h1] at L1
    have L2 := fun n => bless_any _ _ B A (w.drewN n) (h'.drewN n) (h.drewN n)
    have e : decide (B < A) = !decide (A = B) := by
      by_cases h2 : A = B
      · rw [decide_eq_true h2, decide_eq_false (by omega)]; rfl
      · rw [decide_eq_false h2, decide_eq_true (by omega)]; rfl
    rw [e] at L2
    obtain ⟨x, hx⟩ : ∃ x, x = decide (A = B) := ⟨_, rfl⟩
    rw [← hx] at L2 ⊢
    have HL1 := Lib.hid L1
    have HL2 := Lib.hid L2
    clear L1 L2 e h1 h h' hx
    go_enter Try.func32, Try.ntmps32
    go_wp2_with fail
    refine (HL1.out).mono ?_
    rintro e w1 ⟨rfl, n, rfl⟩
    go_wp2_with fail
    refine (HL2.out n).mono ?_
    rintro e w1 ⟨rfl, n2, rfl⟩
    go_wp2_with fail
    go_ret
    exact ⟨by simp, _, rfl⟩
end Go.Proofs.Ytkihcngllhjabaa
