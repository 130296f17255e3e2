/- Walks: gcm's pair: pairOf, xor, times, bytes; gcm.Times. -/
import Derived.Test.YtfpjpakjlhidkaaGcmBits
import Derived.Test.YtfpjpakjlhidkaaSame
import Derived.Test.YtfpjpakjlhidkaaMemK
import Derived.Test.YtfpjpakjlhidkaaJumps
import Derived.Deep.LoopGhost
namespace Go.Proofs.Ytfpjpakjlhidkaa
open Go.RowKit GcmM GcmB
set_option linter.unusedVariables false
theorem blk2 (w : World) (A B : Array Value) (t1 t2 : TypeId) :
    Blk ((w.alloc (.cells A t1)).alloc (.cells B t2)) w.heap.size t1 A ∧ Blk ((w.alloc (.cells A t1)).alloc (.cells B t2)) (w.heap.size + 1) t2 B ∧
      Below w.heap.size w ((w.alloc (.cells A t1)).alloc (.cells B t2)) := by
  refine ⟨(Blk.new w t1 A).alloc _, ?_, ((Below.refl _ _).alloc (Nat.le_refl _) _).alloc (by simp) _⟩
  have := Blk.new (w.alloc (.cells A t1)) t2 B
  have e : (w.alloc (.cells A t1)).heap.size = w.heap.size + 1 := by simp
  rwa [e] at this
theorem blk3 (w : World) (A B C : Array Value) (t1 t2 t3 : TypeId) :
    Blk (((w.alloc (.cells A t1)).alloc (.cells B t2)).alloc (.cells C t3)) w.heap.size t1 A ∧
    Blk (((w.alloc (.cells A t1)).alloc (.cells B t2)).alloc (.cells C t3)) (w.heap.size + 1) t2 B ∧
    Blk (((w.alloc (.cells A t1)).alloc (.cells B t2)).alloc (.cells C t3)) (w.heap.size + 2) t3 C ∧
      Below w.heap.size w (((w.alloc (.cells A t1)).alloc (.cells B t2)).alloc (.cells C t3)) := by
  obtain ⟨h1, h2, h3⟩ := blk2 w A B t1 t2
  have k := Blk.new ((w.alloc (.cells A t1)).alloc (.cells B t2)) t3 C
  have e : ((w.alloc (.cells A t1)).alloc (.cells B t2)).heap.size = w.heap.size + 2 := by simp
  rw [e] at k
  exact ⟨h1.alloc _, h2.alloc _, k, h3.alloc h3.size _⟩
theorem blk4 (w : World) (A B C D : Array Value) (t1 t2 t3 t4 : TypeId) :
    Blk ((((w.alloc (.cells A t1)).alloc (.cells B t2)).alloc (.cells C t3)).alloc (.cells D t4)) w.heap.size t1 A ∧
    Blk ((((w.alloc (.cells A t1)).alloc (.cells B t2)).alloc (.cells C t3)).alloc (.cells D t4)) (w.heap.size + 1) t2 B ∧
    Blk ((((w.alloc (.cells A t1)).alloc (.cells B t2)).alloc (.cells C t3)).alloc (.cells D t4)) (w.heap.size + 2) t3 C ∧
    Blk ((((w.alloc (.cells A t1)).alloc (.cells B t2)).alloc (.cells C t3)).alloc (.cells D t4)) (w.heap.size + 3) t4 D ∧
      Below w.heap.size w ((((w.alloc (.cells A t1)).alloc (.cells B t2)).alloc (.cells C t3)).alloc (.cells D t4)) := by
  obtain ⟨h1, h2, h3⟩ := blk2 w A B t1 t2
  obtain ⟨k1, k2, k3⟩ := blk2 ((w.alloc (.cells A t1)).alloc (.cells B t2)) C D t3 t4
  have e : ((w.alloc (.cells A t1)).alloc (.cells B t2)).heap.size = w.heap.size + 2 := by simp
  rw [e] at k1 k2 k3
  exact ⟨(h1.alloc _).alloc _, (h2.alloc _).alloc _, k1, k2, h3.trans (k3.mono (by omega))⟩
set_option maxRecDepth 100000 in
set_option maxHeartbeats 1000000 in
theorem pxor_any (a b : Nat) (w : World) (ha : a < P128) (hb : b < P128) :
    Calls Try.prog 44 #[.agg (pr a), .agg (pr b)] w fun e w' => e = .returned (.agg (pr (a ^^^ b))) ∧ Below w.heap.size w w' := by
  unfold P128 at ha hb
  obtain ⟨e1, e2⟩ := xor_words a b
  unfold pr
  rw [e1, e2]
  obtain ⟨ah, hah⟩ : ∃ x, x = a / 18446744073709551616 := ⟨_, rfl⟩
  obtain ⟨al, hal⟩ : ∃ x, x = a % 18446744073709551616 := ⟨_, rfl⟩
  obtain ⟨bh, hbh⟩ : ∃ x, x = b / 18446744073709551616 := ⟨_, rfl⟩
  obtain ⟨bl, hbl⟩ : ∃ x, x = b % 18446744073709551616 := ⟨_, rfl⟩
  rw [← hah, ← hal, ← hbh, ← hbl]
  have x1 := u64_xor_nat ah bh (by omega) (by omega)
  have x2 := u64_xor_nat al bl (by omega) (by omega)
  obtain ⟨k1, k2, k3, k4⟩ := blk3 w #[.int .u64 (ah : Int), .int .u64 (al : Int)] #[.int .u64 (bh : Int), .int .u64 (bl : Int)] #[.int .u64 ((ah ^^^ bh : Nat) : Int), .int .u64 ((al ^^^ bl : Nat) : Int)] 54 54 54
  have K3 := Lib.hid k3
  have K4 := Lib.hid k4
  clear k1 k2 k3 k4 hah hal hbh hbl e1 e2
  go_enter Try.func44, Try.ntmps44
  go_wp2_with fail
  exact bodyPost_ret (v := .agg #[.int .u64 ((ah ^^^ bh : Nat) : Int), .int .u64 ((al ^^^ bl : Nat) : Int)]) (results_row1 Try.results44 _ _ (w.heap.size + 2) _ _ _ rfl K3.out Try.underlying54 rfl (by kernel_rfl)) rfl ⟨rfl, K4.out⟩
theorem be_split {K : List Nat} (hK : ∀ n ∈ K, n < 256) (hl : K.length = 16) : beV (K.take 8) = beV K / 18446744073709551616 ∧ beV (K.drop 8) = beV K % 18446744073709551616 := by
  have e := beV_app (K.take 8) (K.drop 8)
  have h2 := beV_lt (K := K.drop 8) fun n hn => hK n (List.mem_of_mem_drop hn)
  rw [List.take_append_drop, List.length_drop, hl] at e
  rw [List.length_drop, hl] at h2
  simp only [Nat.reduceSub, Nat.reducePow] at e h2
  omega
theorem take_snoc {K : List Nat} {i : Nat} (h : i < K.length) : K.take (i + 1) = K.take i ++ [K.getD i 0] := by
  rw [List.take_succ_eq_append_getElem h]
  simp [List.getD_eq_getElem?_getD, List.getElem?_eq_getElem h]
theorem Rd.get3 {w : World} {a : Option Addr} {n cap r : Nat} {xs : List Value} {u : Value} (h : Rd w (.slice a n cap) xs) (hu : xs[r]? = some u) : ∃ b off, a = some ⟨b, off, none⟩ ∧ b < w.heap.size ∧ w.cell? ⟨b, off + r, none⟩ = some u := by
  rcases h.lt with h0 | ⟨b, off, cap', e1, e2⟩
  · subst h0; simp at hu
  · obtain ⟨a', c', e, _, _, h3⟩ := h
    rcases h3 with ⟨h0, _⟩ | ⟨b', off', he, hc⟩
    · subst h0; simp at hu
    · simp only [Value.slice.injEq] at e e1
      obtain ⟨rfl, _, _⟩ := e
      obtain ⟨rfl, _, _⟩ := e1
      simp only [Option.some.injEq, Addr.mk.injEq, and_true] at he
      obtain ⟨rfl, rfl⟩ := he
      exact ⟨b, off, rfl, e2, hc r u hu⟩
set_option maxRecDepth 100000 in
set_option maxHeartbeats 2000000 in
theorem pairOf_any (v : Value) (K : List Nat) (w : World) (h : Rd w v (bvs K)) (hK : ∀ n ∈ K, n < 256) (hl : K.length = 16) :
    Calls Try.prog 32 #[v] w fun e w' => e = .returned (.agg (pr (beV K))) ∧ Below w.heap.size w w' := by
  have hv : ∃ a c, v = .slice a 16 c := by obtain ⟨a, c, e, _⟩ := h; exact ⟨a, c, by rw [e, bvs_len, hl]⟩
  obtain ⟨a, cap, rfl⟩ := hv
  obtain ⟨s1, s2⟩ := be_split hK hl
  have hpr : pr (beV K) = #[.int .u64 ((beV (K.take 8) : Nat) : Int), .int .u64 ((beV (K.drop 8) : Nat) : Int)] := by rw [s1, s2]; rfl
  rw [hpr]
  have C : ∀ (i : Nat) (wr : World), i < 16 → Below w.heap.size w wr → ∃ b off, a = some ⟨b, off, none⟩ ∧ wr.cell? ⟨b, off + i, none⟩ = some (.int .u8 ((K.getD i 0 : Nat) : Int)) := by
    intro i wr hi hb
    obtain ⟨b, off, e1, e2, e3⟩ := (h.below hb (Nat.le_refl _)).get3 (bvs_getD (L := K) (i := i) (by omega))
    exact ⟨b, off, e1, e3⟩
  obtain ⟨k1, k2, k3⟩ := blk2 w #[.int .u64 0, .int .u64 0] #[.int .u64 0, .int .u64 0] 54 54
  have K1 := Lib.hid k1
  have K2 := Lib.hid k2
  have K3 := Lib.hid k3
  have HC := Lib.hid C
  have HK := Lib.hid hK
  have HL := Lib.hid hl
  clear k1 k2 k3 C h hK hl s1 s2 hpr
  go_enter Try.func32, Try.ntmps32
  go_wp2_with fail
  go_loopg [8] 16 (fun q iv wr => ∃ (i x y : Nat), i + q = 16 ∧ iv = .int .i64 (i : Nat) ∧ Hid (x = beV (K.take (min i 8))) ∧ Hid (y = beV ((K.drop 8).take (i - 8))) ∧ Blk wr w.heap.size 54 #[.int .u64 0, .int .u64 0] ∧ Blk wr (w.heap.size + 1) 54 #[.int .u64 (x : Nat), .int .u64 (y : Nat)] ∧ Below w.heap.size w wr)
  case atStart => exact ⟨0, 0, 0, rfl, rfl, rfl, rfl, K1.out, K2.out, K3.out⟩
  case round =>
    obtain ⟨i, x, y, hi, rfl, HX, HY, k1, k2, k3⟩ := hrel
    have J1 := Lib.hid k1
    have J2 := Lib.hid k2
    have J3 := Lib.hid k3
    have HI := Lib.hid hi
    by_cases h16 : i < 16
    · have h16' : decide ((i : Int) < 16) = true := by rw [decide_eq_true_iff]; omega
      obtain ⟨b, off, rfl, q1⟩ := HC.out i wr h16 k3
      have hc := getD_lt HK.out (by omega) i
      obtain ⟨c, hce⟩ : ∃ c, c = K.getD i 0 := ⟨_, rfl⟩
      rw [← hce] at q1 hc
      have c0 := k2.cell 0
      have c1 := k2.cell 1
      have f0 := k2.frozen 0
      have f1 := k2.frozen 1
      simp only [List.getElem?_toArray, List.getElem?_cons_zero, List.getElem?_cons_succ] at c0 c1
      by_cases h8 : i < 8
      · have h8' : decide ((i : Int) < 8) = true := by rw [decide_eq_true_iff]; omega
        have hx : x < 72057594037927936 := by
          rw [HX.out]
          have h1 := beV_lt (K := K.take (min i 8)) fun n hn => HK.out n (List.mem_of_mem_take hn)
          have h2 : 256 ^ (K.take (min i 8)).length ≤ 256 ^ 7 := Nat.pow_le_pow_right (by omega) (by rw [List.length_take]; omega)
          omega
        have ho := or_u64b (x * 256) c (by omega) (by omega) hc
        have en : ((x * 256 : Nat) : Int) = (x : Int) * 256 := by omega
        rw [en] at ho
        have HCE := Lib.hid hce
        clear k1 k2 k3 en hi hce
        go_wp2_with fail
        go_roundg (gk - 1)
        case measure => have := HI.out; omega
        case rel =>
          refine ⟨i + 1, x * 256 + c, y, by have := HI.out; omega, by go_num, ?_, ?_, J1.out.far (by simp) _, ?_, J3.out.setCell (by simp) _⟩
          · show _ = _
            rw [show min (i + 1) 8 = i + 1 by omega, take_snoc (by rw [HL.out]; exact h16), beV_snoc, HX.out, show min i 8 = i by omega, HCE.out]
          · show _ = _
            rw [HY.out, show i + 1 - 8 = i - 8 by omega]
          · exact J2.out.set 0 (.int .u64 ((x * 256 + c : Nat) : Int))
      · have h8' : decide ((i : Int) < 8) = false := by rw [decide_eq_false_iff_not]; omega
        have hy : y < 72057594037927936 := by
          rw [HY.out]
          have h1 := beV_lt (K := (K.drop 8).take (i - 8)) fun n hn => HK.out n (List.mem_of_mem_drop (List.mem_of_mem_take hn))
          have h2 : 256 ^ ((K.drop 8).take (i - 8)).length ≤ 256 ^ 7 := Nat.pow_le_pow_right (by omega) (by rw [List.length_take]; omega)
          omega
        have ho := or_u64b (y * 256) c (by omega) (by omega) hc
        have en : ((y * 256 : Nat) : Int) = (y : Int) * 256 := by omega
        rw [en] at ho
        have HCE := Lib.hid hce
        clear k1 k2 k3 en hi hce
        go_wp2_with fail
        go_roundg (gk - 1)
        case measure => have := HI.out; omega
        case rel =>
          refine ⟨i + 1, x, y * 256 + c, by have := HI.out; omega, by go_num, ?_, ?_, J1.out.far (by simp) _, ?_, J3.out.setCell (by simp) _⟩
          · show _ = _
            rw [HX.out, show min (i + 1) 8 = 8 by omega, show min i 8 = 8 by omega]
          · show _ = _
            rw [show i + 1 - 8 = (i - 8) + 1 by omega, take_snoc (by rw [List.length_drop, HL.out]; omega), beV_snoc, ← HY.out, HCE.out]
            congr 1
            simp [List.getD_eq_getElem?_getD, List.getElem?_drop, show 8 + (i - 8) = i by omega]
          · exact J2.out.set 1 (.int .u64 ((y * 256 + c : Nat) : Int))
    · obtain rfl : i = 16 := by omega
      have e1 : x = beV (K.take 8) := HX.out
      have e2 : y = beV (K.drop 8) := by
        rw [HY.out, List.take_of_length_le (by rw [List.length_drop, HL.out]; omega)]
      have HE1 := Lib.hid e1
      have HE2 := Lib.hid e2
      clear k1 k2 k3 e1 e2 hi
      go_wp2_with (first
        | (refine wpList_load_at rfl 54 (.tmp 3) rfl (w.heap.size + 1) rfl 54 #[.int .u64 (x : Nat), .int .u64 (y : Nat)] (0, 0) _ J2.out Try.underlying54 rfl (by kernel_rfl) ?_)
        | (refine wpList_store_blk rfl 54 (.tmp 2) (.tmp 30) rfl w.heap.size #[.int .u64 (x : Nat), .int .u64 (y : Nat)] rfl rfl _ _ J1.out (by kernel_rfl) rfl rfl ?_))
      rintro w2 hk2 hb2 - -
      have JK := Lib.hid hk2
      have JD := Lib.hid (J3.out.trans (hb2 _ (Nat.le_refl _)))
      clear hk2 hb2
      go_wp2_with fail
      exact bodyPost_ret (v := .agg #[.int .u64 (x : Nat), .int .u64 (y : Nat)]) (results_row1 Try.results32 _ _ w.heap.size _ _ _ rfl JK.out Try.underlying54 rfl (by kernel_rfl)) rfl ⟨by rw [HE1.out, HE2.out], JD.out⟩
def TimJ (a b : Nat) (w : World) (a' : Act) (w' : World) : Prop :=
  ∃ (n : Nat), n < 128 ∧ Blk w' w.heap.size 54 (pr a) ∧ Blk w' (w.heap.size + 1) 54 (pr (xtn n b)) ∧ Blk w' (w.heap.size + 2) 54 #[.int .u64 0, .int .u64 0] ∧ Blk w' (w.heap.size + 3) 54 (pr (gmK a b n)) ∧ Below w.heap.size w w' ∧
    ∃ (x7 x8 x9 x10 x11 x12 x13 x14 x15 x16 x17 x18 x19 x20 x21 x22 x23 x24 x25 x26 x27 x28 x29 x30 x31 x32 x33 x34 x35 x36 x37 x38 x39 x40 x41 x42 x43 x44 x45 x46 x47 x48 x49 x50 x51 x52 x53 x54 x55 x56 x57 x58 x59 x60 : Value), a' = { tmps := #[.agg (pr a), .agg (pr b), .pointer (some ⟨w.heap.size, 0, none⟩), .pointer (some ⟨w.heap.size + 1, 0, none⟩), .pointer (some ⟨w.heap.size + 2, 0, none⟩), .pointer (some ⟨w.heap.size + 3, 0, none⟩), .int .i64 (n : Nat), x7, x8, x9, x10, x11, x12, x13, x14, x15, x16, x17, x18, x19, x20, x21, x22, x23, x24, x25, x26, x27, x28, x29, x30, x31, x32, x33, x34, x35, x36, x37, x38, x39, x40, x41, x42, x43, x44, x45, x46, x47, x48, x49, x50, x51, x52, x53, x54, x55, x56, x57, x58, x59, x60], defers := [] }
theorem gmK_lt {b : Nat} (h : b < P128) (a n : Nat) : gmK a b n < P128 := by
  induction n with
  | zero => rw [gmK]; decide
  | succ n ih =>
    rw [gmK, p128]
    rw [p128] at ih
    apply Nat.xor_lt_two_pow ih
    split
    · have := xtn_lt h n; rwa [p128] at this
    · decide
set_option maxRecDepth 100000 in
set_option maxHeartbeats 8000000 in
theorem ptimes_any (a b : Nat) (w : World) (ha : a < P128) (hb : b < P128) :
    Calls Try.prog 33 #[.agg (pr a), .agg (pr b)] w fun e w' => e = .returned (.agg (pr (gm a b))) ∧ Below w.heap.size w w' := by
  obtain ⟨k1, k2, k3, k4, k5⟩ := blk4 w (pr a) (pr b) #[.int .u64 0, .int .u64 0] #[.int .u64 0, .int .u64 0] 54 54 54 54
  have K1 := Lib.hid k1
  have K2 := Lib.hid k2
  have K3 := Lib.hid k3
  have K4 := Lib.hid k4
  have K5 := Lib.hid k5
  have HXO := Lib.hid (fun (x y : Nat) (w : World) (hx : x < P128) (hy : y < P128) => pxor_any x y w hx hy)
  have HA := Lib.hid ha
  have HB := Lib.hid hb
  clear k1 k2 k3 k4 k5 ha hb
  go_enter Try.func33, Try.ntmps33
  go_wp2_with fail
  refine wp_scope_label' 0 (TimJ a b w) (fun ac _ => 128 - (intOf (ac.tmps.getD 6 undef)).toNat) rfl ?_ ?_
  · rintro ac wx ⟨n, hn, k1, k2, k3, k4, k5, hf⟩
    iterate 54 (obtain ⟨_, hf⟩ := hf)
    subst hf
    have J1 := Lib.hid k1
    have J2 := Lib.hid k2
    have J3 := Lib.hid k3
    have J4 := Lib.hid k4
    have J5 := Lib.hid k5
    have hvL := xtn_lt HB.out n
    obtain ⟨v, hv⟩ : ∃ v, v = xtn n b := ⟨_, rfl⟩
    rw [← hv] at hvL J2 k2
    have hoL := gmK_lt HB.out a n
    obtain ⟨o, ho⟩ : ∃ o, o = gmK a b n := ⟨_, rfl⟩
    rw [← ho] at hoL J4
    have HV := Lib.hid hv
    have HO := Lib.hid ho
    have HVL := Lib.hid hvL
    have HOL := Lib.hid hoL
    have c0 := k1.cell 0
    have c1 := k1.cell 1
    simp only [pr, List.getElem?_toArray, List.getElem?_cons_zero, List.getElem?_cons_succ] at c0 c1
    have haP := HA.out
    unfold P128 at haP
    have b1 := bt_hi (v := a) (n := n)
    have b2 := bt_lo (v := a) (n := n)
    obtain ⟨ah, hah⟩ : ∃ x, x = a / 18446744073709551616 := ⟨_, rfl⟩
    obtain ⟨al, hal⟩ : ∃ x, x = a % 18446744073709551616 := ⟨_, rfl⟩
    rw [← hah] at c0 b1
    rw [← hal] at c1 b2
    have hah64 : ah < 18446744073709551616 := by omega
    have hal64 : al < 18446744073709551616 := by omega
    have HB1 := Lib.hid b1
    have HB2 := Lib.hid b2
    clear k1 k2 k3 k4 k5 hah hal haP hv ho hvL hoL b1 b2
    by_cases h64 : n < 64
    · have h64' : decide ((n : Int) < 64) = true := by rw [decide_eq_true_iff]; omega
      obtain ⟨r, hr⟩ : ∃ r, r = 63 - n := ⟨_, rfl⟩
      have er : (63 : Int) - (n : Int) = (r : Int) := by omega
      have hr64 : r < 64 := by omega
      obtain ⟨qq, hq⟩ : ∃ q, q = ah / 2 ^ r := ⟨_, rfl⟩
      have hqq : qq ≤ ah := by rw [hq]; exact Nat.div_le_self _ _
      have eq1 : (ah : Int) / 2 ^ r = (qq : Int) := by rw [hq]; simp
      have hand := and_one qq (by omega)
      have hbit := HB1.out h64
      rw [← hr, ← hq] at hbit
      obtain ⟨m, hm⟩ : ∃ m, m = qq % 2 := ⟨_, rfl⟩
      rw [← hm] at hand hbit
      by_cases hm1 : m = 1
      · have hbt : bt a n = true := by rw [← hbit]; exact hm1
        have HBT := Lib.hid hbt
        subst hm1
        clear hbt hbit hr hq hm
        have XO := fun w => HXO.out o v w HOL.out HVL.out
        have HX2 := Lib.hid XO
        clear XO
        go_wp2_with (first
          | (refine wpList_load_at rfl 54 (.tmp 5) rfl (w.heap.size + 3) rfl 54 (pr o) (0, 0) _ J4.out Try.underlying54 rfl (by kernel_rfl) ?_)
          | (refine wpList_load_at rfl 54 (.tmp 3) rfl (w.heap.size + 1) rfl 54 (pr v) (0, 0) _ J2.out Try.underlying54 rfl (by kernel_rfl) ?_))
        refine (HX2.out _).mono ?_
        rintro e w2 ⟨rfl, hb2⟩
        have A1 := Lib.hid (J1.out.below hb2 J1.out.lt)
        have A2 := Lib.hid (J2.out.below hb2 J2.out.lt)
        have A3 := Lib.hid (J3.out.below hb2 J3.out.lt)
        have A4 := Lib.hid (J4.out.below hb2 J4.out.lt)
        have A5 := Lib.hid (J5.out.trans (hb2.mono J5.out.size))
        clear hb2
        go_wp2_with (refine wpList_store_blk rfl 54 (.tmp 5) (.tmp 34) rfl (w.heap.size + 3) (pr (o ^^^ v)) rfl rfl _ _ A4.out (by kernel_rfl) rfl rfl ?_)
        rintro w3 hk3 hb3 ho3 -
        have B1 := Lib.hid (show Blk w3 w.heap.size _ _ from (ho3 w.heap.size (by omega)).trans A1.out)
        have B2 := Lib.hid (show Blk w3 (w.heap.size + 1) _ _ from (ho3 (w.heap.size + 1) (by omega)).trans A2.out)
        have B3 := Lib.hid (show Blk w3 (w.heap.size + 2) _ _ from (ho3 (w.heap.size + 2) (by omega)).trans A3.out)
        have B4 := Lib.hid hk3
        have B5 := Lib.hid (A5.out.trans (hb3 _ (by omega)))
        clear hk3 hb3 ho3
        have hv0 := HVL.out
        unfold P128 at hv0
        have xh := xt_hi v
        have xl := xt_lo v
        obtain ⟨vh, hvh⟩ : ∃ x, x = v / 18446744073709551616 := ⟨_, rfl⟩
        obtain ⟨vl, hvl⟩ : ∃ x, x = v % 18446744073709551616 := ⟨_, rfl⟩
        rw [← hvh] at xh xl
        rw [← hvl] at xl
        have hpv : pr v = #[.int .u64 (vh : Int), .int .u64 (vl : Int)] := by unfold pr; rw [← hvh, ← hvl]
        have hvh64 : vh < 18446744073709551616 := by omega
        have hvl64 : vl < 18446744073709551616 := by omega
        obtain ⟨l, hl⟩ : ∃ x, x = vl % 2 := ⟨_, rfl⟩
        have hl2 : v % 2 = l := by omega
        have hll : l ≤ 1 := by omega
        rw [hl2] at xh
        have ha1 := and_one vl hvl64
        rw [← hl] at ha1
        obtain ⟨z, hz⟩ : ∃ x, x = vh / 2 := ⟨_, rfl⟩
        obtain ⟨u, hu⟩ : ∃ x, x = vl / 2 := ⟨_, rfl⟩
        have e1 : (vh : Int) / 2 = (z : Int) := by omega
        have e2 : (vl : Int) / 2 = (u : Int) := by omega
        have hor := or_top u (vh % 2) (by omega) (by omega)
        obtain ⟨T, hT⟩ : ∃ x, x = vh % 2 * 9223372036854775808 := ⟨_, rfl⟩
        rw [← hT] at hor
        rw [← hu, ← hT] at xl
        rw [← hz] at xh
        have hW2 : (vh : Int) * 9223372036854775808 % 18446744073709551616 = (T : Int) := by omega
        have hW : IntKind.u64.wrap ((vh : Int) * 9223372036854775808) = (T : Int) := by rw [IntKind.wrap_u64]; exact hW2
        obtain ⟨y, hy⟩ : ∃ x, x = u + T := ⟨_, rfl⟩
        rw [← hy] at hor xl
        have hx := u64_xor_nat z (l * 16212958658533785600) (by omega) (by omega)
        obtain ⟨X, hX⟩ : ∃ x, x = z ^^^ l * 16212958658533785600 := ⟨_, rfl⟩
        rw [← hX] at hx xh
        have hx' : bits .xor .u64 (z : Int) ((l : Int) * 225 * 72057594037927936) = (X : Int) := by
          rw [← hx, show (l : Int) * 225 * 72057594037927936 = ((l * 16212958658533785600 : Nat) : Int) by rw [Int.mul_assoc, Int.natCast_mul]; rfl]
        have hpx : pr (xt v) = #[.int .u64 (X : Int), .int .u64 (y : Int)] := by unfold pr; rw [xh, xl]
        have hz64 : z < 18446744073709551616 := by omega
        have hy64 : y < 18446744073709551616 := by omega
        have HPX := Lib.hid hpx
        have GV := Lib.hid (show Blk w3 (w.heap.size + 1) 54 #[.int .u64 (vh : Int), .int .u64 (vl : Int)] by rw [← hpv]; exact B2.out)
        have d0 := GV.out.cell 0
        have d1 := GV.out.cell 1
        simp only [List.getElem?_toArray, List.getElem?_cons_zero, List.getElem?_cons_succ] at d0 d1
        clear hv0 hvh hvl hpv hl hl2 hz hu hT hy hX hx hpx xh xl
        go_wp2_with (refine wpList_store_blk rfl 54 (.tmp 3) (.tmp 48) rfl (w.heap.size + 1) #[.int .u64 (z : Int), .int .u64 (y : Int)] rfl rfl _ _ GV.out (by kernel_rfl) rfl rfl ?_)
        rintro w5 hk5 hb5 ho5 -
        have M1 := Lib.hid (show Blk w5 w.heap.size _ _ from (ho5 w.heap.size (by omega)).trans B1.out)
        have M3 := Lib.hid (show Blk w5 (w.heap.size + 2) _ _ from (ho5 (w.heap.size + 2) (by omega)).trans B3.out)
        have M4 := Lib.hid (show Blk w5 (w.heap.size + 3) _ _ from (ho5 (w.heap.size + 3) (by omega)).trans B4.out)
        have M5 := Lib.hid (B5.out.trans (hb5 _ (by omega)))
        have M2 := Lib.hid hk5
        have g0 := hk5.cell 0
        have gf := hk5.frozen 0
        simp only [List.getElem?_toArray, List.getElem?_cons_zero] at g0
        clear hk5 hb5 ho5 d0 d1
        have N2 := Lib.hid (M2.out.set 0 (.int .u64 (X : Int)))
        have N1 := Lib.hid (M1.out.far (p := ⟨w.heap.size + 1, 0, none⟩) (by simp) (.int .u64 (X : Int)))
        have N3 := Lib.hid (M3.out.far (p := ⟨w.heap.size + 1, 0, none⟩) (by simp) (.int .u64 (X : Int)))
        have N4 := Lib.hid (M4.out.far (p := ⟨w.heap.size + 1, 0, none⟩) (by simp) (.int .u64 (X : Int)))
        have N5 := Lib.hid (M5.out.setCell (p := ⟨w.heap.size + 1, 0, none⟩) (by simp) (.int .u64 (X : Int)))
        by_cases h127 : n < 127
        · have h127' : decide ((n : Int) + 1 < 128) = true := by rw [decide_eq_true_iff]; omega
          go_wp2_with fail
          refine wp_goto ⟨rfl, ⟨n + 1, by omega, N1.out, ?_, N3.out, ?_, N5.out, _, _, _, _, _, _, _, _, _, _, _, _, _, _, _, _, _, _, _, _, _, _, _, _, _, _, _, _, _, _, _, _, _, _, _, _, _, _, _, _, _, _, _, _, _, _, _, _, _, _, _, _, _, _, rfl⟩, ?_⟩
          · rw [xtn, ← HV.out, HPX.out]
            exact N2.out
          · rw [gmK, ← HO.out, ← HV.out, HBT.out, if_pos rfl]
            exact N4.out
          · show 128 - ((n : Int) + 1).toNat < 128 - ((n : Nat) : Int).toNat
            omega
        · exfalso; omega
      · have hbt : bt a n = false := by
          rw [← Bool.not_eq_true, ← hbit]; exact hm1
        have HBT := Lib.hid hbt
        have hm0 : m = 0 := by omega
        subst hm0
        clear hbt hbit hr hq hm hm1
        have hv0 := HVL.out
        unfold P128 at hv0
        have xh := xt_hi v
        have xl := xt_lo v
        obtain ⟨vh, hvh⟩ : ∃ x, x = v / 18446744073709551616 := ⟨_, rfl⟩
        obtain ⟨vl, hvl⟩ : ∃ x, x = v % 18446744073709551616 := ⟨_, rfl⟩
        rw [← hvh] at xh xl
        rw [← hvl] at xl
        have hpv : pr v = #[.int .u64 (vh : Int), .int .u64 (vl : Int)] := by unfold pr; rw [← hvh, ← hvl]
        have hvh64 : vh < 18446744073709551616 := by omega
        have hvl64 : vl < 18446744073709551616 := by omega
        obtain ⟨l, hl⟩ : ∃ x, x = vl % 2 := ⟨_, rfl⟩
        have hl2 : v % 2 = l := by omega
        have hll : l ≤ 1 := by omega
        rw [hl2] at xh
        have ha1 := and_one vl hvl64
        rw [← hl] at ha1
        obtain ⟨z, hz⟩ : ∃ x, x = vh / 2 := ⟨_, rfl⟩
        obtain ⟨u, hu⟩ : ∃ x, x = vl / 2 := ⟨_, rfl⟩
        have e1 : (vh : Int) / 2 = (z : Int) := by omega
        have e2 : (vl : Int) / 2 = (u : Int) := by omega
        have hor := or_top u (vh % 2) (by omega) (by omega)
        obtain ⟨T, hT⟩ : ∃ x, x = vh % 2 * 9223372036854775808 := ⟨_, rfl⟩
        rw [← hT] at hor
        rw [← hu, ← hT] at xl
        rw [← hz] at xh
        have hW2 : (vh : Int) * 9223372036854775808 % 18446744073709551616 = (T : Int) := by omega
        have hW : IntKind.u64.wrap ((vh : Int) * 9223372036854775808) = (T : Int) := by rw [IntKind.wrap_u64]; exact hW2
        obtain ⟨y, hy⟩ : ∃ x, x = u + T := ⟨_, rfl⟩
        rw [← hy] at hor xl
        have hx := u64_xor_nat z (l * 16212958658533785600) (by omega) (by omega)
        obtain ⟨X, hX⟩ : ∃ x, x = z ^^^ l * 16212958658533785600 := ⟨_, rfl⟩
        rw [← hX] at hx xh
        have hx' : bits .xor .u64 (z : Int) ((l : Int) * 225 * 72057594037927936) = (X : Int) := by
          rw [← hx, show (l : Int) * 225 * 72057594037927936 = ((l * 16212958658533785600 : Nat) : Int) by rw [Int.mul_assoc, Int.natCast_mul]; rfl]
        have hpx : pr (xt v) = #[.int .u64 (X : Int), .int .u64 (y : Int)] := by unfold pr; rw [xh, xl]
        have hz64 : z < 18446744073709551616 := by omega
        have hy64 : y < 18446744073709551616 := by omega
        have HPX := Lib.hid hpx
        have GV := Lib.hid (show Blk wx (w.heap.size + 1) 54 #[.int .u64 (vh : Int), .int .u64 (vl : Int)] by rw [← hpv]; exact J2.out)
        have d0 := GV.out.cell 0
        have d1 := GV.out.cell 1
        simp only [List.getElem?_toArray, List.getElem?_cons_zero, List.getElem?_cons_succ] at d0 d1
        clear hv0 hvh hvl hpv hl hl2 hz hu hT hy hX hx hpx xh xl
        go_wp2_with (refine wpList_store_blk rfl 54 (.tmp 3) (.tmp 48) rfl (w.heap.size + 1) #[.int .u64 (z : Int), .int .u64 (y : Int)] rfl rfl _ _ GV.out (by kernel_rfl) rfl rfl ?_)
        rintro w5 hk5 hb5 ho5 -
        have M1 := Lib.hid (show Blk w5 w.heap.size _ _ from (ho5 w.heap.size (by omega)).trans J1.out)
        have M3 := Lib.hid (show Blk w5 (w.heap.size + 2) _ _ from (ho5 (w.heap.size + 2) (by omega)).trans J3.out)
        have M4 := Lib.hid (show Blk w5 (w.heap.size + 3) _ _ from (ho5 (w.heap.size + 3) (by omega)).trans J4.out)
        have M5 := Lib.hid (J5.out.trans (hb5 _ (by omega)))
        have M2 := Lib.hid hk5
        have g0 := hk5.cell 0
        have gf := hk5.frozen 0
        simp only [List.getElem?_toArray, List.getElem?_cons_zero] at g0
        clear hk5 hb5 ho5 d0 d1
        have N2 := Lib.hid (M2.out.set 0 (.int .u64 (X : Int)))
        have N1 := Lib.hid (M1.out.far (p := ⟨w.heap.size + 1, 0, none⟩) (by simp) (.int .u64 (X : Int)))
        have N3 := Lib.hid (M3.out.far (p := ⟨w.heap.size + 1, 0, none⟩) (by simp) (.int .u64 (X : Int)))
        have N4 := Lib.hid (M4.out.far (p := ⟨w.heap.size + 1, 0, none⟩) (by simp) (.int .u64 (X : Int)))
        have N5 := Lib.hid (M5.out.setCell (p := ⟨w.heap.size + 1, 0, none⟩) (by simp) (.int .u64 (X : Int)))
        by_cases h127 : n < 127
        · have h127' : decide ((n : Int) + 1 < 128) = true := by rw [decide_eq_true_iff]; omega
          go_wp2_with fail
          refine wp_goto ⟨rfl, ⟨n + 1, by omega, N1.out, ?_, N3.out, ?_, N5.out, _, _, _, _, _, _, _, _, _, _, _, _, _, _, _, _, _, _, _, _, _, _, _, _, _, _, _, _, _, _, _, _, _, _, _, _, _, _, _, _, _, _, _, _, _, _, _, _, _, _, _, _, _, _, rfl⟩, ?_⟩
          · rw [xtn, ← HV.out, HPX.out]
            exact N2.out
          · rw [gmK, ← HO.out, ← HV.out, HBT.out, if_neg (by simp), Nat.xor_zero]
            exact N4.out
          · show 128 - ((n : Int) + 1).toNat < 128 - ((n : Nat) : Int).toNat
            omega
        · exfalso; omega
    · have h64' : decide ((n : Int) < 64) = false := by rw [decide_eq_false_iff_not]; omega
      have h64b : decide ((64 : Int) ≤ (n : Int)) = true := by rw [decide_eq_true_iff]; omega
      obtain ⟨r, hr⟩ : ∃ r, r = 127 - n := ⟨_, rfl⟩
      have er : (127 : Int) - (n : Int) = (r : Int) := by omega
      have hr64 : r < 64 := by omega
      obtain ⟨qq, hq⟩ : ∃ q, q = al / 2 ^ r := ⟨_, rfl⟩
      have hqq : qq ≤ al := by rw [hq]; exact Nat.div_le_self _ _
      have eq1 : (al : Int) / 2 ^ r = (qq : Int) := by rw [hq]; simp
      have hand := and_one qq (by omega)
      have hbit := HB2.out (by omega) hn
      rw [← hr, ← hq] at hbit
      obtain ⟨m, hm⟩ : ∃ m, m = qq % 2 := ⟨_, rfl⟩
      rw [← hm] at hand hbit
      by_cases hm1 : m = 1
      · have hbt : bt a n = true := by rw [← hbit]; exact hm1
        have HBT := Lib.hid hbt
        subst hm1
        clear hbt hbit hr hq hm
        have XO := fun w => HXO.out o v w HOL.out HVL.out
        have HX2 := Lib.hid XO
        clear XO
        go_wp2_with (first
          | (refine wpList_load_at rfl 54 (.tmp 5) rfl (w.heap.size + 3) rfl 54 (pr o) (0, 0) _ J4.out Try.underlying54 rfl (by kernel_rfl) ?_)
          | (refine wpList_load_at rfl 54 (.tmp 3) rfl (w.heap.size + 1) rfl 54 (pr v) (0, 0) _ J2.out Try.underlying54 rfl (by kernel_rfl) ?_))
        refine (HX2.out _).mono ?_
        rintro e w2 ⟨rfl, hb2⟩
        have A1 := Lib.hid (J1.out.below hb2 J1.out.lt)
        have A2 := Lib.hid (J2.out.below hb2 J2.out.lt)
        have A3 := Lib.hid (J3.out.below hb2 J3.out.lt)
        have A4 := Lib.hid (J4.out.below hb2 J4.out.lt)
        have A5 := Lib.hid (J5.out.trans (hb2.mono J5.out.size))
        clear hb2
        go_wp2_with (refine wpList_store_blk rfl 54 (.tmp 5) (.tmp 34) rfl (w.heap.size + 3) (pr (o ^^^ v)) rfl rfl _ _ A4.out (by kernel_rfl) rfl rfl ?_)
        rintro w3 hk3 hb3 ho3 -
        have B1 := Lib.hid (show Blk w3 w.heap.size _ _ from (ho3 w.heap.size (by omega)).trans A1.out)
        have B2 := Lib.hid (show Blk w3 (w.heap.size + 1) _ _ from (ho3 (w.heap.size + 1) (by omega)).trans A2.out)
        have B3 := Lib.hid (show Blk w3 (w.heap.size + 2) _ _ from (ho3 (w.heap.size + 2) (by omega)).trans A3.out)
        have B4 := Lib.hid hk3
        have B5 := Lib.hid (A5.out.trans (hb3 _ (by omega)))
        clear hk3 hb3 ho3
        have hv0 := HVL.out
        unfold P128 at hv0
        have xh := xt_hi v
        have xl := xt_lo v
        obtain ⟨vh, hvh⟩ : ∃ x, x = v / 18446744073709551616 := ⟨_, rfl⟩
        obtain ⟨vl, hvl⟩ : ∃ x, x = v % 18446744073709551616 := ⟨_, rfl⟩
        rw [← hvh] at xh xl
        rw [← hvl] at xl
        have hpv : pr v = #[.int .u64 (vh : Int), .int .u64 (vl : Int)] := by unfold pr; rw [← hvh, ← hvl]
        have hvh64 : vh < 18446744073709551616 := by omega
        have hvl64 : vl < 18446744073709551616 := by omega
        obtain ⟨l, hl⟩ : ∃ x, x = vl % 2 := ⟨_, rfl⟩
        have hl2 : v % 2 = l := by omega
        have hll : l ≤ 1 := by omega
        rw [hl2] at xh
        have ha1 := and_one vl hvl64
        rw [← hl] at ha1
        obtain ⟨z, hz⟩ : ∃ x, x = vh / 2 := ⟨_, rfl⟩
        obtain ⟨u, hu⟩ : ∃ x, x = vl / 2 := ⟨_, rfl⟩
        have e1 : (vh : Int) / 2 = (z : Int) := by omega
        have e2 : (vl : Int) / 2 = (u : Int) := by omega
        have hor := or_top u (vh % 2) (by omega) (by omega)
        obtain ⟨T, hT⟩ : ∃ x, x = vh % 2 * 9223372036854775808 := ⟨_, rfl⟩
        rw [← hT] at hor
        rw [← hu, ← hT] at xl
        rw [← hz] at xh
        have hW2 : (vh : Int) * 9223372036854775808 % 18446744073709551616 = (T : Int) := by omega
        have hW : IntKind.u64.wrap ((vh : Int) * 9223372036854775808) = (T : Int) := by rw [IntKind.wrap_u64]; exact hW2
        obtain ⟨y, hy⟩ : ∃ x, x = u + T := ⟨_, rfl⟩
        rw [← hy] at hor xl
        have hx := u64_xor_nat z (l * 16212958658533785600) (by omega) (by omega)
        obtain ⟨X, hX⟩ : ∃ x, x = z ^^^ l * 16212958658533785600 := ⟨_, rfl⟩
        rw [← hX] at hx xh
        have hx' : bits .xor .u64 (z : Int) ((l : Int) * 225 * 72057594037927936) = (X : Int) := by
          rw [← hx, show (l : Int) * 225 * 72057594037927936 = ((l * 16212958658533785600 : Nat) : Int) by rw [Int.mul_assoc, Int.natCast_mul]; rfl]
        have hpx : pr (xt v) = #[.int .u64 (X : Int), .int .u64 (y : Int)] := by unfold pr; rw [xh, xl]
        have hz64 : z < 18446744073709551616 := by omega
        have hy64 : y < 18446744073709551616 := by omega
        have HPX := Lib.hid hpx
        have GV := Lib.hid (show Blk w3 (w.heap.size + 1) 54 #[.int .u64 (vh : Int), .int .u64 (vl : Int)] by rw [← hpv]; exact B2.out)
        have d0 := GV.out.cell 0
        have d1 := GV.out.cell 1
        simp only [List.getElem?_toArray, List.getElem?_cons_zero, List.getElem?_cons_succ] at d0 d1
        clear hv0 hvh hvl hpv hl hl2 hz hu hT hy hX hx hpx xh xl
        go_wp2_with (refine wpList_store_blk rfl 54 (.tmp 3) (.tmp 48) rfl (w.heap.size + 1) #[.int .u64 (z : Int), .int .u64 (y : Int)] rfl rfl _ _ GV.out (by kernel_rfl) rfl rfl ?_)
        rintro w5 hk5 hb5 ho5 -
        have M1 := Lib.hid (show Blk w5 w.heap.size _ _ from (ho5 w.heap.size (by omega)).trans B1.out)
        have M3 := Lib.hid (show Blk w5 (w.heap.size + 2) _ _ from (ho5 (w.heap.size + 2) (by omega)).trans B3.out)
        have M4 := Lib.hid (show Blk w5 (w.heap.size + 3) _ _ from (ho5 (w.heap.size + 3) (by omega)).trans B4.out)
        have M5 := Lib.hid (B5.out.trans (hb5 _ (by omega)))
        have M2 := Lib.hid hk5
        have g0 := hk5.cell 0
        have gf := hk5.frozen 0
        simp only [List.getElem?_toArray, List.getElem?_cons_zero] at g0
        clear hk5 hb5 ho5 d0 d1
        have N2 := Lib.hid (M2.out.set 0 (.int .u64 (X : Int)))
        have N1 := Lib.hid (M1.out.far (p := ⟨w.heap.size + 1, 0, none⟩) (by simp) (.int .u64 (X : Int)))
        have N3 := Lib.hid (M3.out.far (p := ⟨w.heap.size + 1, 0, none⟩) (by simp) (.int .u64 (X : Int)))
        have N4 := Lib.hid (M4.out.far (p := ⟨w.heap.size + 1, 0, none⟩) (by simp) (.int .u64 (X : Int)))
        have N5 := Lib.hid (M5.out.setCell (p := ⟨w.heap.size + 1, 0, none⟩) (by simp) (.int .u64 (X : Int)))
        by_cases h127 : n < 127
        · have h127' : decide ((n : Int) + 1 < 128) = true := by rw [decide_eq_true_iff]; omega
          go_wp2_with fail
          refine wp_goto ⟨rfl, ⟨n + 1, by omega, N1.out, ?_, N3.out, ?_, N5.out, _, _, _, _, _, _, _, _, _, _, _, _, _, _, _, _, _, _, _, _, _, _, _, _, _, _, _, _, _, _, _, _, _, _, _, _, _, _, _, _, _, _, _, _, _, _, _, _, _, _, _, _, _, _, rfl⟩, ?_⟩
          · rw [xtn, ← HV.out, HPX.out]
            exact N2.out
          · rw [gmK, ← HO.out, ← HV.out, HBT.out, if_pos rfl]
            exact N4.out
          · show 128 - ((n : Int) + 1).toNat < 128 - ((n : Nat) : Int).toNat
            omega
        · have h127' : decide ((n : Int) + 1 < 128) = false := by rw [decide_eq_false_iff_not]; omega
          have hn127 : n = 127 := by omega
          have hgm : gm a b = o ^^^ v := by
            unfold gm
            have e : gmK a b (127 + 1) = gmK a b 127 ^^^ (if bt a 127 then xtn 127 b else 0) := by rw [gmK]
            rw [show (128 : Nat) = 127 + 1 from rfl]
            rw [e, ← hn127, ← HO.out, ← HV.out, HBT.out, if_pos rfl]
          have HGM := Lib.hid hgm
          obtain ⟨w6, hw6⟩ : ∃ x, x = w5.setCell ⟨w.heap.size + 1, 0, none⟩ (.int .u64 (X : Int)) := ⟨_, rfl⟩
          rw [← hw6] at N1 N2 N3 N4 N5
          have HW6 := Lib.hid hw6
          clear hn127 hgm hw6
          go_wp2_with (first
            | (rw [← HW6.out]; refine wpList_load_at rfl 54 (.tmp 5) rfl (w.heap.size + 3) rfl 54 (pr (o ^^^ v)) (0, 0) _ N4.out Try.underlying54 rfl (by kernel_rfl) ?_)
            | (refine wpList_store_blk rfl 54 (.tmp 4) (.tmp 60) rfl (w.heap.size + 2) (pr (o ^^^ v)) rfl rfl _ _ N3.out (by kernel_rfl) rfl rfl ?_))
          rintro w7 hk7 hb7 - -
          have JK := Lib.hid hk7
          have JD := Lib.hid (N5.out.trans (hb7 _ (by omega)))
          clear hk7 hb7
          go_wp2_with fail
          simp only [Exit.jump]
          exact bodyPost_ret (v := .agg (pr (o ^^^ v))) (results_row1 Try.results33 _ _ (w.heap.size + 2) _ _ _ rfl JK.out Try.underlying54 rfl (by kernel_rfl)) rfl ⟨by rw [HGM.out], JD.out⟩
      · have hbt : bt a n = false := by
          rw [← Bool.not_eq_true, ← hbit]; exact hm1
        have HBT := Lib.hid hbt
        have hm0 : m = 0 := by omega
        subst hm0
        clear hbt hbit hr hq hm hm1
        have hv0 := HVL.out
        unfold P128 at hv0
        have xh := xt_hi v
        have xl := xt_lo v
        obtain ⟨vh, hvh⟩ : ∃ x, x = v / 18446744073709551616 := ⟨_, rfl⟩
        obtain ⟨vl, hvl⟩ : ∃ x, x = v % 18446744073709551616 := ⟨_, rfl⟩
        rw [← hvh] at xh xl
        rw [← hvl] at xl
        have hpv : pr v = #[.int .u64 (vh : Int), .int .u64 (vl : Int)] := by unfold pr; rw [← hvh, ← hvl]
        have hvh64 : vh < 18446744073709551616 := by omega
        have hvl64 : vl < 18446744073709551616 := by omega
        obtain ⟨l, hl⟩ : ∃ x, x = vl % 2 := ⟨_, rfl⟩
        have hl2 : v % 2 = l := by omega
        have hll : l ≤ 1 := by omega
        rw [hl2] at xh
        have ha1 := and_one vl hvl64
        rw [← hl] at ha1
        obtain ⟨z, hz⟩ : ∃ x, x = vh / 2 := ⟨_, rfl⟩
        obtain ⟨u, hu⟩ : ∃ x, x = vl / 2 := ⟨_, rfl⟩
        have e1 : (vh : Int) / 2 = (z : Int) := by omega
        have e2 : (vl : Int) / 2 = (u : Int) := by omega
        have hor := or_top u (vh % 2) (by omega) (by omega)
        obtain ⟨T, hT⟩ : ∃ x, x = vh % 2 * 9223372036854775808 := ⟨_, rfl⟩
        rw [← hT] at hor
        rw [← hu, ← hT] at xl
        rw [← hz] at xh
        have hW2 : (vh : Int) * 9223372036854775808 % 18446744073709551616 = (T : Int) := by omega
        have hW : IntKind.u64.wrap ((vh : Int) * 9223372036854775808) = (T : Int) := by rw [IntKind.wrap_u64]; exact hW2
        obtain ⟨y, hy⟩ : ∃ x, x = u + T := ⟨_, rfl⟩
        rw [← hy] at hor xl
        have hx := u64_xor_nat z (l * 16212958658533785600) (by omega) (by omega)
        obtain ⟨X, hX⟩ : ∃ x, x = z ^^^ l * 16212958658533785600 := ⟨_, rfl⟩
        rw [← hX] at hx xh
        have hx' : bits .xor .u64 (z : Int) ((l : Int) * 225 * 72057594037927936) = (X : Int) := by
          rw [← hx, show (l : Int) * 225 * 72057594037927936 = ((l * 16212958658533785600 : Nat) : Int) by rw [Int.mul_assoc, Int.natCast_mul]; rfl]
        have hpx : pr (xt v) = #[.int .u64 (X : Int), .int .u64 (y : Int)] := by unfold pr; rw [xh, xl]
        have hz64 : z < 18446744073709551616 := by omega
        have hy64 : y < 18446744073709551616 := by omega
        have HPX := Lib.hid hpx
        have GV := Lib.hid (show Blk wx (w.heap.size + 1) 54 #[.int .u64 (vh : Int), .int .u64 (vl : Int)] by rw [← hpv]; exact J2.out)
        have d0 := GV.out.cell 0
        have d1 := GV.out.cell 1
        simp only [List.getElem?_toArray, List.getElem?_cons_zero, List.getElem?_cons_succ] at d0 d1
        clear hv0 hvh hvl hpv hl hl2 hz hu hT hy hX hx hpx xh xl
        go_wp2_with (refine wpList_store_blk rfl 54 (.tmp 3) (.tmp 48) rfl (w.heap.size + 1) #[.int .u64 (z : Int), .int .u64 (y : Int)] rfl rfl _ _ GV.out (by kernel_rfl) rfl rfl ?_)
        rintro w5 hk5 hb5 ho5 -
        have M1 := Lib.hid (show Blk w5 w.heap.size _ _ from (ho5 w.heap.size (by omega)).trans J1.out)
        have M3 := Lib.hid (show Blk w5 (w.heap.size + 2) _ _ from (ho5 (w.heap.size + 2) (by omega)).trans J3.out)
        have M4 := Lib.hid (show Blk w5 (w.heap.size + 3) _ _ from (ho5 (w.heap.size + 3) (by omega)).trans J4.out)
        have M5 := Lib.hid (J5.out.trans (hb5 _ (by omega)))
        have M2 := Lib.hid hk5
        have g0 := hk5.cell 0
        have gf := hk5.frozen 0
        simp only [List.getElem?_toArray, List.getElem?_cons_zero] at g0
        clear hk5 hb5 ho5 d0 d1
        have N2 := Lib.hid (M2.out.set 0 (.int .u64 (X : Int)))
        have N1 := Lib.hid (M1.out.far (p := ⟨w.heap.size + 1, 0, none⟩) (by simp) (.int .u64 (X : Int)))
        have N3 := Lib.hid (M3.out.far (p := ⟨w.heap.size + 1, 0, none⟩) (by simp) (.int .u64 (X : Int)))
        have N4 := Lib.hid (M4.out.far (p := ⟨w.heap.size + 1, 0, none⟩) (by simp) (.int .u64 (X : Int)))
        have N5 := Lib.hid (M5.out.setCell (p := ⟨w.heap.size + 1, 0, none⟩) (by simp) (.int .u64 (X : Int)))
        by_cases h127 : n < 127
        · have h127' : decide ((n : Int) + 1 < 128) = true := by rw [decide_eq_true_iff]; omega
          go_wp2_with fail
          refine wp_goto ⟨rfl, ⟨n + 1, by omega, N1.out, ?_, N3.out, ?_, N5.out, _, _, _, _, _, _, _, _, _, _, _, _, _, _, _, _, _, _, _, _, _, _, _, _, _, _, _, _, _, _, _, _, _, _, _, _, _, _, _, _, _, _, _, _, _, _, _, _, _, _, _, _, _, _, rfl⟩, ?_⟩
          · rw [xtn, ← HV.out, HPX.out]
            exact N2.out
          · rw [gmK, ← HO.out, ← HV.out, HBT.out, if_neg (by simp), Nat.xor_zero]
            exact N4.out
          · show 128 - ((n : Int) + 1).toNat < 128 - ((n : Nat) : Int).toNat
            omega
        · have h127' : decide ((n : Int) + 1 < 128) = false := by rw [decide_eq_false_iff_not]; omega
          have hn127 : n = 127 := by omega
          have hgm : gm a b = o := by
            unfold gm
            have e : gmK a b (127 + 1) = gmK a b 127 ^^^ (if bt a 127 then xtn 127 b else 0) := by rw [gmK]
            rw [show (128 : Nat) = 127 + 1 from rfl]
            rw [e, ← hn127, ← HO.out, ← HV.out, HBT.out, if_neg (by simp), Nat.xor_zero]
          have HGM := Lib.hid hgm
          obtain ⟨w6, hw6⟩ : ∃ x, x = w5.setCell ⟨w.heap.size + 1, 0, none⟩ (.int .u64 (X : Int)) := ⟨_, rfl⟩
          rw [← hw6] at N1 N2 N3 N4 N5
          have HW6 := Lib.hid hw6
          clear hn127 hgm hw6
          go_wp2_with (first
            | (rw [← HW6.out]; refine wpList_load_at rfl 54 (.tmp 5) rfl (w.heap.size + 3) rfl 54 (pr (o)) (0, 0) _ N4.out Try.underlying54 rfl (by kernel_rfl) ?_)
            | (refine wpList_store_blk rfl 54 (.tmp 4) (.tmp 60) rfl (w.heap.size + 2) (pr (o)) rfl rfl _ _ N3.out (by kernel_rfl) rfl rfl ?_))
          rintro w7 hk7 hb7 - -
          have JK := Lib.hid hk7
          have JD := Lib.hid (N5.out.trans (hb7 _ (by omega)))
          clear hk7 hb7
          go_wp2_with fail
          simp only [Exit.jump]
          exact bodyPost_ret (v := .agg (pr (o))) (results_row1 Try.results33 _ _ (w.heap.size + 2) _ _ _ rfl JK.out Try.underlying54 rfl (by kernel_rfl)) rfl ⟨by rw [HGM.out], JD.out⟩
  · intro pass
    have HP := Lib.hid pass
    clear pass
    go_wp2_with fail
    go_step3
    simp only [Exit.then]
    apply_assumption
    refine HP.out _ _ ⟨0, by omega, K1.out, K2.out, K3.out, by rw [gmK]; exact K4.out, K5.out, _, _, _, _, _, _, _, _, _, _, _, _, _, _, _, _, _, _, _, _, _, _, _, _, _, _, _, _, _, _, _, _, _, _, _, _, _, _, _, _, _, _, _, _, _, _, _, _, _, _, _, _, _, _, rfl⟩
end Go.Proofs.Ytfpjpakjlhidkaa
