/- Walks: scalar's reduce. -/
import Derived.Test.YtkihcngllhjabaaScOnce
import Derived.Test.YtkihcngllhjabaaJumps
import Derived.Laws.BitsAllLaws
namespace Go.Proofs.Ytkihcngllhjabaa
open Go.RowKit ScM
set_option linter.unusedVariables false
/-- words as values -/
def qvs (L : List Nat) : List Value := L.map fun n : Nat => .int .u64 (n : Int)
@[simp] theorem qvs_len (L : List Nat) : (qvs L).length = L.length := by simp [qvs]
theorem qvs_get {L : List Nat} {i x : Nat} (h : L[i]? = some x) : (qvs L)[i]? = some (.int .u64 (x : Int)) := by simp [qvs, h]
theorem qvs_snoc (L : List Nat) (d : Nat) : qvs (L ++ [d]) = qvs L ++ [.int .u64 (d : Int)] := by simp [qvs]
theorem qvs_set (L : List Nat) (k d : Nat) : qvs (L.set k d) = (qvs L).set k (.int .u64 (d : Int)) := by simp [qvs, List.map_set]
theorem Rd.get2 {w : World} {a : Option Addr} {n cap r : Nat} {xs : List Value} {u : Value} (h : Rd w (.slice a n cap) xs) (hu : xs[r]? = some u) : ∃ b off, a = some ⟨b, off, none⟩ ∧ b < w.heap.size ∧ w.cell? ⟨b, off + r, none⟩ = some u := by
  rcases h.lt with h0 | ⟨b, off, cap', e1, e2⟩
  · subst h0; simp at hu
  · obtain ⟨a', c', e, _, _, h3⟩ := h
    rcases h3 with ⟨h0, _⟩ | ⟨b', off', he, hc⟩
    · subst h0; simp at hu
    · simp only [Value.slice.injEq] at e e1
      obtain ⟨rfl, _, _⟩ := e
      obtain ⟨rfl, _, _⟩ := e1
      simp only [Option.some.injEq, Addr.mk.injEq, and_true] at he
      obtain ⟨rfl, rfl⟩ := he
      exact ⟨b, off, rfl, e2, hc r u hu⟩
theorem or_bit (z b : Nat) (hz : z % 2 = 0) (hb : b < 2) : z ||| b = z + b := by
  have h := Nat.shiftLeft_add_eq_or_of_lt (a := z / 2) (b := b) (i := 1) (by omega)
  rw [Nat.shiftLeft_eq, show z / 2 * 2 ^ 1 = z by omega] at h
  exact h.symm
theorem or_u64 (z b : Nat) (hz : z < 18446744073709551616) (hz2 : z % 2 = 0) (hb : b < 2) : bits .or .u64 (z : Int) (b : Int) = ((z + b : Nat) : Int) := by
  show IntKind.u64.wrap ((BitVec.ofInt 64 (z : Int) ||| BitVec.ofInt 64 (b : Int)).toNat : Int) = _
  rw [BitVec.toNat_or, BitVec.ofInt_natCast, BitVec.ofInt_natCast, BitVec.toNat_ofNat, BitVec.toNat_ofNat, Nat.mod_eq_of_lt hz, Nat.mod_eq_of_lt (show b < 2 ^ 64 by omega), or_bit z b hz2 hb, IntKind.wrap_u64]
  omega
theorem and_u64 (q : Nat) (hq : q < 18446744073709551616) : bits .and .u64 (q : Int) 1 = ((q % 2 : Nat) : Int) := by
  show IntKind.u64.wrap ((BitVec.ofInt 64 (q : Int) &&& BitVec.ofInt 64 ((1 : Nat) : Int)).toNat : Int) = _
  rw [BitVec.toNat_and, BitVec.ofInt_natCast, BitVec.ofInt_natCast, BitVec.toNat_ofNat, BitVec.toNat_ofNat, Nat.mod_eq_of_lt hq, Nat.mod_eq_of_lt (show 1 < 2 ^ 64 by omega), IntKind.wrap_u64]
  have := Nat.and_two_pow_sub_one_eq_mod q 1
  simp only [Nat.pow_one, Nat.reduceSub] at this
  rw [this]; omega
theorem w4_bit (x b : Nat) (hx : 2 * x < P256) (hb : b < 2) : (w4 (2 * x)).setIfInBounds 0 (.int .u64 ((wd (2 * x) 0 + b : Nat) : Int)) = w4 (2 * x + b) ∧ wd (2 * x) 0 % 2 = 0 := by
  have e0 : wd (2 * x) 0 + b = wd (2 * x + b) 0 := by simp only [wd]; omega
  have e1 : wd (2 * x) 1 = wd (2 * x + b) 1 := by simp only [wd]; omega
  have e2 : wd (2 * x) 2 = wd (2 * x + b) 2 := by simp only [wd]; omega
  have e3 : wd (2 * x) 3 = wd (2 * x + b) 3 := by simp only [wd]; omega
  refine ⟨?_, by simp only [wd]; omega⟩
  rw [e0]
  have r : w4 (2 * x + b) = #[u6 (wd (2 * x + b) 0), u6 (wd (2 * x + b) 1), u6 (wd (2 * x + b) 2), u6 (wd (2 * x + b) 3)] := rfl
  rw [r, ← e1, ← e2, ← e3]
  rfl
def RedJ (a : Option Addr) (n cap V : Nat) (w : World) (a' : Act) (w' : World) : Prop :=
  ∃ (k : Nat), k ≤ 64 * n ∧ Blk w' w.heap.size 27 #[.int .u64 0, .int .u64 0, .int .u64 0, .int .u64 0] ∧ Blk w' (w.heap.size + 1) 25 (w4 (V / 2 ^ k % L)) ∧ Below w.heap.size w w' ∧
    ∃ (x1 x5 x6 x7 x8 x9 x10 x11 x12 x13 x14 x15 x16 x17 x18 x19 x20 x21 x22 x23 x24 x25 x26 x27 x28 x29 x30 x31 x32 x33 x34 : Value), a' = { tmps := #[.slice a n cap, x1, .pointer (some ⟨w.heap.size, 0, none⟩), .pointer (some ⟨w.heap.size + 1, 0, none⟩), .int .i64 (k : Nat), x5, x6, x7, x8, x9, x10, x11, x12, x13, x14, x15, x16, x17, x18, x19, x20, x21, x22, x23, x24, x25, x26, x27, x28, x29, x30, x31, x32, x33, x34], defers := [] }
set_option maxRecDepth 100000 in
set_option maxHeartbeats 4000000 in
theorem sreduce_any (v : Value) (W : List Nat) (w : World) (h : Rd w v (qvs W)) (hW : Wds W) (hl : W.length ≤ 16) :
    Calls Try.prog 62 #[v] w fun e w' => e = .returned (.agg (w4 (wv W % L))) ∧ Below w.heap.size w w' := by
  obtain ⟨n, hn⟩ : ∃ n, n = W.length := ⟨_, rfl⟩
  have hv : ∃ a c, v = .slice a n c := by obtain ⟨a, c, e, _⟩ := h; exact ⟨a, c, by rw [e, qvs_len, hn]⟩
  obtain ⟨a, cap, rfl⟩ := hv
  have hn16 : n ≤ 16 := by omega
  obtain ⟨V, hV⟩ : ∃ V, V = wv W := ⟨_, rfl⟩
  have C : ∀ (j : Nat) (wr : World), j < 64 * n → Below w.heap.size w wr → ∃ b off y, a = some ⟨b, off, none⟩ ∧ y < 18446744073709551616 ∧ y / 2 ^ (j % 64) % 2 = V / 2 ^ j % 2 ∧ wr.cell? ⟨b, off + j / 64, none⟩ = some (.int .u64 (y : Nat)) := by
    intro j wr hj hb
    have hjl : j / 64 < W.length := by omega
    obtain ⟨y, hy⟩ : ∃ y, W[j / 64]? = some y := ⟨_, List.getElem?_eq_getElem hjl⟩
    obtain ⟨b, off, e1, e2, e3⟩ := (h.below hb (Nat.le_refl _)).get2 (qvs_get hy)
    exact ⟨b, off, y, e1, hW y (List.mem_of_getElem? hy), by rw [hV]; exact wv_bit hW j y hy, e3⟩
  have h0 : V / 2 ^ (64 * n) % L = 0 := by
    have := wv_lt hW
    rw [show (18446744073709551616 : Nat) = 2 ^ 64 by decide, ← Nat.pow_mul, ← hn, ← hV] at this
    rw [Nat.div_eq_of_lt this]
    rfl
  rw [← hV]
  have HC := Lib.hid C
  have HON := Lib.hid (fun (x : Nat) (hx : x < 2 * L) (w : World) => sonce_any x w hx)
  have HAD := Lib.hid (fun (x : Nat) (hx : x < P256) (w : World) => sadd_any x x w hx hx)
  obtain ⟨k1, k2, k3⟩ := blk2 w #[.int .u64 0, .int .u64 0, .int .u64 0, .int .u64 0] #[.int .u64 0, .int .u64 0, .int .u64 0, .int .u64 0] 27 25
  have hz : w4 (V / 2 ^ (64 * n) % L) = #[.int .u64 0, .int .u64 0, .int .u64 0, .int .u64 0] := by rw [h0]; kernel_rfl
  have K1 := Lib.hid k1
  have K2 := Lib.hid k2
  have K3 := Lib.hid k3
  have HZ := Lib.hid hz
  clear k1 k2 k3 hz C h hW hl hn hV h0
  go_enter Try.func62, Try.ntmps62
  go_wp2_with fail
  refine wp_scope_label' 0 (RedJ a n cap V w) (fun ac _ => (intOf (ac.tmps.getD 4 undef)).toNat) rfl ?_ ?_
  · rintro ac wx ⟨k, hk, k1, k2, k3, hf⟩
    iterate 31 (obtain ⟨_, hf⟩ := hf)
    subst hf
    have J1 := Lib.hid k1
    have J2 := Lib.hid k2
    have J3 := Lib.hid k3
    clear k1 k2 k3
    by_cases h0 : k = 0
    · subst h0
      have e0 : V / 2 ^ 0 % L = V % L := by rw [Nat.pow_zero, Nat.div_one]
      obtain ⟨r, hr⟩ : ∃ r, r = V / 2 ^ 0 % L := ⟨_, rfl⟩
      rw [← hr] at J2
      rw [e0] at hr
      have HR0 := Lib.hid hr
      clear hr e0
      go_wp2_with (first
        | (refine wpList_load_at rfl 25 (.tmp 3) rfl (w.heap.size + 1) rfl 25 (w4 r) (0, 0) _ J2.out Try.underlying25 rfl (by kernel_rfl) ?_)
        | (refine wpList_bld rfl 27 #[(0, .tmp 33)] rfl (w4 r) (by kernel_rfl) ?_)
        | (refine wpList_store_blk rfl 27 (.tmp 2) (.tmp 34) rfl w.heap.size (w4 r) rfl rfl _ _ J1.out (by kernel_rfl) rfl rfl ?_))
      rintro w2 hk2 hb2 - -
      have JK := Lib.hid hk2
      have JD := Lib.hid (J3.out.trans (hb2 _ (Nat.le_refl _)))
      clear hk2 hb2
      go_wp2_with fail
      simp only [Exit.jump]
      exact bodyPost_ret (v := .agg (w4 r)) (results_row1 Try.results62 _ _ w.heap.size _ _ _ rfl JK.out Try.underlying27 rfl (by kernel_rfl)) rfl ⟨by first | rfl | rw [HR0.out], JD.out⟩
    · obtain ⟨j, rfl⟩ : ∃ j, k = j + 1 := ⟨k - 1, by omega⟩
      have ej : ((j + 1 : Nat) : Int) - 1 = (j : Int) := by omega
      have hrem := rem_bit V j
      obtain ⟨x, hx⟩ : ∃ x, x = V / 2 ^ (j + 1) % L := ⟨_, rfl⟩
      have hxL : x < L := by rw [hx]; exact Nat.mod_lt _ (by decide)
      rw [← hx] at J2 hrem
      have hxP : x < P256 := Nat.lt_trans hxL L_lt
      have hx2 : 2 * x < P256 := by unfold L at hxL; unfold P256; omega
      have AD := fun w => HAD.out x hxP w
      have esm : sm x x = 2 * x := by unfold sm; unfold P256 at hx2; omega
      rw [esm] at AD
      obtain ⟨cr, hcr⟩ : ∃ c, c = car x x 4 := ⟨_, rfl⟩
      rw [← hcr] at AD
      obtain ⟨X2, hX2⟩ : ∃ y, y = w4 (2 * x) := ⟨_, rfl⟩
      have HADD : Hid (∀ w, Calls Try.prog 65 #[.agg (w4 x), .agg (w4 x)] w fun e w' => e = .returned (.tuple #[.agg (w4 (2 * x)), .int .u64 (cr : Nat)]) ∧ Below w.heap.size w w') := Lib.hid AD
      have HREM := Lib.hid hrem
      have HXL := Lib.hid hxL
      have HX2 := Lib.hid hx2
      clear hx hxL hxP hx2 AD esm hcr hrem hX2 h0
      go_wp2_with (first
        | (refine wpList_load_at rfl 25 (.tmp 3) rfl (w.heap.size + 1) rfl 25 (w4 x) (0, 0) _ J2.out Try.underlying25 rfl (by kernel_rfl) ?_))
      refine (HADD.out _).mono ?_
      rintro e w3 ⟨rfl, hb3⟩
      have M1 := Lib.hid (J1.out.below hb3 J1.out.lt)
      have M2 := Lib.hid (J2.out.below hb3 J2.out.lt)
      have M3 := Lib.hid (J3.out.trans (hb3.mono J3.out.size))
      clear hb3
      go_wp2_with (refine wpList_store_blk rfl 25 (.tmp 3) (.tmp 16) rfl (w.heap.size + 1) (w4 (2 * x)) rfl rfl _ _ M2.out (by kernel_rfl) rfl rfl ?_)
      rintro w4' hk4 hb4 ho4 -
      have N1 := Lib.hid (show Blk w4' w.heap.size _ _ from (ho4 w.heap.size (by omega)).trans M1.out)
      have N2 := Lib.hid hk4
      have N3 := Lib.hid (M3.out.trans (hb4 _ (by omega)))
      obtain ⟨b, off, y, rfl, hy, hbit, hcell⟩ := HC.out j w4' (by omega) N3.out
      obtain ⟨m, hm⟩ : ∃ m, m = j / 64 := ⟨_, rfl⟩
      obtain ⟨r, hr⟩ : ∃ r, r = j % 64 := ⟨_, rfl⟩
      rw [← hm] at hcell
      rw [← hr] at hbit
      have em : (j : Int) / 64 = (m : Int) := by omega
      have er : (j : Int) % 64 = (r : Int) := by omega
      have hmn : m < n := by omega
      have hr64 : r < 64 := by omega
      obtain ⟨q, hq⟩ : ∃ q, q = y / 2 ^ r := ⟨_, rfl⟩
      have hqy : q ≤ y := by rw [hq]; exact Nat.div_le_self _ _
      have eq1 : (y : Int) / 2 ^ r = (q : Int) := by rw [hq]; simp
      rw [← hq] at hbit
      have ha := and_u64 q (by omega)
      obtain ⟨bt, hbt⟩ : ∃ b, b = q % 2 := ⟨_, rfl⟩
      rw [← hbt] at ha hbit
      have hb2 : bt < 2 := by omega
      obtain ⟨hw1, hw2⟩ := w4_bit x bt HX2.out hb2
      have ho := or_u64 (wd (2 * x) 0) bt (wd_lt _ _) hw2 hb2
      have c0 := N2.out.cell 0
      rw [w4_get (by omega)] at c0
      have f0 := N2.out.frozen 0
      obtain ⟨z, hz⟩ : ∃ z, z = wd (2 * x) 0 := ⟨_, rfl⟩
      rw [← hz] at ho c0 hw1
      have HW1 := Lib.hid hw1
      have HBIT := Lib.hid hbit
      have HB2 := Lib.hid hb2
      have hw41 : w.heap.size + 1 < w4'.heap.size := N2.out.lt
      clear hk4 hb4 ho4 hm hr hq hbt hw1 hw2 hz hbit hb2
      go_wp2_with fail
      go_region
      have hset := N2.out.set 0 (.int .u64 ((z + bt : Nat) : Int))
      rw [HW1.out] at hset
      have O1 := N1.out.far (p := ⟨w.heap.size + 1, 0, none⟩) (by simp) (.int .u64 ((z + bt : Nat) : Int))
      have O3 := N3.out.setCell (p := ⟨w.heap.size + 1, 0, none⟩) (by simp) (.int .u64 ((z + bt : Nat) : Int))
      obtain ⟨W5, hW5⟩ : ∃ W5, W5 = w4'.setCell ⟨w.heap.size + 1, 0, none⟩ (.int .u64 ((z + bt : Nat) : Int)) := ⟨_, rfl⟩
      rw [← hW5] at hset O1 O3
      have P1 := Lib.hid O1
      have P2 := Lib.hid hset
      have P3 := Lib.hid O3
      have ON := fun w => HON.out (2 * x + bt) (by have := HXL.out; have := HB2.out; omega) w
      have hrem := HREM.out
      rw [← HBIT.out] at hrem
      obtain ⟨u, hu⟩ : ∃ u, u = (2 * x + bt) % L := ⟨_, rfl⟩
      rw [← hu] at ON hrem
      have HO2 := Lib.hid ON
      have HREM2 := Lib.hid hrem
      clear O1 hset O3 ON hrem hu
      have ezb : ((z + bt : Nat) : Int) = (z : Int) + (bt : Int) := by omega
      rw [ezb] at hW5
      rw [← hW5]
      clear hW5 ezb
      go_wp2_with (first
        | (refine wpList_load_at rfl 25 (.tmp 3) rfl (w.heap.size + 1) rfl 25 (w4 (2 * x + bt)) (0, 0) _ (P2.out.drewN 1) Try.underlying25 rfl (by kernel_rfl) ?_))
      refine (HO2.out _).mono ?_
      rintro e w6 ⟨rfl, hb6⟩
      have Q1 := Lib.hid ((P1.out.drewN 1).below hb6 P1.out.lt)
      have Q2 := Lib.hid ((P2.out.drewN 1).below hb6 P2.out.lt)
      have Q3 := Lib.hid ((below_drewN' P3.out 1).trans (hb6.mono P3.out.size))
      clear hb6
      go_wp2_with (refine wpList_store_blk rfl 25 (.tmp 3) (.tmp 32) rfl (w.heap.size + 1) (w4 u) rfl rfl _ _ Q2.out (by kernel_rfl) rfl rfl ?_)
      rintro w7 hk7 hb7 ho7 -
      have R1 := Lib.hid (show Blk w7 w.heap.size _ _ from (ho7 w.heap.size (by omega)).trans Q1.out)
      have R3 := Lib.hid (Q3.out.trans (hb7 _ (by omega)))
      have R2 := Lib.hid hk7
      clear hk7 hb7 ho7
      go_wp2_with fail
      refine wp_goto ⟨rfl, ⟨j, by omega, R1.out, by rw [← HREM2.out]; exact R2.out, R3.out, _, _, _, _, _, _, _, _, _, _, _, _, _, _, _, _, _, _, _, _, _, _, _, _, _, _, _, _, _, _, _, rfl⟩, ?_⟩
      show (j : Int).toNat < ((j + 1 : Nat) : Int).toNat
      omega
  · intro pass
    have HP := Lib.hid pass
    clear pass
    go_wp2_with fail
    go_step3
    simp only [Exit.then]
    apply_assumption
    have ek : 64 * (n : Int) = ((64 * n : Nat) : Int) := by omega
    rw [ek]
    refine HP.out _ _ ⟨64 * n, Nat.le_refl _, K1.out, by rw [HZ.out]; exact K2.out, K3.out, _, _, _, _, _, _, _, _, _, _, _, _, _, _, _, _, _, _, _, _, _, _, _, _, _, _, _, _, _, _, _, rfl⟩
end Go.Proofs.Ytkihcngllhjabaa
