/- Walks: gcm's masked. -/
import Derived.Test.YtfpjpakjlhidkaaGcmMsk
import Derived.Test.YtfpjpakjlhidkaaOnceLast
import Derived.Test.YtfpjpakjlhidkaaAesInj
namespace Go.Proofs.Ytfpjpakjlhidkaa
open Go.RowKit Go.Shelf AesM GcmM GcmB
attribute [local go_sem] Oper.semAt_some
set_option linter.unusedVariables false
def MskI (w : World) (nb : Nat) (v1 v2 : Value) (K N T : List Nat) (a : Option Addr) (len cap : Nat) (pre : List (Off len)) (W : World) : Prop :=
  (Blk W w.heap.size 28 #[v1] ∧ Blk W (w.heap.size + 1) 28 #[v2] ∧ Blk W nb 64 #[.int .u32 ((pre.length + 1 : Nat) : Int)] ∧ Own W (w.heap.size + 2) 5 (.slice a len cap) (bvs (foldM K N T pre).1)) ∧ Below w.heap.size w W ∧ nb + 3 ≤ W.heap.size
theorem mskI_own (w : World) (nb : Nat) (v1 v2 : Value) (K N T : List Nat) (a : Option Addr) (len cap B : Nat) (hB : w.heap.size ≤ B) : OwnFrom B (MskI w nb v1 v2 K N T a len cap) :=
  OwnFrom.and (Own.from (fun s A B row hs hg hr => ⟨blk_kept hs.1 hg hr, blk_kept hs.2.1 hg hr, blk_kept hs.2.2.1 hg hr, own_kept hs.2.2.2 hg hr⟩) _) (OwnFrom.and (ownFrom_below (Nat.le_refl _) hB) (fun s A C row hs hg hr => Nat.le_trans hs hg.size))
set_option maxRecDepth 100000 in
set_option maxHeartbeats 8000000 in
theorem masked_any (v1 v2 v3 : Value) (K N T : List Nat) (w : World) (h1 : Rd w v1 (bvs K)) (h2 : Rd w v2 (bvs N)) (h3 : Rd w v3 (bvs T)) (hK : ∀ x ∈ K, x < 256) (hN : ∀ x ∈ N, x < 256) (hT : ∀ x ∈ T, x < 256) (lk : K.length = 16) (ln : N.length = 12) (lt : T.length ≤ 100000) :
    Calls Try.prog 37 #[v1, v2, v3] w fun e w' => ∃ u, e = .returned u ∧ Own w' w.heap.size 5 u (bvs (maskF K N T)) ∧ Below w.heap.size w w' := by
  have hv1 : ∃ a b c, v1 = .slice a b c := by obtain ⟨a, c, e, _⟩ := h1; exact ⟨a, _, c, e⟩
  have hv2 : ∃ a b c, v2 = .slice a b c := by obtain ⟨a, c, e, _⟩ := h2; exact ⟨a, _, c, e⟩
  have hv3 : ∃ a b c, v3 = .slice a b c := by obtain ⟨a, c, e, _⟩ := h3; exact ⟨a, _, c, e⟩
  have MA := fun (n : Nat) (W : World) (hn : n < 4294967296) (hb : Below w.heap.size w W) => gmask_any v1 v2 K N n W (h1.below hb (Nat.le_refl _)) (h2.below hb (Nat.le_refl _)) hK hN lk ln hn
  have CL := fun (W : World) (hb : Below w.heap.size w W) => clone_any v3 T W (h3.below hb (Nat.le_refl _)) (by omega)
  obtain ⟨a1, b1, c1, rfl⟩ := hv1
  obtain ⟨a2, b2, c2, rfl⟩ := hv2
  obtain ⟨a3, b3, c3, rfl⟩ := hv3
  obtain ⟨k1, k2, k3⟩ := blk2 w #[.slice a1 b1 c1] #[.slice a2 b2 c2] 28 28
  have e2 : ((w.alloc (.cells #[.slice a1 b1 c1] 28)).alloc (.cells #[.slice a2 b2 c2] 28)).heap.size = w.heap.size + 2 := by simp
  have CL0 := CL _ k3
  rw [e2] at CL0
  have HCL := Lib.hid CL0
  have HMA := Lib.hid MA
  have K1 := Lib.hid k1
  have K2 := Lib.hid k2
  have K3 := Lib.hid k3
  have HE2 := Lib.hid e2
  clear CL CL0 MA k1 k2 k3 e2 h1 h2 h3
  refine (callsIn_wide (n := 3)).1 ?_
  refine callsIn_of_wp_marks Try.func37 rfl trivial ?_ rfl
  simp only [Try.ntmps37, List.size_toArray, List.length_cons, List.length_nil, Nat.reduceAdd, Nat.reduceSub, Array.replicate_succ, Array.replicate_zero, List.push_toArray, List.append_toArray, List.nil_append, List.cons_append]
  refine wpIn_wide.2 ?_
  go_wp2_with fail
  refine (HCL.out).mono ?_
  rintro e w1 ⟨v4, rfl, hown, hb⟩
  have hav : ∃ a cap, v4 = .slice a T.length cap ∧ T.length ≤ cap ∧ cap ≤ maxLen := by
    obtain ⟨a, c, e, h1, h2, _⟩ := hown.rd
    exact ⟨a, c, by rw [e, bvs_len], by rw [bvs_len] at h1; exact h1, h2⟩
  obtain ⟨a, cap, rfl, hlc, hcm⟩ := hav
  have hsome : ∃ g, 0 < T.length → a = some ⟨g, 0, none⟩ := by
    rcases hown.form with h | ⟨g, c, h⟩
    · simp only [Value.slice.injEq] at h
      exact ⟨0, fun hp => by omega⟩
    · simp only [Value.slice.injEq] at h
      exact ⟨g, fun _ => h.1⟩
  obtain ⟨g, hg⟩ := hsome
  have J1 := Lib.hid (K1.out.below hb (by omega))
  have J2 := Lib.hid (K2.out.below hb (by omega))
  have hsz1 : w.heap.size + 2 ≤ w1.heap.size := by have := hb.size; rw [HE2.out] at this; exact this
  have JB := Lib.hid (K3.out.trans (hb.mono (by omega)))
  obtain ⟨len, hlen⟩ : ∃ n, n = T.length := ⟨_, rfl⟩
  rw [← hlen] at hlc hg lt hown ⊢
  have hgl : 0 < len → w.heap.size + 2 ≤ g ∧ g < w1.heap.size := by
    intro hp
    have e := hg hp
    subst e
    obtain ⟨g', c', cur, e', h1, h2, _⟩ := hown.out (by intro e; have h0 : (bvs T).length = 0 := by rw [e]; rfl
                                                        rw [bvs_len] at h0; omega)
    simp only [Value.slice.injEq, Option.some.injEq, Addr.mk.injEq, and_true] at e'
    obtain ⟨rfl, _⟩ := e'
    exact ⟨h1, h2⟩
  have HO := Lib.hid hown
  have HL := Lib.hid hlen
  have HG := Lib.hid hg
  clear hown hb hg hlen
  go_wp2_with fail
  refine (chunk_any a len cap _).mono ?_
  rintro e w' ⟨rfl, rfl⟩
  have ez : (w1.alloc (.cells #[.int .u32 1] 64)).heap.size = w1.heap.size + 1 := by simp
  have n1 := Blk.new w1 64 #[.int .u32 1]
  have n2 := Blk.new (w1.alloc (.cells #[.int .u32 1] 64)) 28 #[.slice a len cap]
  have n3 := Blk.new ((w1.alloc (.cells #[.int .u32 1] 64)).alloc (.cells #[.slice a len cap] 28)) 3 #[.int .i64 16]
  have ez2 : ((w1.alloc (.cells #[.int .u32 1] 64)).alloc (.cells #[.slice a len cap] 28)).heap.size = w1.heap.size + 1 + 1 := by simp
  rw [ez] at n2
  rw [ez2] at n3
  rw [ez]
  have hb0 := (((Below.refl w1.heap.size w1).alloc (Nat.le_refl _) (.cells #[.int .u32 1] 64)).alloc (by simp) (.cells #[.slice a len cap] 28)).alloc (by simp; omega) (.cells #[.int .i64 16] 3)
  have m1 := (n1.alloc (.cells #[.slice a len cap] 28)).alloc (.cells #[.int .i64 16] 3)
  have m2 := n2.alloc (.cells #[.int .i64 16] 3)
  have hsz0 : (((w1.alloc (.cells #[.int .u32 1] 64)).alloc (.cells #[.slice a len cap] 28)).alloc (.cells #[.int .i64 16] 3)).heap.size = w1.heap.size + 3 := by simp
  obtain ⟨W0, hW0⟩ : ∃ W0, W0 = ((w1.alloc (.cells #[.int .u32 1] 64)).alloc (.cells #[.slice a len cap] 28)).alloc (.cells #[.int .i64 16] 3) := ⟨_, rfl⟩
  rw [← hW0] at hb0 m1 m2 n3 hsz0
  rw [← hW0]
  obtain ⟨nb, hnb⟩ : ∃ nb, nb = w1.heap.size := ⟨_, rfl⟩
  rw [← hnb] at hb0 m1 m2 n3 hsz0 hgl
  rw [← hnb]
  have I1 := Lib.hid (J1.out.below hb0 (by rw [hnb]; exact J1.out.lt))
  have I2 := Lib.hid (J2.out.below hb0 (by rw [hnb]; exact J2.out.lt))
  have I3 := Lib.hid (HO.out.below hb0 (by rw [hnb]; exact Nat.le_refl _))
  have IB := Lib.hid (JB.out.trans (hb0.mono (by rw [hnb]; exact JB.out.size)))
  have M1 := Lib.hid m1
  have M2 := Lib.hid m2
  have M3 := Lib.hid n3
  have hnbw : w.heap.size + 2 ≤ nb := by rw [hnb]; exact hsz1
  clear ez n1 n2 ez2 hb0 m1 m2 n3 hW0 hnb hsz1
  go_wp2_with fail
  refine (wpIn_wide (n := 3)).1 ?_
  refine wpIn_rangeFunc_ownG (F := Fence.wide) (n := 3) (w := W0) rfl (by omega) (gf := 48) (lb := #[.pointer (some ⟨nb + 1, 0, none⟩), .pointer (some ⟨nb + 1 + 1, 0, none⟩)]) rfl trivial (enters_of Try.func48 (by kernel_rfl) rfl)
    (chunk_stops 2 a (nb + 1) g 0 len cap HG.out hlc hcm (by omega) W0 M2.out M3.out) kpB_t (kpB_b (by omega)) (Below.refl _ _) (fun _ => rfl)
    (MskI w nb (.slice a1 b1 c1) (.slice a2 b2 c2) K N T a len cap) (fun _ _ _ => False) (mskI_own _ _ _ _ _ _ _ _ _ _ _ (by omega)) (fun _ _ _ _ _ hs _ _ => hs)
    ⟨⟨I1.out, I2.out, M1.out, I3.out⟩, IB.out, by rw [hsz0]; exact Nat.le_refl _⟩
    (fun x : Off len => { tmps := #[.slice a1 b1 c1, .slice a2 b2 c2, .slice a3 b3 c3, .pointer (some ⟨w.heap.size, 0, none⟩), .pointer (some ⟨w.heap.size + 1, 0, none⟩), undef, .slice none 0 0, .slice a len cap, .pointer (some ⟨nb, 0, none⟩), .slice (some ⟨g, x.1, none⟩) (min 16 (len - x.1)) (min 16 (len - x.1)), undef, undef, .slice a3 b3 c3, .slice a len cap, .slice a len cap, .func (.func 48) #[] #[.pointer (some ⟨nb + 1, 0, none⟩), .pointer (some ⟨nb + 1 + 1, 0, none⟩)], .slice (some ⟨g, x.1, none⟩) (min 16 (len - x.1)) (min 16 (len - x.1)), undef, undef, undef, undef, undef, undef, undef, undef, undef, undef, undef, undef, undef, undef, undef, undef, undef, undef, undef, undef, undef, undef, undef], defers := [] }) ?assign ?body ?done ?stop
  case assign =>
    intro l x W K hK
    simp only [encC, Nat.zero_add]
    gi_wp2
    exact hK
  case body =>
    rintro l pre x W ⟨⟨k1, k2, k3, hown⟩, hB, hB0⟩ hpl
    have q1 := k1.cell 0
    have q2 := k2.cell 0
    have q3 := k3.cell 0
    have q4 := k3.frozen 0
    simp only [List.getElem?_toArray, List.getElem?_cons_zero] at q1 q2 q3
    have hct : pre.length + 2 < 100000 := by omega
    have ec : ((pre.length + 1 : Nat) : Int) + 1 = ((pre.length + 2 : Nat) : Int) := by omega
    obtain ⟨ct, hct'⟩ : ∃ c, c = pre.length + 2 := ⟨_, rfl⟩
    rw [← hct'] at ec hct
    obtain ⟨c0, hc0⟩ : ∃ c, c = pre.length + 1 := ⟨_, rfl⟩
    rw [← hc0] at q3 ec
    have HCT := Lib.hid hct'
    have HC0 := Lib.hid hc0
    have D1 := Lib.hid (k1.far (p := ⟨nb, 0, none⟩) (by simp only []; omega) (.int .u32 (ct : Nat)))
    have D2 := Lib.hid (k2.far (p := ⟨nb, 0, none⟩) (by simp only []; omega) (.int .u32 (ct : Nat)))
    have D3 := Lib.hid (k3.set 0 (.int .u32 (ct : Nat)))
    have DB := Lib.hid (hB.setCell (p := ⟨nb, 0, none⟩) (by simp only []; omega) (.int .u32 (ct : Nat)))
    have HOW := Lib.hid hown
    clear hct' hc0 k1 k2 k3 hown hB
    gi_wp2
    refine ⟨trivial, (CallsIn.inRound l (callsIn_wide.2 (HMA.out ct _ (by omega) DB.out))).mono ?_⟩
    rintro e w5 ⟨u, rfl, hu, hb5⟩
    obtain ⟨p, hpx⟩ := x
    obtain ⟨hg1, hg2⟩ := hgl (by omega)
    obtain rfl := HG.out (by omega)
    obtain ⟨m, hm⟩ : ∃ m, m = min 16 (len - p) := ⟨_, rfl⟩
    obtain ⟨M, hM⟩ : ∃ M, M = blk K (N ++ beN 4 ct) := ⟨_, rfl⟩
    obtain ⟨hM1, hM2⟩ := blk_lt hK lk (M := N ++ beN 4 ct) (by
      intro y hy
      rcases List.mem_append.1 hy with hy | hy
      · exact hN y hy
      · exact beN_lt _ _ y hy) (by rw [List.length_append, ln, beN_len])
    rw [← hM] at hu hM1 hM2
    dsimp only
    rw [← hm]
    obtain ⟨h, c, rfl⟩ : ∃ h c, u = .slice (some ⟨h, 0, none⟩) 16 c := by
      rcases hu.form with e | ⟨h, c, e⟩
      · exfalso
        have := hu.rd
        obtain ⟨a', c', e', _⟩ := this
        rw [e] at e'
        simp only [Value.slice.injEq] at e'
        have := e'.2.1
        rw [bvs_len, hM1] at this
        cases this
      · exact ⟨h, c, by rw [e, bvs_len, hM1]⟩
    obtain ⟨L, hL⟩ : ∃ L, L = (foldM K N T pre).1 := ⟨_, rfl⟩
    obtain ⟨B5, hB5⟩ : ∃ B5, B5 = (W.setCell ⟨nb, 0, none⟩ (.int .u32 (ct : Nat))).heap.size := ⟨_, rfl⟩
    have hwz : nb + 3 ≤ B5 := by rw [hB5, World.size_setCell]; exact hB0
    have hh : nb + 3 ≤ h := by
      obtain ⟨g', c', cur, e', h1, h2, _⟩ := hu.out (by intro e; have h0 : (bvs M).length = 0 := by rw [e]; rfl
                                                        rw [bvs_len] at h0; omega)
      simp only [Value.slice.injEq, Option.some.injEq, Addr.mk.injEq, and_true] at e'
      obtain ⟨rfl, _⟩ := e'
      omega
    have hLl : L.length = len := by rw [hL, foldM_len]; exact HL.out.symm
    have hLt : ∀ n ∈ L, n < 256 := by rw [hL]; exact foldM_lt hT (fun n => (blk_lt hK lk (M := N ++ beN 4 n) (by
      intro y hy
      rcases List.mem_append.1 hy with hy | hy
      · exact hN y hy
      · exact beN_lt _ _ y hy) (by rw [List.length_append, ln, beN_len])).2) pre
    have st0 : InI w W nb (.slice a1 b1 c1) (.slice a2 b2 c2) ct g p len cap h c B5 L M 0 w5 := by
      rw [← hB5] at hu hb5
      exact ⟨D1.out.below hb5 (by rw [hB5]; exact D1.out.lt), D2.out.below hb5 (by rw [hB5]; exact D2.out.lt), by
        have := D3.out.below hb5 (by rw [hB5]; exact D3.out.lt)
        simpa using this, by
        rw [xorAt_zero, hL]
        exact (HOW.out.setOther (by simp only [Value.ownBlock, ne_eq, Option.some.injEq]; omega) _).below hb5 (by rw [hB5]; exact Nat.le_refl _), hu, DB.out.trans (hb5.mono (by rw [hB5]; exact DB.out.size)), ((KeepsOthers.setCell _ _ _).from _).trans (keepsFrom_below (by rw [← hB5]; exact hb5)), kpB_t (kpB_set _ _ _ (by simp only []; omega) (by simp only []; omega)) (kpB_below hb5 (by omega)), Nat.le_trans hwz (by rw [hB5]; exact hb5.size)⟩
    have ST0 := Lib.hid st0
    have HMI := Lib.hid hM
    have HLI := Lib.hid hL
    have HMm := Lib.hid hm
    clear hM hL hm st0 hu hb5 hB5
    gi_wp2
    gi_loopw [25] (fun iv wr => ∃ i : Nat, i ≤ m ∧ iv = .int .i64 (i : Nat) ∧ InI w W nb (.slice a1 b1 c1) (.slice a2 b2 c2) ct g p len cap h c B5 L M i wr) (fun iv _ => m - (intOf iv).toNat)
    case atStart => exact ⟨0, by omega, rfl, ST0.out⟩
    case round =>
      obtain ⟨i, hi, rfl, S⟩ := hrel
      by_cases hlt : i < m
      · have hlt' : decide ((i : Int) < (m : Int)) = true := by rw [decide_eq_true_iff]; omega
        obtain ⟨y, hy⟩ : ∃ y, y = L.getD (p + i) 0 := ⟨_, rfl⟩
        obtain ⟨z, hz⟩ : ∃ z, z = M.getD i 0 := ⟨_, rfl⟩
        have hpi : p + i < L.length := by have := HMm.out; omega
        have y1 : y < 256 := by rw [hy]; exact getD_lt hLt (by omega) _
        have z1 : z < 256 := by rw [hz]; exact getD_lt hM2 (by omega) _
        have hxz := u8_xor_nat y z y1 z1
        have qc1 := S.own.at.1 (p + i) (.int .u8 (y : Nat)) (by rw [bvs_getD (by rw [xorAt_len]; exact hpi), xorAt_old hpi, hy])
        have qc2 := S.ownM.at.1 i (.int .u8 (z : Nat)) (by rw [bvs_getD (by have := HMm.out; omega), hz])
        have qc3 := S.own.at.2 (p + i)
        have hpm : p + i < 100000 := by omega
        have hmm : m ≤ 16 := by have := HMm.out; omega
        have hi16 : i < 16 := by omega
        have hpI : ((p : Nat) : Int) + (i : Int) = ((p + i : Nat) : Int) := by omega
        have g1 : g < wr.heap.size := by have := S.size; omega
        have g2 : h < wr.heap.size := by
          rcases S.ownM.rd.lt with e | ⟨b', o', cp', e, h2⟩
          · exfalso
            have h0 : (bvs M).length = 0 := by rw [e]; rfl
            rw [bvs_len] at h0; omega
          · simp only [Value.slice.injEq, Option.some.injEq, Addr.mk.injEq, and_true] at e
            rw [e.1.1]; exact h2
        obtain ⟨v', hv'⟩ : ∃ v', v' = y ^^^ z := ⟨_, rfl⟩
        rw [← hv'] at hxz
        have HY := Lib.hid hy
        have HZ := Lib.hid hz
        have HV := Lib.hid hv'
        have HS := Lib.hid S
        clear hy hz hv' S
        gi_wp2
        refine wpIn_region_last [fun v _ => v = .slice (some ⟨g, p, none⟩) m m, fun v _ => v = .int .i64 (i : Nat), fun v _ => v = .pointer (some ⟨g, p + i, none⟩), fun v _ => v = .int .u8 (y : Nat), fun v _ => v = .slice (some ⟨h, 0, none⟩) 16 c, fun v _ => v = .int .i64 (i : Nat), fun v _ => v = .pointer (some ⟨h, i, none⟩), fun v _ => v = .int .u8 (z : Nat), fun v _ => v = .int .u8 (v' : Nat), fun v _ => v = .pointer (some ⟨g, p + i, none⟩), fun _ w' => InI w W nb (.slice a1 b1 c1) (.slice a2 b2 c2) ct g p len cap h c B5 L M (i + 1) w']
          [false, false, false, false, false, false, false, false, false, false, true] 10 (by kernel_rfl) (by kernel_rfl) ?_ (by kernel_rfl) (by kernel_rfl) (by kernel_rfl) ?_ ?_
        · exact keeps_cons (fun _ _ _ h _ => h) (keeps_cons (fun _ _ _ h _ => h) (keeps_cons (fun _ _ _ h _ => h) (keeps_cons (fun _ _ _ h _ => h) (keeps_cons (fun _ _ _ h _ => h) (keeps_cons (fun _ _ _ h _ => h) (keeps_cons (fun _ _ _ h _ => h) (keeps_cons (fun _ _ _ h _ => h) (keeps_cons (fun _ _ _ h _ => h) (keeps_cons (fun _ _ _ h _ => h) (keeps_cons (fun _ _ _ h hb => h.below hb) keeps_nil))))))))))
        · refine .cons (owed5_go ?_) (.cons (owed5_go ?_) (.cons (owed5_go ?_) (.cons (owed5_go ?_) (.cons (owed5_go ?_) (.cons (owed5_go ?_) (.cons (owed5_go ?_) (.cons (owed5_go ?_) (.cons (owed5_go ?_) (.cons (owed5_go ?_) (.cons (owed5_go ?_) .nil))))))))))
          · intro a wx hbx ho hf
            refine ⟨rfl, ?_⟩
            intro K' hK'
            have e0 : a.tmps[9]?.getD undef = .slice (some ⟨g, p, none⟩) m m := ho 9 (by kernel_rfl)
            go_simp
            exact hK' _ _ rfl (fun _ => Below.refl _ _)
          · intro a wx hbx ho hf
            refine ⟨rfl, ?_⟩
            intro K' hK'
            have e0 : a.tmps[11]?.getD undef = .int .i64 (i : Nat) := ho 11 (by kernel_rfl)
            go_simp
            exact hK' _ _ rfl (fun _ => Below.refl _ _)
          · intro a wx hbx ho hf
            refine ⟨rfl, ?_⟩
            intro K' hK'
            have e0 : a.tmps[28]?.getD undef = .slice (some ⟨g, p, none⟩) m m := hf.1
            have e1 : a.tmps[29]?.getD undef = .int .i64 (i : Nat) := hf.2.1
            go_simp
            exact hK' _ _ rfl (fun _ => Below.refl _ _)
          · intro a wx hbx ho hf
            refine ⟨rfl, ?_⟩
            intro K' hK'
            have e0 : a.tmps[30]?.getD undef = .pointer (some ⟨g, p + i, none⟩) := hf.1
            have d1 := (hbx.cell (p := ⟨g, p + i, none⟩) g1).trans qc1
            go_simp
            exact hK' _ _ rfl (fun _ => Below.refl _ _)
          · intro a wx hbx ho hf
            refine ⟨rfl, ?_⟩
            intro K' hK'
            have e0 : a.tmps[10]?.getD undef = .slice (some ⟨h, 0, none⟩) 16 c := ho 10 (by kernel_rfl)
            go_simp
            exact hK' _ _ rfl (fun _ => Below.refl _ _)
          · intro a wx hbx ho hf
            refine ⟨rfl, ?_⟩
            intro K' hK'
            have e0 : a.tmps[11]?.getD undef = .int .i64 (i : Nat) := ho 11 (by kernel_rfl)
            go_simp
            exact hK' _ _ rfl (fun _ => Below.refl _ _)
          · intro a wx hbx ho hf
            refine ⟨rfl, ?_⟩
            intro K' hK'
            have e0 : a.tmps[32]?.getD undef = .slice (some ⟨h, 0, none⟩) 16 c := hf.1
            have e1 : a.tmps[33]?.getD undef = .int .i64 (i : Nat) := hf.2.1
            go_simp
            rw [if_pos (show (i : Int) < 16 by omega)]
            go_simp
            exact hK' _ _ rfl (fun _ => Below.refl _ _)
          · intro a wx hbx ho hf
            refine ⟨rfl, ?_⟩
            intro K' hK'
            have e0 : a.tmps[34]?.getD undef = .pointer (some ⟨h, i, none⟩) := hf.1
            have d1 := (hbx.cell (p := ⟨h, i, none⟩) g2).trans qc2
            go_simp
            exact hK' _ _ rfl (fun _ => Below.refl _ _)
          · intro a wx hbx ho hf
            refine ⟨rfl, ?_⟩
            intro K' hK'
            have e0 : a.tmps[31]?.getD undef = .int .u8 (y : Nat) := hf.1
            have e1 : a.tmps[35]?.getD undef = .int .u8 (z : Nat) := hf.2.1
            go_simp
            exact hK' _ _ rfl (fun _ => Below.refl _ _)
          · intro a wx hbx ho hf
            refine ⟨rfl, ?_⟩
            intro K' hK'
            have e0 : a.tmps[28]?.getD undef = .slice (some ⟨g, p, none⟩) m m := hf.1
            have e1 : a.tmps[29]?.getD undef = .int .i64 (i : Nat) := hf.2.1
            go_simp
            exact hK' _ _ rfl (fun _ => Below.refl _ _)
          · intro a wx hbx ho hf
            refine ⟨rfl, ?_⟩
            intro K' hK'
            have e0 : a.tmps[37]?.getD undef = .pointer (some ⟨g, p + i, none⟩) := hf.1
            have e1 : a.tmps[36]?.getD undef = .int .u8 (v' : Nat) := hf.2.1
            have d1 := (hbx.cell (p := ⟨g, p + i, none⟩) g1).trans qc1
            have d2 := (hbx.frozen (p := ⟨g, p + i, none⟩) g1).trans qc3
            have fin := (HS.out.below hbx).set hg1 hg2 hh hpi
            rw [← HY.out, ← HZ.out, ← HV.out] at fin
            go_simp
            exact hK' undef _ fin (fun hne => absurd rfl hne)
        · rintro f w9 hfin
          have S9 : InI w W nb (.slice a1 b1 c1) (.slice a2 b2 c2) ct g p len cap h c B5 L M (i + 1) w9 := hfin.2.2.2.2.2.2.2.2.2.2.1
          clear hfin
          simp only [frameOf, dstsOf, zipF, List.filterMap_cons, List.filterMap_nil, List.contains_cons, List.contains_nil, Nat.reduceBEq, Nat.reduceAdd, Bool.or_false, Bool.or_true, cond_true, cond_false]
          have HS9 := Lib.hid S9
          clear S9
          gi_wp2
          go_roundw
          case rel => exact ⟨i + 1, by omega, by go_num, HS9.out⟩
          case measure => simp [intOf]; omega
      · have hlt' : decide ((i : Int) < (m : Int)) = false := by rw [decide_eq_false_iff_not]; omega
        obtain rfl : i = m := by omega
        gi_wp2
        refine ⟨by rw [hsz0]; exact S.keeps, S.kp, ⟨S.k1, S.k2, ?_, ?_⟩, S.low, S.size⟩
        · have := S.k3
          rw [HCT.out] at this
          rw [List.length_append]
          exact this
        · have := S.own
          rw [foldM_snoc]
          show Own wr _ _ _ (bvs (xorAt (foldM K N T pre).1 p (min 16 (len - p)) (mk K N ((foldM K N T pre).2 + 1))))
          rw [← HLI.out, ← HMm.out, foldM_cnt, show pre.length + 1 + 1 = ct by rw [HCT.out]]
          rw [HMI.out] at this
          exact this
  case done =>
    rintro D ys W hD hys ⟨⟨k1, k2, k3, hown⟩, hB, hB0⟩ hK
    gi_wp2
    go_wp2_with fail
    refine ⟨by simp, .inl ⟨_, _, rfl, run_takeDeferred hK, ?_⟩⟩
    rw [foldM_end K N T HL.out.symm ys hys] at hown
    refine ⟨_, results_tmp rfl _ _ _, _, rfl, (own_kept hown (grownBy_putObj' W D _) (fun r e => by cases e; exact ⟨_, hK, rfl⟩)).mono (by omega), hB.trans (belowK_b (w := w) (Nat.le_refl _) W D _ _ (by rw [hsz0] at hD; omega) hK rfl rfl)⟩
  case stop =>
    rintro D c pre W _ _ h _
    exact h.elim
end Go.Proofs.Ytfpjpakjlhidkaa
