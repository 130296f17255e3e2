/- Walks: aes.expand: the words of a key. -/
import Derived.Test.YtfpjpakjlhidkaaSame
import Derived.Test.YtfpjpakjlhidkaaAesBoxes
import Derived.RegionTactic
import Derived.StillTailTactics
import Derived.Deep.LoopGhost
import Derived.Deep.DeepCutAuto
namespace Go.Proofs.Ytfpjpakjlhidkaa
open Go.RowKit AesM

theorem bytes28 : Elem Try.prog 28 5 (.int .u8 0) 1 := ⟨Try.underlying28, by kernel_rfl, rfl, by omega⟩
theorem bys_eq (L : List Nat) : bys L = (bvs L).toArray := rfl

theorem bvs_ne {L : List Nat} (h : 0 < L.length) : bvs L ≠ [] := by
  intro h'
  have := congrArg List.length h'
  rw [bvs_len] at this
  simp only [List.length_nil] at this
  omega
theorem bvs_set (L : List Nat) (i n : Nat) : bvs (L.set i n) = (bvs L).set i (.int .u8 (n : Int)) := by simp [bvs]
theorem bvs_drop (L : List Nat) (k : Nat) : bvs (L.drop k) = (bvs L).drop k := by simp [bvs]
theorem size_alloc' (w : World) (o : Obj) : (w.alloc o).heap.size = w.heap.size + 1 := by simp
namespace AesM
/-- the last four bytes, turned and boxed where 16 divides the length -/
def exT (T W : List Nat) (f : Nat) : List Nat :=
  let t := W.drop (W.length - 4)
  if W.length % 16 = 0 then [T.getD (t.getD 1 0) 0 ^^^ f, T.getD (t.getD 2 0) 0, T.getD (t.getD 3 0) 0, T.getD (t.getD 0 0) 0] else t
def exStep (T : List Nat) (s : List Nat × Nat) : List Nat × Nat :=
  (s.1 ++ List.zipWith (· ^^^ ·) (exT T s.1 s.2) (s.1.drop (s.1.length - 16)), if s.1.length % 16 = 0 then tms s.2 2 else s.2)
def exN (T key : List Nat) : Nat → List Nat × Nat
  | 0 => (key, 1)
  | n + 1 => exStep T (exN T key n)
theorem exT_len (T : List Nat) {W : List Nat} (f : Nat) (h : 4 ≤ W.length) : (exT T W f).length = 4 := by
  unfold exT
  simp only
  split
  · rfl
  · rw [List.length_drop]; omega
theorem exT_lt {T W : List Nat} {f : Nat} (hT : ∀ n ∈ T, n < 256) (hW : ∀ n ∈ W, n < 256) (hf : f < 256) : ∀ n ∈ exT T W f, n < 256 := by
  have g := fun i => getD_lt hT (by omega) i
  unfold exT
  simp only
  split
  · intro n hn
    simp only [List.mem_cons, List.not_mem_nil, or_false] at hn
    rcases hn with rfl | rfl | rfl | rfl
    · exact xor_lt (g _) hf
    · exact g _
    · exact g _
    · exact g _
  · intro n hn; exact hW n (List.mem_of_mem_drop hn)
theorem zip_lt {A B : List Nat} (hA : ∀ n ∈ A, n < 256) (hB : ∀ n ∈ B, n < 256) : ∀ n ∈ List.zipWith (· ^^^ ·) A B, n < 256 := by
  intro n hn
  obtain ⟨i, hi, rfl⟩ := List.mem_iff_getElem.1 hn
  rw [List.getElem_zipWith]
  exact xor_lt (hA _ (List.getElem_mem _)) (hB _ (List.getElem_mem _))
theorem exN_ok {T K : List Nat} (hT : ∀ n ∈ T, n < 256) (hK : ∀ n ∈ K, n < 256) (hl : K.length = 16) : ∀ n, (exN T K n).1.length = 16 + 4 * n ∧ (∀ x ∈ (exN T K n).1, x < 256) ∧ (exN T K n).2 < 256 := by
  intro n
  induction n with
  | zero => exact ⟨hl, hK, by show 1 < 256; omega⟩
  | succ n ih =>
    obtain ⟨h1, h2, h3⟩ := ih
    refine ⟨?_, ?_, ?_⟩
    · simp only [exN, exStep, List.length_append, List.length_zipWith, exT_len T _ (show 4 ≤ (exN T K n).1.length by omega), List.length_drop]
      omega
    · intro x hx
      simp only [exN, exStep, List.mem_append] at hx
      rcases hx with hx | hx
      · exact h2 x hx
      · exact zip_lt (exT_lt hT h2 h3) (fun y hy => h2 y (List.mem_of_mem_drop hy)) x hx
    · simp only [exN, exStep]
      split
      · exact tms_lt _ h3
      · exact h3
end AesM

set_option maxRecDepth 100000 in
set_option maxHeartbeats 1000000 in
theorem expand_any (v : Value) (K T : List Nat) (w : World) (h : Rd w v (bvs K)) (hK : ∀ n ∈ K, n < 256) (hl : K.length = 16) (hT : T.length = 256) (hT2 : ∀ n ∈ T, n < 256) :
    Calls Try.prog 30 #[v, .agg (bys T)] w fun e w' => ∃ r, e = .returned r ∧ Own w' w.heap.size 5 r (bvs (exN T K 40).1) ∧ Below w.heap.size w w' := by
  have HR := Lib.hid h
  have HL := Lib.hid hl
  have HT := Lib.hid hT
  clear hl hT h
  go_enter Try.func30, Try.ntmps30
  go_wp2_with (at_builtin; go_must (refine wpList_app rfl (.tmp 9) (.tmp 10) 28 rfl (w.heap.size + 1) 5 _ 1 bytes28 _ [] rfl (Own.lit0 ?c0 ?c3) _ (bvs K) rfl ((HR.out.alloc _).alloc _) (bvs_one K) ?c1 ?c2 ?_))
  case c0 => simp
  case c3 => omega
  case c1 => have := HL.out; simp; omega
  case c2 => simp
  rintro v1 w1 hown hg hbel
  obtain ⟨W, hW⟩ : ∃ W, W = w.alloc (.cells (bys T) 48) := ⟨_, rfl⟩
  have hbelW : Below (w.heap.size + 1) W w1 := by
    rw [hW]; exact Below.trans ((Below.refl _ _).alloc (by simp) _) hbel
  have HW := Lib.hid hW
  clear hW hbel hg
  have HB := Lib.hid hbelW
  have HO := Lib.hid hown
  clear hbelW hown
  go_wp2_with fail
  go_loopg [5, 6] 40 (fun k r f wr => ∃ n f' : Nat, ∃ L : List Nat, n + k = 40 ∧ f' < 256 ∧ (L, f') = exN T K n ∧ f = .int .u8 f' ∧ Own wr (w.heap.size + 1) 5 r (bvs L) ∧ Below (w.heap.size + 1) W wr)
  case atStart => exact ⟨0, 1, K, by omega, by omega, rfl, rfl, HO.out, HB.out⟩
  case round =>
    obtain ⟨n, f, L, hn, hf, he, rfl, hown, hbel⟩ := hrel
    have H := Lib.hid he; clear he
    obtain ⟨o1, o2, o3⟩ := exN_ok hT2 hK HL.out n
    rw [← H.out] at o1 o2 o3
    simp only at o1 o2 o3
    obtain ⟨g, cap, cur, rfl, hg, hgl, hh, hc1, hc2, hcs, htk, hcells, hfz⟩ := hown.out (by intro h; simp [bvs] at h; subst h; simp at o1; omega)
    obtain ⟨m, hm⟩ : ∃ m, m = L.length := ⟨_, rfl⟩
    rw [bvs_len, ← hm] at hc1 htk
    rw [bvs_len, ← hm]
    have hm2 : m = 16 + 4 * n := by rw [hm]; exact o1
    have hown' : Own wr (w.heap.size + 1) 5 (.slice (some ⟨g, 0, none⟩) m cap) (bvs L) := by rw [bvs_len, ← hm] at hown; exact hown
    have HO := Lib.hid hown'
    have HM := Lib.hid hm
    have HM2 := Lib.hid hm2
    have HCE := Lib.hid hcells
    have hm3 : 16 ≤ m := by omega
    have hm4 : m ≤ 176 := by omega
    have HN := Lib.hid hn
    clear hn
    have hcap : cap ≤ 9223372036854775807 := by unfold maxLen at hc2; exact hc2
    have hsz := hbel.size
    have HB2 := Lib.hid hbel
    clear hown hown' hm hm2 hcells hfz hh hcs htk o1 hbel
    by_cases hlt : m < 176
    · go_upto_if 25 with (at_builtin; (refine wpList_app rfl (.tmp 15) (.tmp 20) 28 rfl wr.heap.size 5 _ 1 bytes28 _ [] rfl (Own.lit0 ?c0 ?c3) _ (bvs (L.drop (m - 4))) rfl ?cr (bvs_one _) ?c1 ?c2 ?_))
      case c0 => rfl
      case c3 => omega
      case cr =>
        have := (HO.out.rd.alloc (.cells #[] 5)).sub (m - 4) m (off' := m - 4) (n' := m - (m - 4)) (cap' := cap - (m - 4)) (by omega) (by omega) (by omega) rfl rfl
        rw [bvs_drop, ← List.take_of_length_le (l := bvs L) (i := m) (by rw [bvs_len, ← HM.out]; omega)]
        exact this
      case c1 => have := HM.out; simp; omega
      case c2 => simp
      rintro v2 w2 hown2 hg2 hb2
      clear hg2
      have HO2 := Lib.hid hown2
      have HB3 := Lib.hid hb2
      have hsz2 := hb2.size
      simp only [size_alloc'] at hsz2
      clear hown2 hb2
      go_upto_if 25 with (fail)
      go_cut [6, 7] (fun f1 t wx => ∃ f' : Nat, ∃ X : List Nat, X = exT T L f ∧ f' = (exStep T (L, f)).2 ∧ f' < 256 ∧ f1 = .int .u8 f' ∧ Own wx wr.heap.size 5 t (bvs X) ∧ Below wr.heap.size wr wx)
      case first =>
        obtain ⟨g2, cap2, cur2, e2, hg2, hgl2, hh2, hd1, hd2, hds, htk2, hcells2, hfz2⟩ := HO2.out.out (by intro h; have := congrArg List.length h; simp at this; have := HM.out; omega)
        have hlen2 : (bvs (L.drop (m - 4))).length = 4 := by have := HM.out; simp; omega
        rw [hlen2] at e2
        subst e2
        rw [hlen2] at hd1
        have q0 := hcells2 0 _ (bvs_getD (by have := HM.out; simp; omega))
        have q1 := hcells2 1 _ (bvs_getD (by have := HM.out; simp; omega))
        have q2 := hcells2 2 _ (bvs_getD (by have := HM.out; simp; omega))
        have q3 := hcells2 3 _ (bvs_getD (by have := HM.out; simp; omega))
        have o4 : ∀ x ∈ L.drop (m - 4), x < 256 := fun x hx => o2 x (List.mem_of_mem_drop hx)
        have b0 := getD_lt o4 (by omega) 0
        have b1 := getD_lt o4 (by omega) 1
        have b2 := getD_lt o4 (by omega) 2
        have b3 := getD_lt o4 (by omega) 3
        obtain ⟨t0, ht0⟩ : ∃ t0, t0 = (L.drop (m - 4)).getD 0 0 := ⟨_, rfl⟩
        obtain ⟨t1, ht1⟩ : ∃ t0, t0 = (L.drop (m - 4)).getD 1 0 := ⟨_, rfl⟩
        obtain ⟨t2, ht2⟩ : ∃ t0, t0 = (L.drop (m - 4)).getD 2 0 := ⟨_, rfl⟩
        obtain ⟨t3, ht3⟩ : ∃ t0, t0 = (L.drop (m - 4)).getD 3 0 := ⟨_, rfl⟩
        rw [← ht0] at q0 b0
        rw [← ht1] at q1 b1
        rw [← ht2] at q2 b2
        rw [← ht3] at q3 b3
        have H0 := Lib.hid ht0
        have H1 := Lib.hid ht1
        have H2 := Lib.hid ht2
        have H3 := Lib.hid ht3
        clear ht0 ht1 ht2 ht3 hcells2 hfz2 htk2 hds hh2 hlen2 o4
        have hbox : ∀ t, t < 256 → w2.cell? ⟨w.heap.size, t, none⟩ = some (.int .u8 ((T.getD t 0 : Nat) : Int)) := by
          intro t ht
          have hW1 := HW.out
          have hW2 : W.heap.size = w.heap.size + 1 := by rw [hW1]; simp
          rw [HB3.out.cell (p := ⟨w.heap.size, t, none⟩) (by simp only; omega), ((Below.refl wr.heap.size wr).alloc (Nat.le_refl _) _).cell (p := ⟨w.heap.size, t, none⟩) (by simp only; omega), HB2.out.cell (p := ⟨w.heap.size, t, none⟩) (by simp only; omega), hW1, cell_of_row _ _ _ _ _ _ (heap_alloc_new w _)]
          exact bys_getD (by rw [HT.out]; exact ht)
        have T0 := hbox t0 b0
        have T1 := hbox t1 b1
        have T2 := hbox t2 b2
        have T3 := hbox t3 b3
        clear hbox
        have i0 : (t0 : Int) < 256 := by omega
        have i1 : (t1 : Int) < 256 := by omega
        have i2 : (t2 : Int) < 256 := by omega
        have i3 : (t3 : Int) < 256 := by omega
        by_cases h16 : m % 16 = 0
        · have h16' : (((m : Int) % 16) == 0) = true := by simp; omega
          go_wp2_with fail
          go_still_tail 22, (by kernel_rfl)
          change wpList _ _ _ _ _ w2.drew
          go_wp2_with fail
          refine (times_any f 2 hf (by omega) _).mono ?_
          rintro e w' ⟨rfl, rfl⟩
          go_wp2_with fail
          go_meet
          have hm := HM.out
          have e0 := H0.out
          have e1 := H1.out
          have e2 := H2.out
          have e3 := H3.out
          have hT2' : ∀ i, T[i]?.getD 0 < 256 := fun i => by have := getD_lt hT2 (by omega) i; rw [List.getD_eq_getElem?_getD] at this; exact this
          refine ⟨tms f 2, exT T L f, rfl, ?_, tms_lt 2 hf, rfl, ?_, ?_⟩
          · simp only [exStep]; rw [if_pos (by rw [← hm]; exact h16)]
          · rw [u8_xor_nat _ _ (hT2' _) hf]
            have hx : bvs (exT T L f) = (#[Value.int IntKind.u8 ((T[t1]?.getD 0 ^^^ f : Nat) : Int), Value.int IntKind.u8 ((T[t2]?.getD 0 : Nat) : Int), Value.int IntKind.u8 ((T[t3]?.getD 0 : Nat) : Int), Value.int IntKind.u8 ((T[t0]?.getD 0 : Nat) : Int)] : Array Value).toList := by
              unfold exT
              simp only
              rw [if_pos (by rw [← hm]; exact h16), ← hm, ← e0, ← e1, ← e2, ← e3]
              simp [bvs]
            rw [hx]
            exact (Own.full rfl (by omega) (by unfold maxLen; simp) rfl).drew
          · exact ((((Below.refl _ _).alloc (Nat.le_refl _) _).trans HB3.out).alloc (by omega) _).drew
        · have h16' : (((m : Int) % 16) == 0) = false := by simp; omega
          go_wp2_with fail
          go_meet
          have hm := HM.out
          refine ⟨f, L.drop (m - 4), ?_, ?_, hf, rfl, ?_, ?_⟩
          · unfold exT; simp only; rw [if_neg (by rw [← hm]; exact h16), hm]
          · simp only [exStep]; rw [if_neg (by rw [← hm]; exact h16)]
          · exact HO2.out
          · exact ((Below.refl _ _).alloc (Nat.le_refl _) _).trans HB3.out
      case rest =>
        clear HO2 HB3 hsz2
        obtain ⟨f', X, hX, hf', hf1, rfl, hown, hbel⟩ := hcut
        have hX4 : X.length = 4 := by rw [hX]; exact exT_len T f (by have := HM.out; omega)
        obtain ⟨gt, capt, curt, rfl, hgt, hgtl, _, hct1, hct2, _, _, _, _⟩ := hown.out (bvs_ne (by omega))
        rw [bvs_len, hX4] at hown hct1
        rw [bvs_len, hX4]
        have hX2 : ∀ x ∈ X, x < 256 := by rw [hX]; exact exT_lt hT2 o2 hf
        obtain ⟨Z, hZ⟩ : ∃ Z, Z = List.zipWith (· ^^^ ·) X (L.drop (m - 16)) := ⟨_, rfl⟩
        have hZ4 : Z.length = 4 := by rw [hZ, List.length_zipWith, hX4, List.length_drop]; have := HM.out; omega
        have HX4 := Lib.hid hX4
        have HZ4 := Lib.hid hZ4
        have HZ := Lib.hid hZ
        have HO2 := Lib.hid hown
        have HB3 := Lib.hid hbel
        have HX := Lib.hid hX
        have HF := Lib.hid hf'
        clear hX4 hZ4 hZ hown hbel hX hf'
        go_wp2_with fail
        obtain ⟨wo, rfl⟩ : ∃ wo : World, wo = wr := ⟨_, rfl⟩
        go_loopg [53] 4 (fun k i wv => ∃ i' : Nat, i' + k = 4 ∧ i = .int .i64 i' ∧ Own wv wo.heap.size 5 (.slice (some ⟨gt, 0, none⟩) 4 capt) (bvs (Z.take i' ++ X.drop i')) ∧ Below wo.heap.size wo wv)
        case atStart => exact ⟨0, rfl, rfl, by simpa using HO2.out, HB3.out⟩
        case round =>
          obtain ⟨i, hi, rfl, hown, hbel⟩ := hrel
          by_cases h4 : i < 4
          · have hx4 := HX4.out
            have hz4 := HZ4.out
            obtain ⟨hcellsT, hfzT⟩ := hown.at
            have q1 := hcellsT i _ (bvs_getD (by simp; omega))
            rw [upd_get (by omega) (by omega)] at q1
            have f1 := hfzT i
            have q2 := HCE.out (m - 16 + i) _ (bvs_getD (by have := HM.out; omega))
            rw [← hbel.cell (p := ⟨g, m - 16 + i, none⟩) (by exact hgl)] at q2
            have x1 := getD_lt hX2 (by omega) i
            have x2 := getD_lt o2 (by omega) (m - 16 + i)
            obtain ⟨x, hx⟩ : ∃ x, x = X.getD i 0 := ⟨_, rfl⟩
            obtain ⟨y, hy⟩ : ∃ y, y = L.getD (m - 16 + i) 0 := ⟨_, rfl⟩
            rw [← hx] at q1 x1
            rw [← hy] at q2 x2
            have HO3 := Lib.hid hown
            have HB4 := Lib.hid hbel
            have HI := Lib.hid hi
            have HHX := Lib.hid hx
            have HHY := Lib.hid hy
            clear hcellsT hfzT hown hbel hi hx hy hx4 hz4
            have y1 : (0 : Int) ≤ (m : Int) - 16 + (i : Int) := by omega
            have y2 : (m : Int) - 16 + (i : Int) < (m : Int) := by omega
            go_wp2_with fail
            go_region
            go_wp2_with fail
            go_roundg (gk - 1)
            case measure => have := HI.out; omega
            case rel =>
              have hx4 := HX4.out
              have hz4 := HZ4.out
              refine ⟨i + 1, by have := HI.out; omega, by go_num, ?_, ?_⟩
              · have h := (HO3.out.set i (.int .u8 ((x ^^^ y : Nat) : Int))).drew
                rw [u8_xor_nat x y x1 x2, ← upd_step (by omega) (by omega), bvs_set]
                have hz : Z[i]'(by omega) = x ^^^ y := by
                  have hxi : x = X[i]'(by omega) := by rw [HHX.out, List.getD_eq_getElem?_getD, List.getElem?_eq_getElem (by omega)]; rfl
                  have hyi : y = L[m - 16 + i]'(by have := HM.out; omega) := by rw [HHY.out, List.getD_eq_getElem?_getD, List.getElem?_eq_getElem (by have := HM.out; omega)]; rfl
                  have hzz := HZ.out
                  subst hzz
                  rw [List.getElem_zipWith, List.getElem_drop, ← hxi, ← hyi]
                rw [hz]
                exact h
              · exact (HB4.out.setCell hgt _).drew
          · obtain rfl : i = 4 := by omega
            have hx4 := HX4.out
            have hz4 := HZ4.out
            rw [List.take_of_length_le (by omega), List.drop_eq_nil_of_le (by omega), List.append_nil] at hown
            have HO3 := Lib.hid hown
            have HB4 := Lib.hid hbel
            have hsz3 := hbel.size
            have HI := Lib.hid hi
            clear hown hbel hx4 hz4 hi
            go_wp2_with (at_builtin; refine wpList_app rfl (.tmp 71) (.tmp 72) 28 rfl (w.heap.size + 1) 5 _ 1 bytes28 _ (bvs L) rfl (HO.out.below HB4.out (Nat.le_refl _)) _ (bvs Z) rfl HO3.out.rd (bvs_one _) ?c1 ?c2 ?_)
            case c1 => have := HM.out; have := HZ4.out; simp; omega
            case c2 => omega
            rintro v3 w3 hown3 hg3 hb3
            clear hg3
            have HO4 := Lib.hid hown3
            have HB5 := Lib.hid hb3
            clear hown3 hb3
            go_wp2_with fail
            go_roundg (40 - (n + 1))
            case measure => have := HN.out; have := HM2.out; omega
            case rel =>
              have hm := HM.out
              refine ⟨n + 1, f', L ++ Z, by have := HN.out; have := HM2.out; omega, hf1, ?_, rfl, ?_, ?_⟩
              · rw [exN, ← H.out, exStep, HF.out, HZ.out, HX.out, hm]; rfl
              · rw [bvs_append]; exact HO4.out
              · exact (HB2.out.trans ((HB4.out.mono (by omega)).trans HB5.out))
    · have hn40 : n = 40 := by have := HM2.out; have := HN.out; omega
      subst hn40
      go_wp2_with fail
      go_ret
      have hW1 := HW.out
      refine ⟨_, rfl, ?_, ?_⟩
      · rw [← H.out]; exact HO.out.mono (by omega)
      · have h := HB2.out
        rw [hW1] at h
        exact ((Below.refl w.heap.size w).alloc (Nat.le_refl _) _).trans (h.mono (by omega))
end Go.Proofs.Ytfpjpakjlhidkaa
