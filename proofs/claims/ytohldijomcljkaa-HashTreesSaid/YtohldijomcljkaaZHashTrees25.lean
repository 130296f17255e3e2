/- Walks: slices.Grow of nil, slices.Concat of one part, sha.Of. -/
import Derived.Test.YtohldijomcljkaaZHashTrees24
import Derived.Test.YtohldijomcljkaaZHashTrees17
import Derived.Test.YtohldijomcljkaaZHashTrees18
import Derived.Test.YtohldijomcljkaaZHashTrees14
import Derived.Test.YtohldijomcljkaaZHashTrees05
import Derived.Test.YtohldijomcljkaaZHashTrees01
namespace Go.Proofs.Ytohldijomcljkaa
open Go.RowKit ShaM WireM
set_option linter.unusedVariables false
theorem shaF_len (L : List Nat) : (shaF L).length = 32 := by
  unfold shaF
  rw [← outN_end (blocksN_ok _ HL0_len HL0_lt _).1, outN_len]
theorem zcN (n : Nat) : (Builtin.zeroCells (Value.int .u8 0).cells n).toList = bvs (List.replicate n 0) := by
  refine List.ext_getElem (by simp [Builtin.zeroCells, Value.cells]) fun i h1 h2 => ?_
  simp [Builtin.zeroCells, Value.cells, Nat.mod_one, bvs]
theorem Own.take0 {w : World} {B : Nat} {e : TypeId} {a : Option Addr} {n c : Nat} {xs : List Value} (h : Own w B e (.slice a n c) xs) : Own w B e (.slice a 0 c) [] := by
  obtain ⟨h1, h2⟩ := h
  refine ⟨by simp, ?_⟩
  rcases h2 with ⟨h2, h3⟩ | ⟨g, cp, cur, e', hb, hg, hn, hm, hs, ht⟩
  · simp only [Value.slice.injEq] at h2
    obtain ⟨rfl, rfl, rfl⟩ := h2
    exact .inl ⟨rfl, rfl⟩
  · simp only [Value.slice.injEq] at e'
    obtain ⟨rfl, rfl, rfl⟩ := e'
    exact .inr ⟨g, c, cur, rfl, hb, hg, by simp, hm, hs, by simp⟩
set_option maxRecDepth 100000 in
set_option maxHeartbeats 1000000 in
theorem grow_nil (n : Nat) (w : World) (hn : n < 1000000000) :
    Calls Try.prog 150 #[.slice none 0 0, .int .i64 (n : Nat)] w fun e w' => ∃ v', e = .returned v' ∧ Own w' w.heap.size 5 v' [] ∧ Below w.heap.size w w' := by
  have h0 : decide ((n : Int) < 0) = false := by simp
  rcases Nat.eq_zero_or_pos n with rfl | hp
  · go_enter Try.func150, Try.ntmps150
    go_wp2_with fail
    go_ret
    exact ⟨_, rfl, Own.nil _ _ _, Below.refl _ _⟩
  · have h1 : decide ((n : Int) > 0) = true := by simp; omega
    obtain ⟨v6, w4, hrun, hown4, hg4⟩ := run_app_zeros (P := Try.prog) (w := w) 29 3 29 5 (.int .u8 0) 1 bytesE .i64 rfl (.slice none 0 0) [] (Own.nil w w.heap.size _) n hp rfl (by rw [zcN]; exact bvs_one _) (by simp; omega) (Nat.le_refl _)
    rw [zcN] at hown4
    have hb4 : Below w.heap.size w w4 := (Below.refl w.heap.size w).grown hg4 (Nat.le_refl _) (fun k hk => by simp [Value.ownBlock] at hk)
    obtain ⟨z1, z2, z3, rfl⟩ := slOf hown4
    have HO4 := Lib.hid hown4.take0
    have HB4 := Lib.hid hb4
    have HRUN := Lib.hid hrun
    clear hown4 hg4 hb4 hrun
    go_enter Try.func150, Try.ntmps150
    go_wp2_with (at_builtin; refine Lib.wpList_append_run _ rfl _ _ _ _ rfl _ _ rfl rfl _ _ HRUN.out ?_)
    go_ret
    exact ⟨_, rfl, HO4.out, HB4.out⟩
set_option maxRecDepth 100000 in
set_option maxHeartbeats 4000000 in
/-- of one part -/
theorem concat_one (g : Nat) (v : Value) (L : List Nat) (w : World) (hg : w.cell? ⟨g, 0, none⟩ = some v) (hgl : g < w.heap.size) (h : Rd w v (bvs L)) (hl : L.length < 1000000000) :
    Calls Try.prog 127 #[.slice (some ⟨g, 0, none⟩) 1 1] w fun e w' => ∃ v', e = .returned v' ∧ Own w' w.heap.size 5 v' (bvs L) ∧ Below w.heap.size w w' := by
  obtain ⟨a0, c0, rfl⟩ : ∃ a c, v = .slice a L.length c := by obtain ⟨a, c, e, _⟩ := h; exact ⟨a, c, by rw [e, bvs_len]⟩
  obtain ⟨n, hn⟩ : ∃ n, n = L.length := ⟨_, rfl⟩
  rw [← hn] at hg h hl
  have GR := Lib.hid (grow_nil n w hl)
  have HN := Lib.hid hn
  have H := Lib.hid h
  have HC := Lib.hid hg
  have hn0 : decide ((n : Int) < 0) = false := by simp
  clear hn h
  go_enter Try.func127, Try.ntmps127
  go_wp2_with fail
  go_loopg [11, 3] 1 (fun q iv sv wr => ∃ i : Nat, i + q = 1 ∧ iv = .int .i64 (i : Nat) ∧ sv = .int .i64 ((i * n : Nat) : Int) ∧ wr = w)
  case atStart => exact ⟨0, rfl, rfl, by simp, rfl⟩
  case round =>
    obtain ⟨i, hi, rfl, rfl, rfl⟩ := hrel
    by_cases h1 : i = 0
    · subst h1
      have hgk : gk = 1 := by omega
      have q0 : (((0 * n : Nat) : Int)) = 0 := by simp
      rw [q0]
      subst hgk
      go_wp2_with fail
      go_roundg 0
      case measure => omega
      case rel => exact ⟨1, rfl, rfl, by simp, rfl⟩
    · obtain rfl : i = 1 := by omega
      have q0 : (((1 * n : Nat) : Int)) = n := by simp
      rw [q0]
      clear h1 hi
      go_wp2_with fail
      refine (GR.out).mono ?_
      rintro e w1 ⟨v1, rfl, hown, hb⟩
      have HO1 := Lib.hid hown
      have HB1 := Lib.hid hb
      obtain ⟨z1, z2, z3, rfl⟩ := slOf hown
      clear hown hb
      go_wp2_with fail
      obtain ⟨wo, rfl⟩ : ∃ wo : World, wo = wr := ⟨_, rfl⟩
      go_loopg [27, 6] 1 (fun q iv sv wr => ∃ i : Nat, i + q = 1 ∧ iv = .int .i64 (i : Nat) ∧ Own wr wo.heap.size 5 sv (if i = 0 then [] else bvs L) ∧ Below wo.heap.size wo wr)
      case atStart => exact ⟨0, rfl, rfl, HO1.out, HB1.out⟩
      case round =>
        obtain ⟨i, hi, rfl, hown, hb⟩ := hrel
        have HO2 := Lib.hid hown
        have HB2 := Lib.hid hb
        obtain ⟨t1, t2, t3, rfl⟩ := slOf hown
        clear hown hb
        by_cases h1 : i = 0
        · subst h1
          obtain rfl : gk = 1 := by omega
          clear hi
          have HO2' : Hid (Own wr wo.heap.size 5 (.slice t1 t2 t3) []) := HO2
          have hcell : wr.cell? ⟨g, 0, none⟩ = some (.slice a0 n c0) := (HB2.out.cell (p := ⟨g, 0, none⟩) hgl).trans HC.out
          clear HO2
          go_wp2_with (at_builtin; refine wpList_app rfl (.tmp 31) (.tmp 32) 29 rfl wo.heap.size 5 _ 1 bytesE _ [] rfl HO2'.out _ (bvs L) rfl (H.out.below HB2.out (Nat.le_refl _)) (bvs_one _) ?c2 ?c3 ?_)
          case c2 => rw [bvs_len, ← HN.out]; simp; omega
          case c3 => exact HB2.out.size
          rintro v3 w3 hown - hb3
          have HO3 := Lib.hid hown
          have HB3 := Lib.hid (HB2.out.trans hb3)
          obtain ⟨y1, y2, y3, rfl⟩ := slOf hown
          clear hown hb3
          go_wp2_with fail
          go_roundg 0
          case measure => omega
          case rel => exact ⟨1, rfl, rfl, HO3.out, HB3.out⟩
        · obtain rfl : i = 1 := by omega
          have HO2' : Hid (Own wr wo.heap.size 5 (.slice t1 t2 t3) (bvs L)) := HO2
          clear h1 hi HO2
          go_wp2_with fail
          go_ret
          exact ⟨_, rfl, HO2'.out, HB2.out⟩
set_option maxRecDepth 100000 in
set_option maxHeartbeats 4000000 in
theorem shaof_any (g : Nat) (v : Value) (L : List Nat) (w : World) (hg : w.cell? ⟨g, 0, none⟩ = some v) (hgl : g < w.heap.size) (h : Rd w v (bvs L)) (hL : ∀ x ∈ L, x < 256) (hl : L.length ≤ 1000000) :
    Calls Try.prog 91 #[.slice (some ⟨g, 0, none⟩) 1 1] w fun e w' => ∃ b, e = .returned (.slice (some ⟨b, 0, none⟩) 32 32) ∧ w.heap.size ≤ b ∧ b < w'.heap.size ∧ Rd w' (.slice (some ⟨b, 0, none⟩) 32 32) (bvs (shaF L)) ∧ Below w.heap.size w w' := by
  have hz : ∀ w, (zeroValue 122).run Try.prog w = .ok (.agg Z32a) w := fun _ => by kernel_rfl
  have HCC := Lib.hid (concat_one g v L w hg hgl h (by omega))
  have HSS := Lib.hid (fun (x : Value) (w1 : World) (hr : Rd w1 x (bvs L)) => ssum_any x L w1 hr hL hl)
  have hsl := shaF_len L
  obtain ⟨SA, hSA⟩ : ∃ A, A = (bvs (shaF L)).toArray := ⟨_, rfl⟩
  rw [← hSA] at HSS
  have hs : SA.size = 32 := by rw [hSA, List.size_toArray, bvs_len, hsl]
  have SI := Lib.hid (show (Try.prog.info? 122).map (·.size) = some SA.size by rw [hs]; kernel_rfl)
  have SO := Lib.hid (show SA.all (·.oneCell') = true by rw [hSA]; simp [bvs, Value.oneCell'])
  have SZ := Lib.hid (show Z32a.size = SA.size by rw [hs]; kernel_rfl)
  have HSA := Lib.hid hSA
  have HS32 := Lib.hid hs
  clear hsl hSA hs h hL hl hg
  go_enter Try.func91, Try.ntmps91
  go_wp2_with fail
  refine (HCC.out).mono ?_
  rintro e w1 ⟨v1, rfl, hown, hb⟩
  have HR := Lib.hid hown.rd
  have HB := Lib.hid hb
  obtain ⟨z1, z2, z3, rfl⟩ := slOf hown
  clear hown hb
  go_wp2_with fail
  refine (HSS.out _ w1 HR.out).mono ?_
  rintro e w2 ⟨rfl, hb2⟩
  have HB2 := Lib.hid (HB.out.trans (hb2.mono HB.out.size))
  have N2 := Lib.hid (Blk.new w2 122 Z32a)
  clear hb2
  go_wp2_with (refine wpList_store_blk rfl 122 (.tmp 3) (.tmp 6) rfl w2.heap.size SA rfl rfl 122 Z32a N2.out SI.out SZ.out (by have := SO.out; rw [← Array.all_toList] at this; exact this) ?_)
  intro w3 m0 mb mo msz
  have M0 := Lib.hid m0
  have HB3 := Lib.hid ((HB2.out.alloc HB2.out.size (.cells Z32a 122)).trans ((mb w2.heap.size (Nat.le_refl _)).mono HB2.out.size))
  have hs3 : Hid (w.heap.size ≤ w2.heap.size) := Lib.hid HB2.out.size
  clear m0 mb mo msz
  go_wp2_with fail
  go_ret
  refine ⟨_, rfl, hs3.out, M0.out.lt, ?_, HB3.out⟩
  refine ⟨_, 32, by rw [bvs_len, shaF_len], by rw [bvs_len, shaF_len]; omega, by unfold maxLen; omega, .inr ⟨_, 0, rfl, fun j u hu => ?_⟩⟩
  rw [Nat.zero_add, M0.out.cell j, HSA.out, List.getElem?_toArray]
  exact hu
end Go.Proofs.Ytohldijomcljkaa
/- Plain: the hashes of a tree's nodes, without some leaves. -/
namespace Go.Proofs.Ytohldijomcljkaa
open Go.RowKit WalkM ShaM WireM
set_option linter.unusedVariables false
mutual
/-- what is digested of a node of a level -/
def textN (t : Nat → NodeD) : Nat → Nat → List Nat
  | 0, x => ([1] ++ beN 4 (x / 2)) ++ nodeB (t x)
  | k + 1, x => ([2] ++ nodeB (t x)) ++ (vecB (hashN t k (x - 2 ^ k)) ++ vecB (hashN t k (x + 2 ^ k)))
def hashN (t : Nat → NodeD) : Nat → Nat → List Nat
  | 0, x => shaF (([1] ++ beN 4 (x / 2)) ++ nodeB (t x))
  | k + 1, x => shaF (([2] ++ nodeB (t x)) ++ (vecB (hashN t k (x - 2 ^ k)) ++ vecB (hashN t k (x + 2 ^ k))))
end
theorem hashN_eq (t : Nat → NodeD) (k x : Nat) : hashN t k x = shaF (textN t k x) := by cases k <;> simp only [hashN, textN]
theorem textN_zero (t : Nat → NodeD) (x : Nat) : textN t 0 x = ([1] ++ beN 4 (x / 2)) ++ nodeB (t x) := by simp only [textN]
theorem textN_succ (t : Nat → NodeD) (k x : Nat) : textN t (k + 1) x = ([2] ++ nodeB (t x)) ++ (vecB (hashN t k (x - 2 ^ k)) ++ vecB (hashN t k (x + 2 ^ k))) := by simp only [textN]
theorem hashN_len (t : Nat → NodeD) (k x : Nat) : (hashN t k x).length = 32 := by rw [hashN_eq]; exact shaF_len _
theorem shaF_lt (b : List Nat) : ∀ x ∈ shaF b, x < 256 := by
  intro x hx
  unfold shaF at hx
  rw [List.mem_flatten] at hx
  obtain ⟨l, hl, hx⟩ := hx
  obtain ⟨y, _, rfl⟩ := List.mem_map.1 hl
  exact beN_lt _ _ x hx
theorem hashN_lt (t : Nat → NodeD) (k x : Nat) : ∀ y ∈ hashN t k x, y < 256 := by rw [hashN_eq]; exact shaF_lt _
theorem vecB32 {L : List Nat} (h : L.length = 32) : (vecB L).length ≤ 36 := by have := vecB_len L (by omega); omega
theorem textN_len {t : Nat → NodeD} (hs : ∀ x, smallB (t x) = true) (k x : Nat) : (textN t k x).length ≤ 2000 := by
  have h := nodeB_len (hs x)
  cases k with
  | zero =>
    rw [textN_zero]
    simp only [List.length_append, List.length_cons, List.length_nil, beN_len]; omega
  | succ k =>
    have h1 := vecB32 (hashN_len t k (x - 2 ^ k))
    have h2 := vecB32 (hashN_len t k (x + 2 ^ k))
    rw [textN_succ]
    simp only [List.length_append, List.length_cons, List.length_nil]; omega
theorem kids_lev {x k : Nat} (hx : x ≤ 131070) (h : IsLev x (k + 1)) : leftZ (x : Int) = ((x - 2 ^ k : Nat) : Int) ∧ rightZ (x : Int) = ((x + 2 ^ k : Nat) : Int) ∧ IsLev (x - 2 ^ k) k ∧ IsLev (x + 2 ^ k) k ∧ 2 ^ k ≤ x := by
  have hl := lev_eq hx h
  have hz : levZ (x : Int) = ((k + 1 : Nat) : Int) := by
    rw [levZ, if_pos (by unfold isNode; rw [decide_eq_true_iff]; omega), Int.toNat_natCast, hl]
  have hp : 0 < 2 ^ k := Nat.pos_of_ne_zero (by simp)
  have hh : halfZ (x : Int) = ((2 ^ k : Nat) : Int) := by
    rw [halfZ, hz, if_pos (by omega), show (((k + 1 : Nat) : Int) - 1).toNat = k by omega, Int.natCast_pow]; rfl
  unfold IsLev at h ⊢
  have e1 : 2 ^ (k + 1) = 2 * 2 ^ k := by rw [Nat.pow_succ]; omega
  have e2 : 2 ^ (k + 1 + 1) = 4 * 2 ^ k := by rw [Nat.pow_succ, e1]; omega
  rw [e2, e1] at h
  rw [e1]
  have hd := Nat.div_add_mod x (4 * 2 ^ k)
  rw [h] at hd
  have hpx : 2 ^ k ≤ x := by omega
  refine ⟨?_, ?_, ?_, ?_, hpx⟩
  · rw [leftZ, hh, if_neg (by omega)]; omega
  · rw [rightZ, hh, if_neg (by omega)]; omega
  · have e : x - 2 ^ k = 2 * 2 ^ k * (2 * (x / (4 * 2 ^ k))) + (2 ^ k - 1) := by
      have : 2 * 2 ^ k * (2 * (x / (4 * 2 ^ k))) = 4 * 2 ^ k * (x / (4 * 2 ^ k)) := by rw [Nat.mul_left_comm, ← Nat.mul_assoc, ← Nat.mul_assoc]
      omega
    rw [e, Nat.mul_add_mod]; exact Nat.mod_eq_of_lt (by omega)
  · have e : x + 2 ^ k = 2 * 2 ^ k * (2 * (x / (4 * 2 ^ k)) + 1) + (2 ^ k - 1) := by
      have : 2 * 2 ^ k * (2 * (x / (4 * 2 ^ k)) + 1) = 4 * 2 ^ k * (x / (4 * 2 ^ k)) + 2 * 2 ^ k := by rw [Nat.mul_add, Nat.mul_one, Nat.mul_left_comm, ← Nat.mul_assoc, ← Nat.mul_assoc]
      omega
    rw [e, Nat.mul_add_mod]; exact Nat.mod_eq_of_lt (by omega)
theorem lev_zero {x : Nat} (h : IsLev x 0) : x % 2 = 0 := by unfold IsLev at h; simpa using h
theorem lev_succ {x k : Nat} (h : IsLev x (k + 1)) : x % 2 = 1 := by
  unfold IsLev at h
  have e2 : 2 ^ (k + 1 + 1) = 2 * 2 ^ (k + 1) := by rw [Nat.pow_succ]; omega
  have e1 : 2 ^ (k + 1) = 2 * 2 ^ k := by rw [Nat.pow_succ]; omega
  have hp : 0 < 2 ^ k := Nat.pos_of_ne_zero (by simp)
  have := Nat.mod_mod_of_dvd x (show 2 ∣ 2 ^ (k + 1 + 1) from ⟨2 ^ (k + 1), e2⟩)
  rw [h] at this
  omega
/-- all beneath a node lies in the tree -/
theorem under_in {x d : Nat} (hx : x + 1 < 2 ^ (d + 1)) (hd : d ≤ 16) : x + 2 ^ lev x + 1 ≤ 2 ^ (d + 1) := by
  have h17 : 2 ^ (d + 1) ≤ 2 ^ 17 := Nat.pow_le_pow_right (by omega) (by omega)
  have hxl : x ≤ 131070 := by have : (2 : Nat) ^ 17 = 131072 := rfl; omega
  have hl := lev_is hxl
  have hld := (lev_root hx hl).1
  have hph := phi_le (x := x) (d := d) (by omega) hld
  have ha := anc_self hl
  rw [anc_plo] at ha
  have e : phi x (lev x) = plo x (lev x) + (2 ^ (lev x + 1) - 2) := rfl
  have e1 : 2 ^ (lev x + 1) = 2 * 2 ^ lev x := by rw [Nat.pow_succ]; omega
  have hp : 0 < 2 ^ lev x := Nat.pos_of_ne_zero (by simp)
  omega
/-- a node of a tree without some leaves -/
def woD (t : List NodeD) (ps : List Int) (x : Nat) : NodeD :=
  if x % 2 = 0 then (if ((x / 2 : Nat) : Int) ∈ ps then noNodeD else nd t x)
  else ⟨(nd t x).kind, (nd t x).leaf, ⟨(nd t x).par.box, (nd t x).par.hash, (nd t x).par.late.filter fun u => decide (u ∉ ps)⟩⟩
theorem woD_nil (t : List NodeD) (x : Nat) : woD t [] x = nd t x := by
  unfold woD
  split
  · rw [if_neg (by simp)]
  · have : ((nd t x).par.late.filter fun u => decide (u ∉ ([] : List Int))) = (nd t x).par.late := List.filter_eq_self.2 (by simp)
    rw [this]
theorem woD_even {t : List NodeD} {ps : List Int} {x : Nat} (h : x % 2 = 0) : woD t ps x = if ((x / 2 : Nat) : Int) ∈ ps then noNodeD else nd t x := by rw [woD, if_pos h]
theorem woD_odd {t : List NodeD} {ps : List Int} {x : Nat} (h : x % 2 = 1) : woD t ps x = ⟨(nd t x).kind, (nd t x).leaf, ⟨(nd t x).par.box, (nd t x).par.hash, (nd t x).par.late.filter fun u => decide (u ∉ ps)⟩⟩ := by rw [woD, if_neg (by omega)]
theorem woD_small {t : List NodeD} (h : smallT t = true) (ps : List Int) (x : Nat) : smallB (woD t ps x) = true := by
  have hs := smallT_nd h x
  unfold woD
  split
  · split
    · exact smallB_no
    · exact hs
  · have h1 := of_decide_eq_true hs
    have h2 := List.length_filter_le (fun u => decide (u ∉ ps)) (nd t x).par.late
    exact decide_eq_true ⟨h1.1, h1.2.1, h1.2.2.1, h1.2.2.2.1, h1.2.2.2.2.1, h1.2.2.2.2.2.1, h1.2.2.2.2.2.2.1, by have := h1.2.2.2.2.2.2.2; simp only; omega⟩
end Go.Proofs.Ytohldijomcljkaa
/- Walks: the reference's join, Ahead, LeafBytes, Bytes of nodes. -/
namespace Go.Proofs.Ytohldijomcljkaa
open Go.RowKit WireM
set_option linter.unusedVariables false
set_option maxRecDepth 100000 in
set_option maxHeartbeats 1000000 in
theorem join16_any (x y : Value) (A B : List Nat) (w : World) (hx : Rd w x (bvs A)) (hy : Rd w y (bvs B)) (hl : A.length + B.length < 1000000000) :
    Calls Try.prog 128 #[x, y] w fun e w' => ∃ v', e = .returned v' ∧ Own w' w.heap.size 5 v' (bvs (A ++ B)) ∧ Below w.heap.size w w' := by
  have HX := Lib.hid hx
  have HY := Lib.hid hy
  clear hx hy
  go_enter Try.func128, Try.ntmps128
  go_wp2_with (at_builtin; refine wpList_app rfl (.tmp 5) (.tmp 6) 29 rfl w.heap.size 5 _ 1 bytesE _ [] rfl (Own.lit0 rfl (Nat.le_refl _)) _ (bvs A) rfl (HX.out.alloc _) (bvs_one _) ?c2 ?c3 ?_)
  case c2 => rw [bvs_len]; simp; omega
  case c3 => simp
  rintro v2 w2 hown - hb2
  have hbt := ((Below.refl w.heap.size w).alloc (Nat.le_refl _) (.cells #[] 5)).trans hb2
  have HO := Lib.hid hown
  have HB := Lib.hid hbt
  have HY2 := Lib.hid (HY.out.below hbt (Nat.le_refl _))
  clear hown hb2 hbt
  go_wp2_with (at_builtin; refine wpList_app rfl (.tmp 7) (.tmp 8) 29 rfl w.heap.size 5 _ 1 bytesE _ _ rfl HO.out _ (bvs B) rfl HY2.out (bvs_one _) ?c4 ?c5 ?_)
  case c4 => simp only [bvs_len]; omega
  case c5 => exact HB.out.size
  rintro v3 w3 hown - hb3
  have HO3 := Lib.hid hown
  have HB3 := Lib.hid (HB.out.trans hb3)
  clear hown hb3
  go_wp2_with fail
  go_ret
  refine ⟨_, rfl, ?_, HB3.out⟩
  rw [bvs_append]; exact HO3.out
theorem unsB_eq (d : LeafD) : unsB d = (vecB d.box ++ vecB d.sign) ++ (vecB d.ident ++ [d.source]) ++ (if d.source = 3 then vecB d.par else []) := by
  unfold unsB catB
  simp [List.append_assoc]
set_option maxRecDepth 100000 in
set_option maxHeartbeats 4000000 in
theorem ahead_any (d : LeafD) (a1 a2 a3 a4 a5 : Option Addr) (c1 c2 c3 c4 c5 : Nat) (w : World) (hs : SmallL d) (hsrc : d.source < 256)
    (h1 : Rd w (.slice a1 d.box.length c1) (bvs d.box)) (h2 : Rd w (.slice a2 d.sign.length c2) (bvs d.sign)) (h3 : Rd w (.slice a3 d.ident.length c3) (bvs d.ident)) (h4 : Rd w (.slice a4 d.par.length c4) (bvs d.par)) :
    Calls Try.prog 151 #[.agg #[.slice a1 d.box.length c1, .slice a2 d.sign.length c2, .slice a3 d.ident.length c3, .int .u8 (d.source : Nat), .slice a4 d.par.length c4, .slice a5 d.sig.length c5]] w
      fun e w' => ∃ v, e = .returned v ∧ Own w' w.heap.size 5 v (bvs (unsB d)) ∧ Below w.heap.size w w' := by
  obtain ⟨s1, s2, s3, s4, s5⟩ := hs
  have hu := unsB_eq d
  have l1 := vecB_len d.box (by omega)
  have l2 := vecB_len d.sign (by omega)
  have l3 := vecB_len d.ident (by omega)
  have l4 := vecB_len d.par (by omega)
  obtain ⟨n1, hn1⟩ : ∃ n, n = d.box.length := ⟨_, rfl⟩
  obtain ⟨n2, hn2⟩ : ∃ n, n = d.sign.length := ⟨_, rfl⟩
  obtain ⟨n3, hn3⟩ : ∃ n, n = d.ident.length := ⟨_, rfl⟩
  obtain ⟨n4, hn4⟩ : ∃ n, n = d.par.length := ⟨_, rfl⟩
  obtain ⟨n5, hn5⟩ : ∃ n, n = d.sig.length := ⟨_, rfl⟩
  obtain ⟨src, hsr⟩ : ∃ n, n = d.source := ⟨_, rfl⟩
  obtain ⟨D1, hD1⟩ : ∃ n, n = d.box := ⟨_, rfl⟩
  obtain ⟨D2, hD2⟩ : ∃ n, n = d.sign := ⟨_, rfl⟩
  obtain ⟨D3, hD3⟩ : ∃ n, n = d.ident := ⟨_, rfl⟩
  obtain ⟨D4, hD4⟩ : ∃ n, n = d.par := ⟨_, rfl⟩
  rw [← hn1, ← hn2, ← hn3, ← hn4, ← hn5, ← hsr]
  rw [← hn1] at h1 s1 l1
  rw [← hn2] at h2 s2 l2
  rw [← hn3] at h3 s3 l3
  rw [← hn4] at h4 s4 l4
  rw [← hsr] at hsrc hu
  rw [← hD1] at h1 hn1 hu l1
  rw [← hD2] at h2 hn2 hu l2
  rw [← hD3] at h3 hn3 hu l3
  rw [← hD4] at h4 hn4 hu l4
  obtain ⟨U, hU⟩ : ∃ u, u = unsB d := ⟨_, rfl⟩
  rw [← hU] at hu ⊢
  have hbk := Blk.new w 42 #[.slice a1 n1 c1, .slice a2 n2 c2, .slice a3 n3 c3, .int .u8 (src : Nat), .slice a4 n4 c4, .slice a5 n5 c5]
  have hw0 := (Below.refl w.heap.size w).alloc (Nat.le_refl _) (.cells #[.slice a1 n1 c1, .slice a2 n2 c2, .slice a3 n3 c3, .int .u8 (src : Nat), .slice a4 n4 c4, .slice a5 n5 c5] 42)
  have hz : (w.alloc (.cells #[.slice a1 n1 c1, .slice a2 n2 c2, .slice a3 n3 c3, .int .u8 (src : Nat), .slice a4 n4 c4, .slice a5 n5 c5] 42)).heap.size = w.heap.size + 1 := by simp
  obtain ⟨W1, hW1⟩ : ∃ W1, W1 = w.alloc (.cells #[.slice a1 n1 c1, .slice a2 n2 c2, .slice a3 n3 c3, .int .u8 (src : Nat), .slice a4 n4 c4, .slice a5 n5 c5] 42) := ⟨_, rfl⟩
  rw [← hW1] at hbk hw0 hz
  have r1 := h1.below hw0 (Nat.le_refl _)
  have r2 := h2.below hw0 (Nat.le_refl _)
  have r3 := h3.below hw0 (Nat.le_refl _)
  have r4 := h4.below hw0 (Nat.le_refl _)
  have y0 := hbk.cell 0
  have y1 := hbk.cell 1
  have y2 := hbk.cell 2
  have y3 := hbk.cell 3
  have y4 := hbk.cell 4
  simp only [List.getElem?_toArray, List.getElem?_cons_zero, List.getElem?_cons_succ] at y0 y1 y2 y3 y4
  have hgx : w.heap.size < W1.heap.size := by omega
  have HU := Lib.hid hu
  have HW1 := Lib.hid hW1
  have HW0 := Lib.hid hw0
  have HY3 := Lib.hid y3
  have HY4 := Lib.hid y4
  have HR4 := Lib.hid r4
  have HL := Lib.hid (show n1 = D1.length ∧ n2 = D2.length ∧ n3 = D3.length ∧ n4 = D4.length from ⟨hn1, hn2, hn3, hn4⟩)
  clear hbk hw0 hW1 hu hU hn1 hn2 hn3 hn4 hn5 hsr hD1 hD2 hD3 hD4 h1 h2 h3 h4
  go_enter Try.func151, Try.ntmps151
  go_wp2_with fail
  rw [← HW1.out]

  refine wp_region_once [fun v _ => v = .pointer (some ⟨w.heap.size, 0, none⟩), fun v _ => v = .slice a1 n1 c1, fun v w' => Own w' w.heap.size 5 v (bvs (vecB D1)), fun v _ => v = .pointer (some ⟨w.heap.size, 1, none⟩), fun v _ => v = .slice a2 n2 c2, fun v w' => Own w' w.heap.size 5 v (bvs (vecB D2)), fun v w' => Own w' w.heap.size 5 v (bvs ((vecB D1) ++ (vecB D2))), fun v _ => v = .pointer (some ⟨w.heap.size, 2, none⟩), fun v _ => v = .slice a3 n3 c3, fun v w' => Own w' w.heap.size 5 v (bvs (vecB D3)), fun v _ => v = .pointer (some ⟨w.heap.size, 3, none⟩), fun v _ => v = .int .u8 (src : Nat), fun v w' => Rd w' v (bvs [src]), fun v w' => Own w' w.heap.size 5 v (bvs (vecB D3 ++ [src])), fun v w' => Own w' w.heap.size 5 v (bvs ((vecB D1 ++ vecB D2) ++ (vecB D3 ++ [src]))), fun v w' => Own w' w.heap.size 5 v (bvs ((vecB D1 ++ vecB D2) ++ (vecB D3 ++ [src])))]
    (by kernel_rfl) ?_ (by kernel_rfl) (by kernel_rfl) ?_ ?_
  · exact keeps_cons (fun _ _ _ h _ => h) (keeps_cons (fun _ _ _ h _ => h) (keeps_cons (fun v w1 w2 h hb => Own.below h hb (Nat.le_refl _)) (keeps_cons (fun _ _ _ h _ => h) (keeps_cons (fun _ _ _ h _ => h) (keeps_cons (fun v w1 w2 h hb => Own.below h hb (Nat.le_refl _)) (keeps_cons (fun v w1 w2 h hb => Own.below h hb (Nat.le_refl _)) (keeps_cons (fun _ _ _ h _ => h) (keeps_cons (fun _ _ _ h _ => h) (keeps_cons (fun v w1 w2 h hb => Own.below h hb (Nat.le_refl _)) (keeps_cons (fun _ _ _ h _ => h) (keeps_cons (fun _ _ _ h _ => h) (keeps_cons (fun v w1 w2 h hb => Rd.below h hb (Nat.le_refl _)) (keeps_cons (fun v w1 w2 h hb => Own.below h hb (Nat.le_refl _)) (keeps_cons (fun v w1 w2 h hb => Own.below h hb (Nat.le_refl _)) (keeps_cons (fun v w1 w2 h hb => Own.below h hb (Nat.le_refl _)) (keeps_nil))))))))))))))))
  · refine .cons (owed_go rfl ?_) (.cons (owed_go rfl ?_) (.cons (owed_go rfl ?_) (.cons (owed_go rfl ?_) (.cons (owed_go rfl ?_) (.cons (owed_go rfl ?_) (.cons (owed_go rfl ?_) (.cons (owed_go rfl ?_) (.cons (owed_go rfl ?_) (.cons (owed_go rfl ?_) (.cons (owed_go rfl ?_) (.cons (owed_go rfl ?_) (.cons (owed_go rfl ?_) (.cons (owed_go rfl ?_) (.cons (owed_go rfl ?_) (.cons (owed_go rfl ?_) (.nil))))))))))))))))
    · intro a wx hbx ho hf K hK
      have e0 : a.tmps[1]?.getD undef = .pointer (some ⟨w.heap.size, 0, none⟩) := ho 1 (by kernel_rfl)
      go_simp
      exact hK _ _ rfl (Below.refl _ _)
    · intro a wx hbx ho hf K hK
      have e0 : a.tmps[4]?.getD undef = .pointer (some ⟨w.heap.size, 0, none⟩) := hf.1
      have c0 := (hbx.cell (p := ⟨w.heap.size, 0, none⟩) hgx).trans y0
      go_simp
      exact hK _ _ rfl (Below.refl _ _)
    · intro a wx hbx ho hf K hK
      have e0 : a.tmps[5]?.getD undef = .slice a1 n1 c1 := hf.1
      go_simp
      refine (rvec_any _ D1 wx (r1.below hbx (Nat.le_refl _)) (by have := HL.out; omega)).mono ?_
      rintro e w2 ⟨v2, rfl, hown, hb2⟩
      exact hK _ _ (hown.mono (by have := hbx.size; omega)) hb2
    · intro a wx hbx ho hf K hK
      have e0 : a.tmps[1]?.getD undef = .pointer (some ⟨w.heap.size, 0, none⟩) := ho 1 (by kernel_rfl)
      go_simp
      exact hK _ _ rfl (Below.refl _ _)
    · intro a wx hbx ho hf K hK
      have e0 : a.tmps[7]?.getD undef = .pointer (some ⟨w.heap.size, 1, none⟩) := hf.1
      have c0 := (hbx.cell (p := ⟨w.heap.size, 1, none⟩) hgx).trans y1
      go_simp
      exact hK _ _ rfl (Below.refl _ _)
    · intro a wx hbx ho hf K hK
      have e0 : a.tmps[8]?.getD undef = .slice a2 n2 c2 := hf.1
      go_simp
      refine (rvec_any _ D2 wx (r2.below hbx (Nat.le_refl _)) (by have := HL.out; omega)).mono ?_
      rintro e w2 ⟨v2, rfl, hown, hb2⟩
      exact hK _ _ (hown.mono (by have := hbx.size; omega)) hb2
    · intro a wx hbx ho hf K hK
      have o1 : Own wx w.heap.size 5 (a.tmps[6]?.getD undef) (bvs (vecB D1)) := hf.1
      obtain ⟨v1, hv1⟩ : ∃ v, v = a.tmps[6]?.getD undef := ⟨_, rfl⟩
      rw [← hv1] at o1
      have e1 := hv1.symm
      clear hv1
      have o2 : Own wx w.heap.size 5 (a.tmps[9]?.getD undef) (bvs (vecB D2)) := hf.2.1
      obtain ⟨v2, hv2⟩ : ∃ v, v = a.tmps[9]?.getD undef := ⟨_, rfl⟩
      rw [← hv2] at o2
      have e2 := hv2.symm
      clear hv2
      go_simp
      refine (join16_any v1 v2 _ _ wx o1.rd o2.rd (by omega)).mono ?_
      rintro e w2 ⟨v9, rfl, hown, hb2⟩
      exact hK _ _ (hown.mono (by have := hbx.size; omega)) hb2
    · intro a wx hbx ho hf K hK
      have e0 : a.tmps[1]?.getD undef = .pointer (some ⟨w.heap.size, 0, none⟩) := ho 1 (by kernel_rfl)
      go_simp
      exact hK _ _ rfl (Below.refl _ _)
    · intro a wx hbx ho hf K hK
      have e0 : a.tmps[11]?.getD undef = .pointer (some ⟨w.heap.size, 2, none⟩) := hf.1
      have c0 := (hbx.cell (p := ⟨w.heap.size, 2, none⟩) hgx).trans y2
      go_simp
      exact hK _ _ rfl (Below.refl _ _)
    · intro a wx hbx ho hf K hK
      have e0 : a.tmps[12]?.getD undef = .slice a3 n3 c3 := hf.1
      go_simp
      refine (rvec_any _ D3 wx (r3.below hbx (Nat.le_refl _)) (by have := HL.out; omega)).mono ?_
      rintro e w2 ⟨v2, rfl, hown, hb2⟩
      exact hK _ _ (hown.mono (by have := hbx.size; omega)) hb2
    · intro a wx hbx ho hf K hK
      have e0 : a.tmps[1]?.getD undef = .pointer (some ⟨w.heap.size, 0, none⟩) := ho 1 (by kernel_rfl)
      go_simp
      exact hK _ _ rfl (Below.refl _ _)
    · intro a wx hbx ho hf K hK
      have e0 : a.tmps[14]?.getD undef = .pointer (some ⟨w.heap.size, 3, none⟩) := hf.1
      have c0 := (hbx.cell (p := ⟨w.heap.size, 3, none⟩) hgx).trans y3
      go_simp
      exact hK _ _ rfl (Below.refl _ _)
    · intro a wx hbx ho hf K hK
      have e0 : a.tmps[15]?.getD undef = .int .u8 (src : Nat) := hf.1
      go_simp
      exact hK _ _ (lit_rd (cs := #[.int .u8 (src : Nat)]) (L := [src]) rfl rfl (by simp)) ((Below.refl _ _).alloc (Nat.le_refl _) _)
    · intro a wx hbx ho hf K hK
      have o1 : Own wx w.heap.size 5 (a.tmps[13]?.getD undef) (bvs (vecB D3)) := hf.1
      obtain ⟨v1, hv1⟩ : ∃ v, v = a.tmps[13]?.getD undef := ⟨_, rfl⟩
      rw [← hv1] at o1
      have e1 := hv1.symm
      clear hv1
      have o2 : Rd wx (a.tmps[16]?.getD undef) (bvs [src]) := hf.2.1
      obtain ⟨v2, hv2⟩ : ∃ v, v = a.tmps[16]?.getD undef := ⟨_, rfl⟩
      rw [← hv2] at o2
      have e2 := hv2.symm
      clear hv2
      go_simp
      refine (join16_any v1 v2 _ _ wx o1.rd o2 (by simp only [List.length_cons, List.length_nil]; omega)).mono ?_
      rintro e w2 ⟨v9, rfl, hown, hb2⟩
      exact hK _ _ (hown.mono (by have := hbx.size; omega)) hb2
    · intro a wx hbx ho hf K hK
      have o1 : Own wx w.heap.size 5 (a.tmps[10]?.getD undef) (bvs (vecB D1 ++ vecB D2)) := hf.1
      obtain ⟨v1, hv1⟩ : ∃ v, v = a.tmps[10]?.getD undef := ⟨_, rfl⟩
      rw [← hv1] at o1
      have e1 := hv1.symm
      clear hv1
      have o2 : Own wx w.heap.size 5 (a.tmps[17]?.getD undef) (bvs (vecB D3 ++ [src])) := hf.2.1
      obtain ⟨v2, hv2⟩ : ∃ v, v = a.tmps[17]?.getD undef := ⟨_, rfl⟩
      rw [← hv2] at o2
      have e2 := hv2.symm
      clear hv2
      go_simp
      refine (join16_any v1 v2 _ _ wx o1.rd o2.rd (by simp only [List.length_append, List.length_cons, List.length_nil]; omega)).mono ?_
      rintro e w2 ⟨v9, rfl, hown, hb2⟩
      exact hK _ _ (hown.mono (by have := hbx.size; omega)) hb2
    · intro a wx hbx ho hf K hK
      have o0 : Own wx w.heap.size 5 (a.tmps[18]?.getD undef) (bvs ((vecB D1 ++ vecB D2) ++ (vecB D3 ++ [src]))) := hf.1
      obtain ⟨v0, hv0⟩ : ∃ v, v = a.tmps[18]?.getD undef := ⟨_, rfl⟩
      rw [← hv0] at o0
      have e0 := hv0.symm
      clear hv0
      go_simp
      exact hK _ _ o0 (Below.refl _ _)
  · rintro f w3 hb3 ⟨-, -, -, -, -, -, -, -, -, -, -, -, -, -, -, f8, -⟩
    have h8 : Own w3 w.heap.size 5 (f 3) (bvs ((vecB D1 ++ vecB D2) ++ (vecB D3 ++ [src]))) := f8
    have H8 := Lib.hid h8
    have x3 := (hb3.cell (p := ⟨w.heap.size, 3, none⟩) hgx).trans HY3.out
    have x4 := (hb3.cell (p := ⟨w.heap.size, 4, none⟩) hgx).trans HY4.out
    have HR := Lib.hid (HR4.out.below hb3 (Nat.le_refl _))
    have HB3 := Lib.hid (HW0.out.trans (hb3.mono (show w.heap.size ≤ W1.heap.size by omega)))
    have hgx3 : w.heap.size < w3.heap.size := by have := hb3.size; omega
    clear h8 f8 hb3 y0 y1 y2 y3 y4 r1 r2 r3 r4
    simp only [frameOf, dstsOf, zipF, List.filterMap_cons, List.filterMap_nil, List.contains_cons, List.contains_nil, Nat.reduceBEq, Nat.reduceAdd, Bool.or_false, Bool.or_true, cond_true, cond_false]
    by_cases k3 : src = 3
    · have t3 : ((src : Int) == 3) = true := by rw [beq_iff_eq]; omega
      have HUU := HU.out
      rw [if_pos k3] at HUU
      have HU3 := Lib.hid HUU
      have HV := Lib.hid (rvec_any _ D4 w3 HR.out (by have := HL.out; omega))
      clear k3 HUU
      go_wp2_with fail
      refine HV.out.mono ?_
      rintro e w4 ⟨v4, rfl, hown, hb4⟩
      have HJ := Lib.hid (join16_any (f 3) v4 _ _ w4 (H8.out.rd.below hb4 (Nat.le_refl _)) hown.rd (by simp only [List.length_append, List.length_cons, List.length_nil]; omega))
      have hz4 := hb4.size
      have HB4 := Lib.hid (HB3.out.trans (hb4.mono (by omega)))
      clear hown hb4
      go_wp2_with fail
      refine HJ.out.mono ?_
      rintro e w5 ⟨v5, rfl, hown, hb5⟩
      have HO5 := Lib.hid (hown.mono (show w.heap.size ≤ w4.heap.size by omega))
      have HB5 := Lib.hid (HB4.out.trans (hb5.mono (by omega)))
      clear hown hb5
      go_wp2_with fail
      go_ret
      exact ⟨_, rfl, by rw [HU3.out]; exact HO5.out, HB5.out⟩
    · have t3 : ((src : Int) == 3) = false := by rw [beq_eq_false_iff_ne]; omega
      have HUU := HU.out
      rw [if_neg k3, List.append_nil] at HUU
      have HU3 := Lib.hid HUU
      clear k3 HUU
      go_wp2_with fail
      go_ret
      exact ⟨_, rfl, by rw [HU3.out]; exact H8.out, HB3.out⟩
end Go.Proofs.Ytohldijomcljkaa
