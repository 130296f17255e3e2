/- Walks: scalar's order, sub, add. -/
import Derived.Test.YtkihcngllhjabaaProg
import Derived.Test.YtkihcngllhjabaaBitsLib
import Derived.Test.YtkihcngllhjabaaOpen
import Derived.Test.YtkihcngllhjabaaMemK
import Derived.Test.YtkihcngllhjabaaScMath
import Derived.WalkSpells
import Derived.WalkLawsBesides
import Derived.Deep.LoopGhost
import Derived.Laws.Externs
namespace Go.Proofs.Ytkihcngllhjabaa
open Go.RowKit ScM
/-- The model's row for bits.Sub64. -/
def sub64E : Array Value → Sem Value := fun args => do
  let (x, y, b) ← Extern.MathBitsCarry.three "Sub64" args
  pure (Extern.MathBitsCarry.pair ((x + Extern.MathBitsCarry.m64 - y - b) % Extern.MathBitsCarry.m64) (if x < y + b then 1 else 0))
theorem run_sub64E {P : Program} (x y b : Nat) (hb : b ≤ 1) (w : World) :
    (sub64E #[.int .u64 x, .int .u64 y, .int .u64 b]).run P w =
      .ok (.tuple #[.int .u64 (((x + 18446744073709551616 - y - b) % 18446744073709551616 : Nat) : Int), .int .u64 ((if x < y + b then 1 else 0 : Nat) : Int)]) w := by
  have : b = 0 ∨ b = 1 := by omega
  rcases this with rfl | rfl <;> rfl
theorem call_sub64 (x y b : Nat) (hb : b ≤ 1) (w : World) :
    (callFunc 88 #[.int .u64 x, .int .u64 y, .int .u64 b]).run Try.prog w =
      .ok (.value (.tuple #[.int .u64 (((x + 18446744073709551616 - y - b) % 18446744073709551616 : Nat) : Int), .int .u64 ((if x < y + b then 1 else 0 : Nat) : Int)])) w := by
  rw [run_callFunc_extern Try.func88 (by kernel_rfl) (by kernel_rfl) (by kernel_rfl) (e := sub64E) (by kernel_rfl), run_sub64E x y b hb]
  rfl
theorem call_add64 (x y c : Nat) (hc : c ≤ 1) (w : World) :
    (callFunc 64 #[.int .u64 x, .int .u64 y, .int .u64 c]).run Try.prog w =
      .ok (.value (.tuple #[.int .u64 (((x + y + c) % 18446744073709551616 : Nat) : Int), .int .u64 (((x + y + c) / 18446744073709551616 : Nat) : Int)])) w := by
  rw [run_callFunc_extern Try.func64 (by kernel_rfl) (by kernel_rfl) (by kernel_rfl) (e := add64Entry) (by kernel_rfl), run_add64 x y c (by omega) (by omega) (by omega) (by omega)]
  simp only [Result.andThen]
  congr 5 <;> omega
theorem w4_get {n i : Nat} (h : i < 4) : (w4 n)[i]? = some (.int .u64 ((wd n i : Nat) : Int)) := by
  obtain rfl | rfl | rfl | rfl : i = 0 ∨ i = 1 ∨ i = 2 ∨ i = 3 := by omega
  all_goals rfl
/-- the first words of a number, noughts behind them -/
def ws (s i : Nat) : Array Value := #[u6 (if 0 < i then wd s 0 else 0), u6 (if 1 < i then wd s 1 else 0), u6 (if 2 < i then wd s 2 else 0), u6 (if 3 < i then wd s 3 else 0)]
theorem ws_set {s i : Nat} (h : i < 4) : (ws s i).setIfInBounds i (.int .u64 ((wd s i : Nat) : Int)) = ws s (i + 1) := by
  obtain rfl | rfl | rfl | rfl : i = 0 ∨ i = 1 ∨ i = 2 ∨ i = 3 := by omega
  all_goals rfl
theorem ws_get {s i : Nat} (h : i < 4) : ∃ u, (ws s i)[i]? = some u := by
  obtain rfl | rfl | rfl | rfl : i = 0 ∨ i = 1 ∨ i = 2 ∨ i = 3 := by omega
  all_goals exact ⟨_, rfl⟩
theorem blk2 (w : World) (A B : Array Value) (t1 t2 : TypeId) :
    Blk ((w.alloc (.cells A t1)).alloc (.cells B t2)) w.heap.size t1 A ∧ Blk ((w.alloc (.cells A t1)).alloc (.cells B t2)) (w.heap.size + 1) t2 B ∧
      Below w.heap.size w ((w.alloc (.cells A t1)).alloc (.cells B t2)) := by
  refine ⟨(Blk.new w t1 A).alloc _, ?_, ((Below.refl _ _).alloc (Nat.le_refl _) _).alloc (by simp) _⟩
  have := Blk.new (w.alloc (.cells A t1)) t2 B
  have e : (w.alloc (.cells A t1)).heap.size = w.heap.size + 1 := by simp
  rwa [e] at this
theorem blk4 (w : World) (A B C D : Array Value) (t1 t2 t3 t4 : TypeId) :
    Blk ((((w.alloc (.cells A t1)).alloc (.cells B t2)).alloc (.cells C t3)).alloc (.cells D t4)) w.heap.size t1 A ∧
    Blk ((((w.alloc (.cells A t1)).alloc (.cells B t2)).alloc (.cells C t3)).alloc (.cells D t4)) (w.heap.size + 1) t2 B ∧
    Blk ((((w.alloc (.cells A t1)).alloc (.cells B t2)).alloc (.cells C t3)).alloc (.cells D t4)) (w.heap.size + 2) t3 C ∧
    Blk ((((w.alloc (.cells A t1)).alloc (.cells B t2)).alloc (.cells C t3)).alloc (.cells D t4)) (w.heap.size + 3) t4 D ∧
      Below w.heap.size w ((((w.alloc (.cells A t1)).alloc (.cells B t2)).alloc (.cells C t3)).alloc (.cells D t4)) := by
  obtain ⟨h1, h2, h3⟩ := blk2 w A B t1 t2
  obtain ⟨k1, k2, k3⟩ := blk2 ((w.alloc (.cells A t1)).alloc (.cells B t2)) C D t3 t4
  have e : ((w.alloc (.cells A t1)).alloc (.cells B t2)).heap.size = w.heap.size + 2 := by simp
  rw [e] at k1 k2 k3
  exact ⟨(h1.alloc _).alloc _, (h2.alloc _).alloc _, k1, k2, h3.trans (k3.mono (by omega))⟩
def P256 : Nat := 115792089237316195423570985008687907853269984665640564039457584007913129639936
set_option maxRecDepth 100000 in
set_option maxHeartbeats 4000000 in
theorem ssub_any (a b : Nat) (w : World) (ha : a < P256) (hb : b < P256) :
    Calls Try.prog 59 #[.agg (w4 a), .agg (w4 b)] w fun e w' => e = .returned (.tuple #[.agg (w4 (dif a b)), .int .u64 (bor a b 4 : Nat)]) ∧ Below w.heap.size w w' := by
  obtain ⟨CA, hCA⟩ : ∃ C, C = w4 a := ⟨_, rfl⟩
  obtain ⟨CB, hCB⟩ : ∃ C, C = w4 b := ⟨_, rfl⟩
  obtain ⟨s, hs⟩ : ∃ s, s = dif a b := ⟨_, rfl⟩
  rw [← hCA, ← hCB, ← hs]
  have hCAs : CA.size = 4 := by rw [hCA]; rfl
  have hCBs : CB.size = 4 := by rw [hCB]; rfl
  have HST : Hid (∀ i, i < 4 → ∀ w, ∃ x y c s2 c2 : Nat, c = bor a b i ∧ s2 = wd s i ∧ c2 = bor a b (i + 1) ∧ CA[i]? = some (.int .u64 (x : Nat)) ∧ CB[i]? = some (.int .u64 (y : Nat)) ∧ (callFunc 88 #[.int .u64 (x : Nat), .int .u64 (y : Nat), .int .u64 (c : Nat)]).run Try.prog w = .ok (.value (.tuple #[.int .u64 (s2 : Nat), .int .u64 (c2 : Nat)])) w) := Lib.hid (by
    intro i hi w
    refine ⟨wd a i, wd b i, bor a b i, wd s i, bor a b (i + 1), rfl, rfl, rfl, by rw [hCA]; exact w4_get hi, by rw [hCB]; exact w4_get hi, ?_⟩
    rw [call_sub64 _ _ _ (bor_le a b i), hs]
    obtain ⟨e1, e2⟩ := sub_word a b i hi ha hb
    rw [e1, e2])
  have HS := Lib.hid hs
  have hz : ∀ w : World, ws s 0 = #[.int .u64 0, .int .u64 0, .int .u64 0, .int .u64 0] := fun _ => rfl
  obtain ⟨k1, k2, k3, k4, k5⟩ := blk4 w CA CB (ws s 0) (ws s 0) 25 25 25 25
  rw [hz w] at k1 k2 k3 k4 k5
  have K1 := Lib.hid k1
  have K2 := Lib.hid k2
  have K3 := Lib.hid k3
  have K4 := Lib.hid k4
  have K5 := Lib.hid k5
  clear k1 k2 k3 k4 k5 hCA hCB hs ha hb hz
  go_enter Try.func59, Try.ntmps59
  go_wp2_with fail
  go_loopg [7, 9] 4 (fun q cv iv wr => ∃ (i c : Nat), i + q = 4 ∧ cv = .int .u64 (c : Nat) ∧ c = bor a b i ∧ iv = .int .i64 (i : Nat) ∧ Blk wr w.heap.size 25 CA ∧ Blk wr (w.heap.size + 1) 25 CB ∧ Blk wr (w.heap.size + 2) 25 (ws s 0) ∧ Blk wr (w.heap.size + 3) 25 (ws s i) ∧ Below w.heap.size w wr)
  case atStart => exact ⟨0, 0, rfl, rfl, rfl, rfl, K1.out, K2.out, K3.out, K4.out, K5.out⟩
  case round =>
    obtain ⟨i, c, hi, rfl, hc, rfl, k1, k2, k3, k4, k5⟩ := hrel
    have J1 := Lib.hid k1
    have J2 := Lib.hid k2
    have J3 := Lib.hid k3
    have J4 := Lib.hid k4
    have J5 := Lib.hid k5
    have HI := Lib.hid hi
    have HC := Lib.hid hc
    clear K1 K2 K3 K4 K5
    by_cases hi4 : i < 4
    · have hi4' : decide ((i : Int) < 4) = true := by rw [decide_eq_true_iff]; omega
      obtain ⟨x, y, c', s2, c2, hc', hs2, hc2, g1, g2, -⟩ := HST.out i hi4 wr
      have E : ∀ w, (callFunc 88 #[.int .u64 (x : Nat), .int .u64 (y : Nat), .int .u64 (c : Nat)]).run Try.prog w = .ok (.value (.tuple #[.int .u64 (s2 : Nat), .int .u64 (c2 : Nat)])) w := by
        intro w
        obtain ⟨x', y', c'', s2', c2', e1, e2, e3, e4, e5, e6⟩ := HST.out i hi4 w
        have f1 : (x' : Int) = x := by rw [g1] at e4; simpa using e4.symm
        have f2 : (y' : Int) = y := by rw [g2] at e5; simpa using e5.symm
        rw [f1, f2, show c'' = c from by rw [e1, hc], show s2' = s2 from by rw [e2, hs2], show c2' = c2 from by rw [e3, hc2]] at e6
        exact e6
      have q1 := k1.cell i
      have q2 := k2.cell i
      rw [g1] at q1
      rw [g2] at q2
      obtain ⟨u, hu⟩ := ws_get (s := s) hi4
      have q3 := k4.cell i
      rw [hu] at q3
      have q4 := k4.frozen i
      have HS2 := Lib.hid hs2
      have HC2 := Lib.hid hc2
      clear k1 k2 k3 k4 k5 hc hc' hs2 hc2 hu g1 g2 hi
      go_wp2_with fail
      go_region
      go_wp2_with fail
      go_roundg (gk - 1)
      case measure => have := HI.out; omega
      case rel =>
        refine ⟨i + 1, c2, by have := HI.out; omega, rfl, HC2.out, by go_num, ?_, ?_, ?_, ?_, ?_⟩
        · exact ((J1.out.drewN _).far (by simp only []; omega) _)
        · exact ((J2.out.drewN _).far (by simp only []; omega) _)
        · exact ((J3.out.drewN _).far (by simp only []; omega) _)
        · rw [← ws_set hi4, ← HS2.out]
          exact (J4.out.drewN _).set _ _
        · exact (below_drewN' J5.out _).setCell (by simp only []; omega) _
    · obtain rfl : i = 4 := by omega
      clear k1 k2 k3 k4 k5 hc hi
      go_wp2_with (first
        | (refine wpList_load_at rfl 25 (.tmp 6) rfl (w.heap.size + 3) rfl 25 (ws s 4) (0, 0) _ J4.out Try.underlying25 rfl (by kernel_rfl) ?_)
        | (refine wpList_store_blk rfl 25 (.tmp 4) (.tmp 26) rfl (w.heap.size + 2) (ws s 4) rfl rfl _ _ J3.out (by kernel_rfl) rfl rfl ?_))
      rintro w2 hk2 hb2 - -
      have JK := Lib.hid hk2
      have JB := Lib.hid (J5.out.trans (hb2 _ (by omega)))
      clear hk2 hb2
      go_wp2_with fail
      refine bodyPost_ret (v := .tuple #[.agg (w4 s), .int .u64 (c : Nat)]) (results_row2 Try.results59 _ _ (w.heap.size + 2) _ _ _ rfl JK.out Try.underlying25 rfl (by kernel_rfl)) rfl ⟨?_, JB.out⟩
      rw [HC.out]
set_option maxRecDepth 100000 in
set_option maxHeartbeats 4000000 in
theorem sadd_any (a b : Nat) (w : World) (ha : a < P256) (hb : b < P256) :
    Calls Try.prog 65 #[.agg (w4 a), .agg (w4 b)] w fun e w' => e = .returned (.tuple #[.agg (w4 (sm a b)), .int .u64 (car a b 4 : Nat)]) ∧ Below w.heap.size w w' := by
  obtain ⟨CA, hCA⟩ : ∃ C, C = w4 a := ⟨_, rfl⟩
  obtain ⟨CB, hCB⟩ : ∃ C, C = w4 b := ⟨_, rfl⟩
  obtain ⟨s, hs⟩ : ∃ s, s = sm a b := ⟨_, rfl⟩
  rw [← hCA, ← hCB, ← hs]
  have hCAs : CA.size = 4 := by rw [hCA]; rfl
  have hCBs : CB.size = 4 := by rw [hCB]; rfl
  have HST : Hid (∀ i, i < 4 → ∀ w, ∃ x y c s2 c2 : Nat, c = car a b i ∧ s2 = wd s i ∧ c2 = car a b (i + 1) ∧ CA[i]? = some (.int .u64 (x : Nat)) ∧ CB[i]? = some (.int .u64 (y : Nat)) ∧ (callFunc 64 #[.int .u64 (x : Nat), .int .u64 (y : Nat), .int .u64 (c : Nat)]).run Try.prog w = .ok (.value (.tuple #[.int .u64 (s2 : Nat), .int .u64 (c2 : Nat)])) w) := Lib.hid (by
    intro i hi w
    refine ⟨wd a i, wd b i, car a b i, wd s i, car a b (i + 1), rfl, rfl, rfl, by rw [hCA]; exact w4_get hi, by rw [hCB]; exact w4_get hi, ?_⟩
    rw [call_add64 _ _ _ (car_le a b i ha hb), hs]
    obtain ⟨e1, e2⟩ := add_word a b i hi ha hb
    rw [e1, e2])
  have HS := Lib.hid hs
  have hz : ∀ w : World, ws s 0 = #[.int .u64 0, .int .u64 0, .int .u64 0, .int .u64 0] := fun _ => rfl
  obtain ⟨k1, k2, k3, k4, k5⟩ := blk4 w CA CB (ws s 0) (ws s 0) 25 25 25 25
  rw [hz w] at k1 k2 k3 k4 k5
  have K1 := Lib.hid k1
  have K2 := Lib.hid k2
  have K3 := Lib.hid k3
  have K4 := Lib.hid k4
  have K5 := Lib.hid k5
  clear k1 k2 k3 k4 k5 hCA hCB hs ha hb hz
  go_enter Try.func65, Try.ntmps65
  go_wp2_with fail
  go_loopg [7, 9] 4 (fun q cv iv wr => ∃ (i c : Nat), i + q = 4 ∧ cv = .int .u64 (c : Nat) ∧ c = car a b i ∧ iv = .int .i64 (i : Nat) ∧ Blk wr w.heap.size 25 CA ∧ Blk wr (w.heap.size + 1) 25 CB ∧ Blk wr (w.heap.size + 2) 25 (ws s 0) ∧ Blk wr (w.heap.size + 3) 25 (ws s i) ∧ Below w.heap.size w wr)
  case atStart => exact ⟨0, 0, rfl, rfl, rfl, rfl, K1.out, K2.out, K3.out, K4.out, K5.out⟩
  case round =>
    obtain ⟨i, c, hi, rfl, hc, rfl, k1, k2, k3, k4, k5⟩ := hrel
    have J1 := Lib.hid k1
    have J2 := Lib.hid k2
    have J3 := Lib.hid k3
    have J4 := Lib.hid k4
    have J5 := Lib.hid k5
    have HI := Lib.hid hi
    have HC := Lib.hid hc
    clear K1 K2 K3 K4 K5
    by_cases hi4 : i < 4
    · have hi4' : decide ((i : Int) < 4) = true := by rw [decide_eq_true_iff]; omega
      obtain ⟨x, y, c', s2, c2, hc', hs2, hc2, g1, g2, -⟩ := HST.out i hi4 wr
      have E : ∀ w, (callFunc 64 #[.int .u64 (x : Nat), .int .u64 (y : Nat), .int .u64 (c : Nat)]).run Try.prog w = .ok (.value (.tuple #[.int .u64 (s2 : Nat), .int .u64 (c2 : Nat)])) w := by
        intro w
        obtain ⟨x', y', c'', s2', c2', e1, e2, e3, e4, e5, e6⟩ := HST.out i hi4 w
        have f1 : (x' : Int) = x := by rw [g1] at e4; simpa using e4.symm
        have f2 : (y' : Int) = y := by rw [g2] at e5; simpa using e5.symm
        rw [f1, f2, show c'' = c from by rw [e1, hc], show s2' = s2 from by rw [e2, hs2], show c2' = c2 from by rw [e3, hc2]] at e6
        exact e6
      have q1 := k1.cell i
      have q2 := k2.cell i
      rw [g1] at q1
      rw [g2] at q2
      obtain ⟨u, hu⟩ := ws_get (s := s) hi4
      have q3 := k4.cell i
      rw [hu] at q3
      have q4 := k4.frozen i
      have HS2 := Lib.hid hs2
      have HC2 := Lib.hid hc2
      clear k1 k2 k3 k4 k5 hc hc' hs2 hc2 hu g1 g2 hi
      go_wp2_with fail
      go_region
      go_wp2_with fail
      go_roundg (gk - 1)
      case measure => have := HI.out; omega
      case rel =>
        refine ⟨i + 1, c2, by have := HI.out; omega, rfl, HC2.out, by go_num, ?_, ?_, ?_, ?_, ?_⟩
        · exact ((J1.out.drewN _).far (by simp only []; omega) _)
        · exact ((J2.out.drewN _).far (by simp only []; omega) _)
        · exact ((J3.out.drewN _).far (by simp only []; omega) _)
        · rw [← ws_set hi4, ← HS2.out]
          exact (J4.out.drewN _).set _ _
        · exact (below_drewN' J5.out _).setCell (by simp only []; omega) _
    · obtain rfl : i = 4 := by omega
      clear k1 k2 k3 k4 k5 hc hi
      go_wp2_with (first
        | (refine wpList_load_at rfl 25 (.tmp 6) rfl (w.heap.size + 3) rfl 25 (ws s 4) (0, 0) _ J4.out Try.underlying25 rfl (by kernel_rfl) ?_)
        | (refine wpList_store_blk rfl 25 (.tmp 4) (.tmp 26) rfl (w.heap.size + 2) (ws s 4) rfl rfl _ _ J3.out (by kernel_rfl) rfl rfl ?_))
      rintro w2 hk2 hb2 - -
      have JK := Lib.hid hk2
      have JB := Lib.hid (J5.out.trans (hb2 _ (by omega)))
      clear hk2 hb2
      go_wp2_with fail
      refine bodyPost_ret (v := .tuple #[.agg (w4 s), .int .u64 (c : Nat)]) (results_row2 Try.results65 _ _ (w.heap.size + 2) _ _ _ rfl JK.out Try.underlying25 rfl (by kernel_rfl)) rfl ⟨?_, JB.out⟩
      rw [HC.out]
set_option maxRecDepth 100000 in
theorem sorder_any (w : World) :
    Calls Try.prog 60 #[] w fun e w' => e = .returned (.agg (w4 L)) ∧ Below w.heap.size w w' := by
  have hL : w4 L = #[.int .u64 6346243789798364141, .int .u64 1503914060200516822, .int .u64 0, .int .u64 1152921504606846976] := by kernel_rfl
  have K := Blk.new w 25 #[.int .u64 0, .int .u64 0, .int .u64 0, .int .u64 0]
  have JK := Lib.hid K
  clear K
  rw [hL]
  clear hL
  go_enter Try.func60, Try.ntmps60
  go_wp2_with fail
  refine bodyPost_ret (v := .agg #[.int .u64 6346243789798364141, .int .u64 1503914060200516822, .int .u64 0, .int .u64 1152921504606846976]) (results_row1 Try.results60 _ _ w.heap.size _ _ _ rfl (Blk.new w _ _) Try.underlying25 rfl (by kernel_rfl)) rfl ⟨rfl, (Below.refl _ _).alloc (Nat.le_refl _) _⟩
end Go.Proofs.Ytkihcngllhjabaa
