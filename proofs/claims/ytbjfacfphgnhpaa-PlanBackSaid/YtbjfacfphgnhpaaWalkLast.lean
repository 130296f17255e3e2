/- Walks: the reference's Last. -/
import Derived.Test.YtbjfacfphgnhpaaWalkDown
namespace Go.Proofs.Ytbjfacfphgnhpaa
open Go.RowKit WalkM
/-- a block that was made ahead of a call stands behind it -/
theorem boxAt {w w' : World} {cs : Array Value} {e : TypeId} (hb : Below (w.alloc (.cells cs e)).heap.size (w.alloc (.cells cs e)) w') : w'.heap[w.heap.size]? = some (.cells cs e (0, 0)) :=
  (hb.block _ (by simp)).trans (heap_alloc_new w _)
set_option maxRecDepth 100000 in
set_option maxHeartbeats 1000000 in
theorem last_on (x d : Nat) (hd : d ≤ 16) (hx : x + 1 < 2 ^ (d + 1)) (w : World) :
    Calls Try.prog 44 #[.int .i64 x, .int .i64 ((2 ^ d : Nat) : Int)] w fun e w' => e = .returned (.tuple #[.agg #[.int .i64 x, .int .i64 (plo x (lev x) : Nat), .int .i64 (phi x (lev x) : Nat)], .bool true]) ∧ Below w.heap.size w w' := by
  have D := fun w => down_on x d hd hx w
  have h17 := two_pow_le (show d + 1 ≤ 17 by omega)
  have hlev := lev_is (x := x) (by omega)
  have hself := anc_self hlev
  have hl := (lev_root hx hlev).1
  have g0 := dnodes_get x d (d - lev x + 1) (d - lev x) 0 (by omega) (by omega)
  have g1 := dnodes_get x d (d - lev x + 1) (d - lev x) 1 (by omega) (by omega)
  have g2 := dnodes_get x d (d - lev x + 1) (d - lev x) 2 (by omega) (by omega)
  have e1 : d - (d - lev x) = lev x := by omega
  rw [e1, nodeC, hself] at g0 g1 g2
  obtain ⟨m, hm⟩ : ∃ m, m = d - lev x := ⟨_, rfl⟩
  have hm16 : m ≤ 16 := by omega
  rw [← hm] at D g0 g1 g2
  obtain ⟨lo, hlo⟩ : ∃ a, a = plo x (lev x) := ⟨_, rfl⟩
  obtain ⟨hi, hhi⟩ : ∃ a, a = phi x (lev x) := ⟨_, rfl⟩
  rw [← hlo, ← hhi] at g0 g1 g2 ⊢
  have G0 := Lib.hid g0
  have G1 := Lib.hid g1
  have G2 := Lib.hid g2
  have HD := Lib.hid D
  clear D g0 g1 g2 hm hlo hhi e1 hl hself hlev h17 hx
  go_enter Try.func44, Try.ntmps44
  go_wp2_with fail
  refine (HD.out _).mono ?_
  rintro e w' ⟨v, rfl, hown, hbel⟩
  obtain ⟨g, cap, rfl, hg, hgl, hn, hmx, hc, -⟩ := hown.out (by omega)
  have c0 := hc _ _ G0.out
  have c1 := hc _ _ G1.out
  have c2 := hc _ _ G2.out
  rw [Nat.add_zero] at c0
  have hb := boxAt hbel
  have HK : Hid (Blk w' w.heap.size 49 _) := Lib.hid hb
  have HB := Lib.hid hbel
  clear hc hown hbel hb
  go_wp2_with (refine wpList_store_blk rfl 49 (.tmp 4) (.tmp 19) rfl w.heap.size #[.int .i64 x, .int .i64 lo, .int .i64 hi] rfl rfl _ _ HK.out (by kernel_rfl) rfl rfl ?_)
  rintro w2 hk2 hb2 - -
  have HK2 := Lib.hid hk2
  have HB2 := Lib.hid (hb2 _ (Nat.le_refl _))
  clear hk2 hb2
  go_wp2_with fail
  refine bodyPost_ret (v := .tuple #[.agg #[.int .i64 x, .int .i64 lo, .int .i64 hi], .bool true]) (results_row2 Try.results44 _ _ w.heap.size _ _ _ rfl HK2.out Try.underlying49 rfl (by kernel_rfl)) rfl ⟨rfl, ?_⟩
  exact (((Below.refl _ _).alloc (Nat.le_refl _) _).trans (HB.out.mono (by simp))).trans HB2.out
end Go.Proofs.Ytbjfacfphgnhpaa
