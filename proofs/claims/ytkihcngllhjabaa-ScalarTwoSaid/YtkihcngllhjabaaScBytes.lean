/- Walks: scalar's Same, Bit, Bytes, Add. -/
import Derived.Test.YtkihcngllhjabaaScOf
import Derived.Laws.StructEq
namespace Go.Proofs.Ytkihcngllhjabaa
open Go.RowKit ScM
set_option linter.unusedVariables false
theorem all_range4 : ∀ (xs ys : List Int), xs.length = ys.length → ((List.range xs.length).all fun i => xs.getD i 0 == ys.getD i 0) = (xs == ys)
  | [], [], _ => rfl
  | x :: xs, y :: ys, h => by
    have ih := all_range4 xs ys (by simpa using h)
    rw [List.length_cons, List.range_succ_eq_map, List.all_cons, List.all_map]
    simp only [List.getD_cons_zero, Function.comp_def, List.getD_cons_succ, ih]
    simp [List.cons_beq_cons]
  | [], _ :: _, h => by simp at h
  | _ :: _, [], h => by simp at h
/-- arrays of words are the same when their words are -/
theorem equal_words (d : Nat) (t e : TypeId) (n : Nat) (w : World) (ht : Try.prog.underlying t = some (.array n e)) (he : Try.prog.underlying e = some (.int .u64)) (hsz : ∀ w, (sizeOf e).run Try.prog w = .ok 1 w)
    (xs ys : List Int) (hx : xs.length = n) (hy : ys.length = n) :
    (Op.equalIn (d + 2) t (.agg (xs.map (Value.int .u64)).toArray) (.agg (ys.map (Value.int .u64)).toArray)).run Try.prog w = .ok (xs == ys) w := by
  rw [← all_range4 xs ys (hx.trans hy.symm), hx, List.range_eq_range', Op.equalIn]
  simp only [Sem.run_bind, run_underlying ht, Result.andThen_ok, hsz, Std.Legacy.Range.forIn_eq_forIn_range', Std.Legacy.Range.size, Nat.sub_zero, Nat.add_sub_cancel, Nat.div_one]
  have hl : ∀ i ∈ List.range' 0 n 1, i < n := fun i hi => by simpa using (List.mem_range'_1.1 hi).2
  generalize List.range' 0 n 1 = l at hl ⊢
  induction l with
  | nil => simp
  | cons i l ih =>
    have hi : i < n := hl i (by simp)
    have px : (part e (xs.map (Value.int .u64)).toArray (i * 1)).run Try.prog w = .ok (.int .u64 (xs.getD i 0)) w := by
      simp [part, isAgg, run_underlying he, List.getD, List.getElem?_eq_getElem (show i < xs.length by omega)]
    have py : (part e (ys.map (Value.int .u64)).toArray (i * 1)).run Try.prog w = .ok (.int .u64 (ys.getD i 0)) w := by
      simp [part, isAgg, run_underlying he, List.getD, List.getElem?_eq_getElem (show i < ys.length by omega)]
    have pe : (Op.equalIn (d + 1) e (.int .u64 (xs.getD i 0)) (.int .u64 (ys.getD i 0))).run Try.prog w = .ok (xs.getD i 0 == ys.getD i 0) w := run_equalIn_int w d e .u64 .u64 _ _ he
    simp only [List.forIn_cons, Sem.run_bind, px, py, pe, Result.andThen_ok, List.all_cons]
    cases hb : (xs.getD i 0 == ys.getD i 0)
    · simp
    · simp only [Bool.not_true, Bool.false_eq_true, if_false, Sem.run_pure, Result.andThen_ok, Bool.true_and]
      exact ih fun j hj => hl j (by simp [hj])
def wl (x : Nat) : List Int := [(wd x 0 : Int), (wd x 1 : Int), (wd x 2 : Int), (wd x 3 : Int)]
theorem wl_eq {x y : Nat} (hx : x < P256) (hy : y < P256) : (wl x == wl y) = decide (x = y) := by
  by_cases h : x = y
  · subst h; simp
  · rw [decide_eq_false h]
    rw [beq_eq_false_iff_ne]
    intro e
    apply h
    simp only [wl, List.cons.injEq, and_true] at e
    refine w4_inj hx hy fun i hi => ?_
    obtain rfl | rfl | rfl | rfl : i = 0 ∨ i = 1 ∨ i = 2 ∨ i = 3 := by omega
    all_goals omega
theorem part_S (x : Nat) (w : World) : (part 25 (w4 x) 0).run Try.prog w = .ok (.agg (w4 x)) w := by kernel_rfl
theorem eql_S (x y : Nat) (hx : x < P256) (hy : y < P256) (w : World) : (binOp .eql 27 (.agg (w4 x)) (.agg (w4 y))).run Try.prog w = .ok (.bool (decide (x = y))) w := by
  have hF : (Try.prog.fieldsOf 27).toList = [{ name := "w", type := 25, offset := 0, embedded := false, tag := "", pkgPath := "ratline/scalar", byteOffset := 0 }] := by kernel_rfl
  rw [run_eql_struct, run_equalIn_struct w 9999 27 (w4 x) (w4 y) (by kernel_rfl) (by kernel_rfl), hF]
  have hE := equal_words 9997 25 24 4 w Try.underlying25 Try.underlying24 (fun _ => by kernel_rfl) (wl x) (wl y) rfl rfl
  have e1 : ((wl x).map (Value.int .u64)).toArray = w4 x := rfl
  have e2 : ((wl y).map (Value.int .u64)).toArray = w4 y := rfl
  rw [e1, e2, wl_eq hx hy] at hE
  have hn : ("w" : String) ≠ "_" := by decide
  simp only [Op.eqFields, if_pos hn, Sem.run_bind, part_S, Result.andThen_ok, hE]
  cases decide (x = y)
  · simp
  · simp
set_option maxRecDepth 100000 in
set_option maxHeartbeats 1000000 in
theorem ssame_any (x y : Nat) (w : World) (hx : x < P256) (hy : y < P256) :
    Calls Try.prog 15 #[.agg (w4 x), .agg (w4 y)] w fun e w' => e = .returned (.bool (decide (x = y))) ∧ Below w.heap.size w w' := by
  have E := fun w => eql_S x y hx hy w
  have G : ∀ w o, (eqGuard .eql 27 (.tmp 5) o (.agg (w4 x)) (.agg (w4 y))).run Try.prog w = .ok () w := fun w o => run_eqGuard_agg w .eql 27 (.tmp 5) o (w4 x) (w4 y) (by kernel_rfl)
  obtain ⟨k1, k2, k3⟩ := blk2 w (w4 x) (w4 y) 27 27
  have K1 := Lib.hid k1
  have K2 := Lib.hid k2
  have K3 := Lib.hid k3
  obtain ⟨b, hb⟩ : ∃ b, b = decide (x = y) := ⟨_, rfl⟩
  rw [← hb] at E ⊢
  clear k1 k2 k3 hb hx hy
  go_enter Try.func15, Try.ntmps15
  go_wp2_with (first
    | (refine wpList_load_at rfl 27 (.tmp 2) rfl w.heap.size rfl 27 (w4 x) (0, 0) _ K1.out Try.underlying27 rfl (by kernel_rfl) ?_)
    | (refine wpList_load_at rfl 27 (.tmp 3) rfl (w.heap.size + 1) rfl 27 (w4 y) (0, 0) _ K2.out Try.underlying27 rfl (by kernel_rfl) ?_))
  go_ret
  exact ⟨rfl, K3.out⟩
set_option maxRecDepth 100000 in
set_option maxHeartbeats 4000000 in
theorem sadd2_any (x y : Nat) (w : World) (hx : x < L) (hy : y < L) :
    Calls Try.prog 20 #[.agg (w4 x), .agg (w4 y)] w fun e w' => e = .returned (.agg (w4 ((x + y) % L))) ∧ Below w.heap.size w w' := by
  have AD := fun w => sadd_any x y w (Nat.lt_trans hx L_lt) (Nat.lt_trans hy L_lt)
  have esm : sm x y = x + y := by unfold sm L at *; omega
  rw [esm] at AD
  obtain ⟨cr, hcr⟩ : ∃ c, c = car x y 4 := ⟨_, rfl⟩
  rw [← hcr] at AD
  obtain ⟨s, hs⟩ : ∃ s, s = x + y := ⟨_, rfl⟩
  rw [← hs] at AD ⊢
  have ON := fun w => sonce_any s w (by omega)
  obtain ⟨r, hr⟩ : ∃ r, r = s % L := ⟨_, rfl⟩
  rw [← hr] at ON ⊢
  have HAD := Lib.hid AD
  have HON := Lib.hid ON
  obtain ⟨k1, k2, k3⟩ := blk2 w (w4 x) (w4 y) 27 27
  have k4 := Blk.new ((w.alloc (.cells (w4 x) 27)).alloc (.cells (w4 y) 27)) 27 #[.int .u64 0, .int .u64 0, .int .u64 0, .int .u64 0]
  have ez : ((w.alloc (.cells (w4 x) 27)).alloc (.cells (w4 y) 27)).heap.size = w.heap.size + 2 := by simp
  rw [ez] at k4
  have K1 := Lib.hid (k1.alloc (.cells #[.int .u64 0, .int .u64 0, .int .u64 0, .int .u64 0] 27))
  have K2 := Lib.hid (k2.alloc (.cells #[.int .u64 0, .int .u64 0, .int .u64 0, .int .u64 0] 27))
  have K4 := Lib.hid k4
  have K3 := Lib.hid (k3.alloc k3.size (.cells #[.int .u64 0, .int .u64 0, .int .u64 0, .int .u64 0] 27))
  clear k1 k2 k3 k4 ez AD ON hs hr hcr hx hy esm
  go_enter Try.func20, Try.ntmps20
  go_wp2_with (first
    | (refine wpList_load_at rfl 25 (.tmp 8) rfl w.heap.size rfl 27 (w4 x) (0, 0) _ K1.out Try.underlying25 rfl (by kernel_rfl) ?_)
    | (refine wpList_load_at rfl 25 (.tmp 10) rfl (w.heap.size + 1) rfl 27 (w4 y) (0, 0) _ K2.out Try.underlying25 rfl (by kernel_rfl) ?_))
  refine (HAD.out _).mono ?_
  rintro e w1 ⟨rfl, hb1⟩
  have J4 := Lib.hid (K4.out.below hb1 K4.out.lt)
  have J3 := Lib.hid (K3.out.trans (hb1.mono K3.out.size))
  clear hb1
  go_wp2_with (first
    | (refine wpList_store_new rfl 25 (.tmp 5) (.tmp 13) rfl w1.heap.size rfl (w4 s) rfl rfl _ _ (by kernel_rfl) rfl (by rw [← Array.all_toList]; rfl) ?_)
    | (refine wpList_load_at rfl 25 (.tmp 5) rfl w1.heap.size rfl 25 (w4 s) (0, 0) _ (Blk.new w1 _ _) Try.underlying25 rfl (by kernel_rfl) ?_))
  refine (HON.out _).mono ?_
  rintro e w2 ⟨rfl, hb2⟩
  have M4 := Lib.hid ((J4.out.alloc (.cells (w4 s) 25)).below hb2 (J4.out.alloc _).lt)
  have M3 := Lib.hid ((J3.out.alloc J3.out.size (.cells (w4 s) 25)).trans (hb2.mono (by have := J3.out.size; simp; omega)))
  clear hb2
  go_wp2_with (first
    | (refine wpList_bld rfl 27 #[(0, .tmp 16)] rfl (w4 r) (by kernel_rfl) ?_)
    | (refine wpList_store_blk rfl 27 (.tmp 4) (.tmp 17) rfl (w.heap.size + 2) (w4 r) rfl rfl _ _ M4.out (by kernel_rfl) rfl rfl ?_))
  rintro w3 hk2 hb2 - -
  have JK := Lib.hid hk2
  have JD := Lib.hid (M3.out.trans (hb2 _ (by omega)))
  clear hk2 hb2
  go_wp2_with fail
  exact bodyPost_ret (v := .agg (w4 r)) (results_row1 Try.results20 _ _ (w.heap.size + 2) _ _ _ rfl JK.out Try.underlying27 rfl (by kernel_rfl)) rfl ⟨rfl, JD.out⟩
end Go.Proofs.Ytkihcngllhjabaa
