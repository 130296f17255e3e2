/- Walks: the law's take of what was put. -/
import Derived.Test.YtkihcngllhjabaaWireSame
import Derived.Test.YtkihcngllhjabaaWireItem
namespace Go.Proofs.Ytkihcngllhjabaa
open Go.RowKit WireM
set_option linter.unusedVariables false
/-- what is taken is what was put -/
def Got (d : ItemD) (w : World) (n : Nat) (cv cl : Value) : Prop :=
  (d.kind = 0 → n = d.n % 256 ^ d.size.toNat) ∧ (d.kind = 3 → n = if 0 < d.n then 1 else 0) ∧ ((d.kind = 1 ∨ d.kind = 4) → Rd w cv (bvs d.v)) ∧ (d.kind = 2 → RdL w cl d.l) ∧ n < 18446744073709551616
def LTakeP (B : Nat) (w : World) (d : ItemD) (R : List Nat) (e : Ending) (w' : World) : Prop :=
  ∃ (n : Nat) (a1 : Option Addr) (n1 c1 : Nat) (a2 : Option Addr) (n2 c2 : Nat), e = .returned (.agg #[.int .i64 d.kind, .int .i64 d.size, .int .u64 (n : Nat), .slice a1 n1 c1, .slice a2 n2 c2]) ∧ Got d w' n (.slice a1 n1 c1) (.slice a2 n2 c2) ∧ RS w' B R 0 ∧ Only B w w'
theorem Only.alloc {B : Nat} {a w : World} (h : Only B a w) (o : Obj) : Only B a (w.alloc o) := h.trans (Only.of ((Below.refl _ _).alloc (Nat.le_refl _) o))
theorem Only.then {B : Nat} {a b c : World} (h : Only B a b) (k : Below a.heap.size b c) : Only B a c :=
  ⟨k.os.trans h.os, k.tape.trans h.tape, k.output.trans h.output, Nat.le_trans h.size k.size, fun i hi hne => (k.block i hi).trans (h.block i hi hne)⟩
theorem Only.store {g : Nat} {w w2 : World} (h : ∀ B, B ≤ g → Below B w w2) (hot : ∀ i, i ≠ g → w2.heap[i]? = w.heap[i]?) : Only g w w2 :=
  ⟨(h g (Nat.le_refl _)).os, (h g (Nat.le_refl _)).tape, (h g (Nat.le_refl _)).output, (h g (Nat.le_refl _)).size, fun i _ hne => hot i (fun e => hne (by rw [e]))⟩
theorem Blk.only {w w' : World} {g C : Nat} {t : TypeId} {cs : Array Value} (h : Blk w g t cs) (ho : Only C w w') (hne : g ≠ C) : Blk w' g t cs :=
  (ho.block g h.lt (fun e => hne (by simpa using e))).trans h
theorem Own.sl {w : World} {B : Nat} {e : TypeId} {v : Value} {xs : List Value} (h : Own w B e v xs) : ∃ a n c, v = .slice a n c := by
  rcases h.form with rfl | ⟨g, cap, rfl⟩ <;> exact ⟨_, _, _, rfl⟩
theorem Grid.sl {w : World} {B : Nat} {eo ei : TypeId} {v : Value} {rows : List (List Value)} (h : Grid w B eo ei v rows) : ∃ a n c, v = .slice a n c := by
  obtain ⟨vs, h1, _⟩ := h
  exact h1.sl
theorem putB_k (k size : Int) (n : Nat) (V : List Nat) (Ls : List (List Nat)) : putB ⟨k, size, n, V, Ls⟩ = if k = 0 then beN size.toNat n else if k = 1 then vecB V else if k = 2 then listB Ls else if k = 3 then [if 0 < n then 1 else 0] else V := rfl
theorem putB_R {d : ItemD} {R : List Nat} (hok : ItemOk d) (hn : Near d) (hs : d.kind = 0 → d.size.toNat ≤ 8) (hR : R.length < 1000000) (hR2 : ∀ x ∈ R, x < 256) : (putB d ++ R).length < 2000000 ∧ ∀ x ∈ putB d ++ R, x < 256 := by
  have h1 := putB_len hn hs
  have h2 := putB_lt hn hok
  refine ⟨by rw [List.length_append]; omega, ?_⟩
  intro x hx
  rw [List.mem_append] at hx
  rcases hx with hx | hx
  · exact h2 x hx
  · exact hR2 x hx
set_option maxRecDepth 100000 in
set_option maxHeartbeats 4000000 in
theorem ltake_0 (B : Nat) (size : Int) (n : Nat) (V : List Nat) (Ls : List (List Nat)) (R : List Nat) (cv cl : Value) (w : World) (hrs : RS w B (putB ⟨0, size, n, V, Ls⟩ ++ R) 0)
    (hok : ItemOk ⟨0, size, n, V, Ls⟩) (hn : Near ⟨0, size, n, V, Ls⟩) (hR : R.length < 1000000) (hR2 : ∀ x ∈ R, x < 256) (hm : mayB size = true) :
    Calls Try.prog 51 #[.pointer (some ⟨B, 0, none⟩), .agg #[.int .i64 0, .int .i64 size, .int .u64 (n : Nat), cv, cl]] w (LTakeP B w ⟨0, size, n, V, Ls⟩ R) := by
  have hB := hrs.lt
  have CT : ∀ w0 : World, RS w0 B (putB ⟨0, size, n, V, Ls⟩ ++ R) 0 → Calls Try.prog 54 #[.pointer (some ⟨B, 0, none⟩), .int .i64 size] w0 (NumP B w0 (beN size.toNat n, R, 0)) := by
    intro w0 h0
    obtain ⟨s, rfl⟩ : ∃ s : Nat, size = (s : Int) := ⟨size.toNat, by have := of_decide_eq_true hm; omega⟩
    have hle : s ≤ 8 := by have := of_decide_eq_true hm; omega
    have hb := putB_R hok hn (fun _ => by simp only [Int.toNat_natCast]; exact hle) hR hR2
    have := num_any B _ 0 (s : Int) w0 h0 hb.2
    rw [putB_k, if_pos rfl, Int.toNat_natCast, numF_put hm] at this
    exact this
  have HNUM := Lib.hid (numV_beN size.toNat n)
  have HN64 := Lib.hid hok.n
  have hn64 := hok.n
  have ho0 : Only B w (((w.alloc (.cells #[.int .i64 0, .int .i64 size, .int .u64 (n : Nat), cv, cl] 77)).alloc (.cells #[.int .i64 0, .int .i64 0, .int .u64 0, .slice none 0 0, .slice none 0 0] 77)).alloc (.cells #[.int .i64 0, .int .i64 size, .int .u64 0, .slice none 0 0, .slice none 0 0] 77)) := (((Only.refl _ _).alloc _).alloc _).alloc _
  have h0 := hrs.low (((((Below.refl w.heap.size w).alloc (Nat.le_refl _) (.cells #[.int .i64 0, .int .i64 size, .int .u64 (n : Nat), cv, cl] 77)).alloc (by simp) (.cells #[.int .i64 0, .int .i64 0, .int .u64 0, .slice none 0 0, .slice none 0 0] 77)).alloc (by simp; omega) (.cells #[.int .i64 0, .int .i64 size, .int .u64 0, .slice none 0 0, .slice none 0 0] 77))) hB
  have hk4 := (Blk.new (w.alloc (.cells #[.int .i64 0, .int .i64 size, .int .u64 (n : Nat), cv, cl] 77)) 77 #[.int .i64 0, .int .i64 0, .int .u64 0, .slice none 0 0, .slice none 0 0]).alloc (.cells #[.int .i64 0, .int .i64 size, .int .u64 0, .slice none 0 0, .slice none 0 0] 77)
  have hk5 := Blk.new ((w.alloc (.cells #[.int .i64 0, .int .i64 size, .int .u64 (n : Nat), cv, cl] 77)).alloc (.cells #[.int .i64 0, .int .i64 0, .int .u64 0, .slice none 0 0, .slice none 0 0] 77)) 77 #[.int .i64 0, .int .i64 size, .int .u64 0, .slice none 0 0, .slice none 0 0]
  have HC := Lib.hid (CT _ h0)
  have e1 : (w.alloc (.cells #[.int .i64 0, .int .i64 size, .int .u64 (n : Nat), cv, cl] 77)).heap.size = w.heap.size + 1 := by simp
  have e2 : ((w.alloc (.cells #[.int .i64 0, .int .i64 size, .int .u64 (n : Nat), cv, cl] 77)).alloc (.cells #[.int .i64 0, .int .i64 0, .int .u64 0, .slice none 0 0, .slice none 0 0] 77)).heap.size = w.heap.size + 1 + 1 := by simp
  have e3 : (((w.alloc (.cells #[.int .i64 0, .int .i64 size, .int .u64 (n : Nat), cv, cl] 77)).alloc (.cells #[.int .i64 0, .int .i64 0, .int .u64 0, .slice none 0 0, .slice none 0 0] 77)).alloc (.cells #[.int .i64 0, .int .i64 size, .int .u64 0, .slice none 0 0, .slice none 0 0] 77)).heap.size = w.heap.size + 1 + 1 + 1 := by simp
  rw [e1] at hk4
  rw [e2] at hk5
  have HO0 := Lib.hid ho0
  have HK4 := Lib.hid hk4
  have HK5 := Lib.hid hk5
  have HE3 := Lib.hid e3
  clear hrs hok hn hR hR2 ho0 h0 hk4 hk5 CT e1 e2 e3 hn64 hm
  go_enter Try.func51, Try.ntmps51
  go_wp2_with fail
  refine HC.out.mono ?_
  rintro e w1 ⟨rfl, hrs1, honly⟩
  rw [HNUM.out]

  have hz1 := honly.size
  rw [HE3.out] at hz1
  have hk5 := HK5.out.only honly (by omega)
  have hk4 := HK4.out.only honly (by omega)
  have HO1 := Lib.hid (HO0.out.trans honly)
  have HRS1 := Lib.hid hrs1
  have y0 := hk5.cell 2
  have z0 := hk5.frozen 2
  simp only [List.getElem?_toArray, List.getElem?_cons_zero, List.getElem?_cons_succ] at y0
  have hk6 : Blk (w1.setCell ⟨w.heap.size + 1 + 1, 2, none⟩ (.int .u64 ((n % 256 ^ size.toNat : Nat) : Int))) (w.heap.size + 1 + 1) 77 #[.int .i64 0, .int .i64 size, .int .u64 ((n % 256 ^ size.toNat : Nat) : Int), .slice none 0 0, .slice none 0 0] := by
    have := hk5.set 2 (.int .u64 ((n % 256 ^ size.toNat : Nat) : Int))
    simpa using this
  have hk7 : Blk (w1.setCell ⟨w.heap.size + 1 + 1, 2, none⟩ (.int .u64 ((n % 256 ^ size.toNat : Nat) : Int))) (w.heap.size + 1) 77 #[.int .i64 0, .int .i64 0, .int .u64 0, .slice none 0 0, .slice none 0 0] := hk4.far (by simp) _
  have hb7 : Below (w.heap.size + 1) w1 (w1.setCell ⟨w.heap.size + 1 + 1, 2, none⟩ (.int .u64 ((n % 256 ^ size.toNat : Nat) : Int))) := (Below.refl _ _).setCell (by simp) _
  have ho7 : Only (w.heap.size + 1 + 1) w1 (w1.setCell ⟨w.heap.size + 1 + 1, 2, none⟩ (.int .u64 ((n % 256 ^ size.toNat : Nat) : Int))) := Only.set _ _
  have HK6 := Lib.hid hk6
  have HK7 := Lib.hid hk7
  have HB7 := Lib.hid hb7
  have HO7 := Lib.hid ho7
  clear hk4 hk5 hk6 hk7 hb7 ho7 honly hrs1
  go_wp2_with (first
    | (refine wpList_load_at rfl 77 (.tmp 5) rfl (w.heap.size + 1 + 1) rfl 77 #[.int .i64 0, .int .i64 size, .int .u64 ((n % 256 ^ size.toNat : Nat) : Int), .slice none 0 0, .slice none 0 0] (0, 0) _ HK6.out Try.underlying77 rfl (by kernel_rfl) ?_)
    | (refine wpList_store_blk rfl 77 (.tmp 4) (.tmp 42) rfl (w.heap.size + 1) #[.int .i64 0, .int .i64 size, .int .u64 ((n % 256 ^ size.toNat : Nat) : Int), .slice none 0 0, .slice none 0 0] rfl rfl _ _ HK7.out (by kernel_rfl) rfl rfl ?_))
  rintro w2 hk8 hb8 hot8 -
  have HK8 := Lib.hid hk8
  have HB8 := Lib.hid (HB7.out.trans (hb8 _ (Nat.le_refl _)))
  have HO8 := Lib.hid (Only.store hb8 hot8)
  clear hk8 hb8 hot8 y0 z0
  go_wp2_with fail
  refine bodyPost_ret (v := .agg #[.int .i64 0, .int .i64 size, .int .u64 ((n % 256 ^ size.toNat : Nat) : Int), .slice none 0 0, .slice none 0 0]) (results_row1 Try.results51 _ _ (w.heap.size + 1) _ _ _ rfl HK8.out Try.underlying77 rfl (by kernel_rfl)) rfl ?_
  refine ⟨_, _, _, _, _, _, _, rfl, ⟨fun _ => rfl, fun h => by simp at h, fun h => by simp at h, fun h => by simp at h, Nat.lt_of_le_of_lt (Nat.mod_le _ _) HN64.out⟩, HRS1.out.low HB8.out (by omega), HO1.out.then (HB8.out.mono (by omega))⟩
set_option maxRecDepth 100000 in
set_option maxHeartbeats 4000000 in
theorem ltake_1 (B : Nat) (size : Int) (n : Nat) (V : List Nat) (Ls : List (List Nat)) (R : List Nat) (cv cl : Value) (w : World) (hrs : RS w B (putB ⟨1, size, n, V, Ls⟩ ++ R) 0)
    (hok : ItemOk ⟨1, size, n, V, Ls⟩) (hn : Near ⟨1, size, n, V, Ls⟩) (hR : R.length < 1000000) (hR2 : ∀ x ∈ R, x < 256) :
    Calls Try.prog 51 #[.pointer (some ⟨B, 0, none⟩), .agg #[.int .i64 1, .int .i64 size, .int .u64 (n : Nat), cv, cl]] w (LTakeP B w ⟨1, size, n, V, Ls⟩ R) := by
  have hB := hrs.lt
  have CT : ∀ w0 : World, RS w0 B (putB ⟨1, size, n, V, Ls⟩ ++ R) 0 → Calls Try.prog 46 #[.pointer (some ⟨B, 0, none⟩)] w0 (TakeP B w0 (V, R, 0)) := by
    intro w0 h0
    have hb := putB_R hok hn (fun h => by simp at h) hR hR2
    have hv := hn.v
    simp only at hv
    have := vec_any B _ 0 w0 h0 (by omega) hb.2
    rw [putB_k, if_neg (by omega), if_pos rfl, vecF_put (by omega)] at this
    exact this
  have hn64 := hok.n
  have ho0 : Only B w (((w.alloc (.cells #[.int .i64 1, .int .i64 size, .int .u64 (n : Nat), cv, cl] 77)).alloc (.cells #[.int .i64 0, .int .i64 0, .int .u64 0, .slice none 0 0, .slice none 0 0] 77)).alloc (.cells #[.int .i64 1, .int .i64 size, .int .u64 0, .slice none 0 0, .slice none 0 0] 77)) := (((Only.refl _ _).alloc _).alloc _).alloc _
  have h0 := hrs.low (((((Below.refl w.heap.size w).alloc (Nat.le_refl _) (.cells #[.int .i64 1, .int .i64 size, .int .u64 (n : Nat), cv, cl] 77)).alloc (by simp) (.cells #[.int .i64 0, .int .i64 0, .int .u64 0, .slice none 0 0, .slice none 0 0] 77)).alloc (by simp; omega) (.cells #[.int .i64 1, .int .i64 size, .int .u64 0, .slice none 0 0, .slice none 0 0] 77))) hB
  have hk4 := (Blk.new (w.alloc (.cells #[.int .i64 1, .int .i64 size, .int .u64 (n : Nat), cv, cl] 77)) 77 #[.int .i64 0, .int .i64 0, .int .u64 0, .slice none 0 0, .slice none 0 0]).alloc (.cells #[.int .i64 1, .int .i64 size, .int .u64 0, .slice none 0 0, .slice none 0 0] 77)
  have hk5 := Blk.new ((w.alloc (.cells #[.int .i64 1, .int .i64 size, .int .u64 (n : Nat), cv, cl] 77)).alloc (.cells #[.int .i64 0, .int .i64 0, .int .u64 0, .slice none 0 0, .slice none 0 0] 77)) 77 #[.int .i64 1, .int .i64 size, .int .u64 0, .slice none 0 0, .slice none 0 0]
  have HC := Lib.hid (CT _ h0)
  have e1 : (w.alloc (.cells #[.int .i64 1, .int .i64 size, .int .u64 (n : Nat), cv, cl] 77)).heap.size = w.heap.size + 1 := by simp
  have e2 : ((w.alloc (.cells #[.int .i64 1, .int .i64 size, .int .u64 (n : Nat), cv, cl] 77)).alloc (.cells #[.int .i64 0, .int .i64 0, .int .u64 0, .slice none 0 0, .slice none 0 0] 77)).heap.size = w.heap.size + 1 + 1 := by simp
  have e3 : (((w.alloc (.cells #[.int .i64 1, .int .i64 size, .int .u64 (n : Nat), cv, cl] 77)).alloc (.cells #[.int .i64 0, .int .i64 0, .int .u64 0, .slice none 0 0, .slice none 0 0] 77)).alloc (.cells #[.int .i64 1, .int .i64 size, .int .u64 0, .slice none 0 0, .slice none 0 0] 77)).heap.size = w.heap.size + 1 + 1 + 1 := by simp
  rw [e1] at hk4
  rw [e2] at hk5
  have HO0 := Lib.hid ho0
  have HK4 := Lib.hid hk4
  have HK5 := Lib.hid hk5
  have HE3 := Lib.hid e3
  clear hrs hok hn hR hR2 ho0 h0 hk4 hk5 CT e1 e2 e3 hn64
  go_enter Try.func51, Try.ntmps51
  go_wp2_with fail
  refine HC.out.mono ?_
  rintro e w1 ⟨v, rfl, hown, hrs1, honly⟩
  obtain ⟨a1, n1, c1, rfl⟩ := hown.sl
  rw [HE3.out] at hown
  have HW := Lib.hid hown
  clear hown

  have hz1 := honly.size
  rw [HE3.out] at hz1
  have hk5 := HK5.out.only honly (by omega)
  have hk4 := HK4.out.only honly (by omega)
  have HO1 := Lib.hid (HO0.out.trans honly)
  have HRS1 := Lib.hid hrs1
  have y0 := hk5.cell 3
  have z0 := hk5.frozen 3
  simp only [List.getElem?_toArray, List.getElem?_cons_zero, List.getElem?_cons_succ] at y0
  have hk6 : Blk (w1.setCell ⟨w.heap.size + 1 + 1, 3, none⟩ (.slice a1 n1 c1)) (w.heap.size + 1 + 1) 77 #[.int .i64 1, .int .i64 size, .int .u64 0, .slice a1 n1 c1, .slice none 0 0] := by
    have := hk5.set 3 (.slice a1 n1 c1)
    simpa using this
  have hk7 : Blk (w1.setCell ⟨w.heap.size + 1 + 1, 3, none⟩ (.slice a1 n1 c1)) (w.heap.size + 1) 77 #[.int .i64 0, .int .i64 0, .int .u64 0, .slice none 0 0, .slice none 0 0] := hk4.far (by simp) _
  have hb7 : Below (w.heap.size + 1) w1 (w1.setCell ⟨w.heap.size + 1 + 1, 3, none⟩ (.slice a1 n1 c1)) := (Below.refl _ _).setCell (by simp) _
  have ho7 : Only (w.heap.size + 1 + 1) w1 (w1.setCell ⟨w.heap.size + 1 + 1, 3, none⟩ (.slice a1 n1 c1)) := Only.set _ _
  have HK6 := Lib.hid hk6
  have HK7 := Lib.hid hk7
  have HB7 := Lib.hid hb7
  have HO7 := Lib.hid ho7
  clear hk4 hk5 hk6 hk7 hb7 ho7 honly hrs1
  go_wp2_with (first
    | (refine wpList_load_at rfl 77 (.tmp 5) rfl (w.heap.size + 1 + 1) rfl 77 #[.int .i64 1, .int .i64 size, .int .u64 0, .slice a1 n1 c1, .slice none 0 0] (0, 0) _ HK6.out Try.underlying77 rfl (by kernel_rfl) ?_)
    | (refine wpList_store_blk rfl 77 (.tmp 4) (.tmp 42) rfl (w.heap.size + 1) #[.int .i64 1, .int .i64 size, .int .u64 0, .slice a1 n1 c1, .slice none 0 0] rfl rfl _ _ HK7.out (by kernel_rfl) rfl rfl ?_))
  rintro w2 hk8 hb8 hot8 -
  have HK8 := Lib.hid hk8
  have HB8 := Lib.hid (HB7.out.trans (hb8 _ (Nat.le_refl _)))
  have HO8 := Lib.hid (Only.store hb8 hot8)
  clear hk8 hb8 hot8 y0 z0
  go_wp2_with fail
  refine bodyPost_ret (v := .agg #[.int .i64 1, .int .i64 size, .int .u64 0, .slice a1 n1 c1, .slice none 0 0]) (results_row1 Try.results51 _ _ (w.heap.size + 1) _ _ _ rfl HK8.out Try.underlying77 rfl (by kernel_rfl)) rfl ?_
  refine ⟨0, _, _, _, _, _, _, rfl, ⟨fun h => by simp at h, fun h => by simp at h, fun _ => ((HW.out.only HO7.out (by omega)).only HO8.out (by omega)).rd, fun h => by simp at h, by omega⟩, HRS1.out.low HB8.out (by omega), HO1.out.then (HB8.out.mono (by omega))⟩
set_option maxRecDepth 100000 in
set_option maxHeartbeats 4000000 in
theorem ltake_2 (B : Nat) (size : Int) (n : Nat) (V : List Nat) (Ls : List (List Nat)) (R : List Nat) (cv cl : Value) (w : World) (hrs : RS w B (putB ⟨2, size, n, V, Ls⟩ ++ R) 0)
    (hok : ItemOk ⟨2, size, n, V, Ls⟩) (hn : Near ⟨2, size, n, V, Ls⟩) (hR : R.length < 1000000) (hR2 : ∀ x ∈ R, x < 256) :
    Calls Try.prog 51 #[.pointer (some ⟨B, 0, none⟩), .agg #[.int .i64 2, .int .i64 size, .int .u64 (n : Nat), cv, cl]] w (LTakeP B w ⟨2, size, n, V, Ls⟩ R) := by
  have hB := hrs.lt
  have CT : ∀ w0 : World, RS w0 B (putB ⟨2, size, n, V, Ls⟩ ++ R) 0 → Calls Try.prog 82 #[.pointer (some ⟨B, 0, none⟩)] w0 (ListP B w0 Ls R) := by
    intro w0 h0
    rw [putB_k, if_neg (by omega), if_neg (by omega), if_pos rfl] at h0
    exact list_on B Ls R w0 h0 hn.l hn.r hok.l hR hR2
  have hn64 := hok.n
  have ho0 : Only B w (((w.alloc (.cells #[.int .i64 2, .int .i64 size, .int .u64 (n : Nat), cv, cl] 77)).alloc (.cells #[.int .i64 0, .int .i64 0, .int .u64 0, .slice none 0 0, .slice none 0 0] 77)).alloc (.cells #[.int .i64 2, .int .i64 size, .int .u64 0, .slice none 0 0, .slice none 0 0] 77)) := (((Only.refl _ _).alloc _).alloc _).alloc _
  have h0 := hrs.low (((((Below.refl w.heap.size w).alloc (Nat.le_refl _) (.cells #[.int .i64 2, .int .i64 size, .int .u64 (n : Nat), cv, cl] 77)).alloc (by simp) (.cells #[.int .i64 0, .int .i64 0, .int .u64 0, .slice none 0 0, .slice none 0 0] 77)).alloc (by simp; omega) (.cells #[.int .i64 2, .int .i64 size, .int .u64 0, .slice none 0 0, .slice none 0 0] 77))) hB
  have hk4 := (Blk.new (w.alloc (.cells #[.int .i64 2, .int .i64 size, .int .u64 (n : Nat), cv, cl] 77)) 77 #[.int .i64 0, .int .i64 0, .int .u64 0, .slice none 0 0, .slice none 0 0]).alloc (.cells #[.int .i64 2, .int .i64 size, .int .u64 0, .slice none 0 0, .slice none 0 0] 77)
  have hk5 := Blk.new ((w.alloc (.cells #[.int .i64 2, .int .i64 size, .int .u64 (n : Nat), cv, cl] 77)).alloc (.cells #[.int .i64 0, .int .i64 0, .int .u64 0, .slice none 0 0, .slice none 0 0] 77)) 77 #[.int .i64 2, .int .i64 size, .int .u64 0, .slice none 0 0, .slice none 0 0]
  have HC := Lib.hid (CT _ h0)
  have e1 : (w.alloc (.cells #[.int .i64 2, .int .i64 size, .int .u64 (n : Nat), cv, cl] 77)).heap.size = w.heap.size + 1 := by simp
  have e2 : ((w.alloc (.cells #[.int .i64 2, .int .i64 size, .int .u64 (n : Nat), cv, cl] 77)).alloc (.cells #[.int .i64 0, .int .i64 0, .int .u64 0, .slice none 0 0, .slice none 0 0] 77)).heap.size = w.heap.size + 1 + 1 := by simp
  have e3 : (((w.alloc (.cells #[.int .i64 2, .int .i64 size, .int .u64 (n : Nat), cv, cl] 77)).alloc (.cells #[.int .i64 0, .int .i64 0, .int .u64 0, .slice none 0 0, .slice none 0 0] 77)).alloc (.cells #[.int .i64 2, .int .i64 size, .int .u64 0, .slice none 0 0, .slice none 0 0] 77)).heap.size = w.heap.size + 1 + 1 + 1 := by simp
  rw [e1] at hk4
  rw [e2] at hk5
  have HO0 := Lib.hid ho0
  have HK4 := Lib.hid hk4
  have HK5 := Lib.hid hk5
  have HE3 := Lib.hid e3
  clear hrs hok hn hR hR2 ho0 h0 hk4 hk5 CT e1 e2 e3 hn64
  go_enter Try.func51, Try.ntmps51
  go_wp2_with fail
  refine HC.out.mono ?_
  rintro e w1 ⟨v, rfl, hown, hrs1, honly⟩
  obtain ⟨a1, n1, c1, rfl⟩ := Grid.sl hown
  rw [HE3.out] at hown
  have HW := Lib.hid hown
  clear hown

  have hz1 := honly.size
  rw [HE3.out] at hz1
  have hk5 := HK5.out.only honly (by omega)
  have hk4 := HK4.out.only honly (by omega)
  have HO1 := Lib.hid (HO0.out.trans honly)
  have HRS1 := Lib.hid hrs1
  have y0 := hk5.cell 4
  have z0 := hk5.frozen 4
  simp only [List.getElem?_toArray, List.getElem?_cons_zero, List.getElem?_cons_succ] at y0
  have hk6 : Blk (w1.setCell ⟨w.heap.size + 1 + 1, 4, none⟩ (.slice a1 n1 c1)) (w.heap.size + 1 + 1) 77 #[.int .i64 2, .int .i64 size, .int .u64 0, .slice none 0 0, .slice a1 n1 c1] := by
    have := hk5.set 4 (.slice a1 n1 c1)
    simpa using this
  have hk7 : Blk (w1.setCell ⟨w.heap.size + 1 + 1, 4, none⟩ (.slice a1 n1 c1)) (w.heap.size + 1) 77 #[.int .i64 0, .int .i64 0, .int .u64 0, .slice none 0 0, .slice none 0 0] := hk4.far (by simp) _
  have hb7 : Below (w.heap.size + 1) w1 (w1.setCell ⟨w.heap.size + 1 + 1, 4, none⟩ (.slice a1 n1 c1)) := (Below.refl _ _).setCell (by simp) _
  have ho7 : Only (w.heap.size + 1 + 1) w1 (w1.setCell ⟨w.heap.size + 1 + 1, 4, none⟩ (.slice a1 n1 c1)) := Only.set _ _
  have HK6 := Lib.hid hk6
  have HK7 := Lib.hid hk7
  have HB7 := Lib.hid hb7
  have HO7 := Lib.hid ho7
  clear hk4 hk5 hk6 hk7 hb7 ho7 honly hrs1
  go_wp2_with (first
    | (refine wpList_load_at rfl 77 (.tmp 5) rfl (w.heap.size + 1 + 1) rfl 77 #[.int .i64 2, .int .i64 size, .int .u64 0, .slice none 0 0, .slice a1 n1 c1] (0, 0) _ HK6.out Try.underlying77 rfl (by kernel_rfl) ?_)
    | (refine wpList_store_blk rfl 77 (.tmp 4) (.tmp 42) rfl (w.heap.size + 1) #[.int .i64 2, .int .i64 size, .int .u64 0, .slice none 0 0, .slice a1 n1 c1] rfl rfl _ _ HK7.out (by kernel_rfl) rfl rfl ?_))
  rintro w2 hk8 hb8 hot8 -
  have HK8 := Lib.hid hk8
  have HB8 := Lib.hid (HB7.out.trans (hb8 _ (Nat.le_refl _)))
  have HO8 := Lib.hid (Only.store hb8 hot8)
  clear hk8 hb8 hot8 y0 z0
  go_wp2_with fail
  refine bodyPost_ret (v := .agg #[.int .i64 2, .int .i64 size, .int .u64 0, .slice none 0 0, .slice a1 n1 c1]) (results_row1 Try.results51 _ _ (w.heap.size + 1) _ _ _ rfl HK8.out Try.underlying77 rfl (by kernel_rfl)) rfl ?_
  refine ⟨0, _, _, _, _, _, _, rfl, ⟨fun h => by simp at h, fun h => by simp at h, fun h => by simp at h, fun _ => GridB.rdl (Grid.only (Grid.only HW.out HO7.out (by omega)) HO8.out (by omega)), by omega⟩, HRS1.out.low HB8.out (by omega), HO1.out.then (HB8.out.mono (by omega))⟩
set_option maxRecDepth 100000 in
set_option maxHeartbeats 4000000 in
theorem ltake_4 (B : Nat) (size : Int) (n : Nat) (V : List Nat) (Ls : List (List Nat)) (R : List Nat) (cv cl : Value) (w : World) (hrs : RS w B (putB ⟨4, size, n, V, Ls⟩ ++ R) 0)
    (hok : ItemOk ⟨4, size, n, V, Ls⟩) (hn : Near ⟨4, size, n, V, Ls⟩) (hR : R.length < 1000000) (hR2 : ∀ x ∈ R, x < 256) (hsz : size = (V.length : Nat)) :
    Calls Try.prog 51 #[.pointer (some ⟨B, 0, none⟩), .agg #[.int .i64 4, .int .i64 size, .int .u64 (n : Nat), cv, cl]] w (LTakeP B w ⟨4, size, n, V, Ls⟩ R) := by
  have hB := hrs.lt
  have CT : ∀ w0 : World, RS w0 B (putB ⟨4, size, n, V, Ls⟩ ++ R) 0 → Calls Try.prog 55 #[.pointer (some ⟨B, 0, none⟩), .int .i64 size] w0 (TakeP B w0 (V, R, 0)) := by
    intro w0 h0
    have hb := putB_R hok hn (fun h => by simp at h) hR hR2
    have := taken_any B _ 0 size w0 h0 (by omega)
    rw [putB_k, if_neg (by omega), if_neg (by omega), if_neg (by omega), if_neg (by omega), hsz, takeF_put] at this
    rw [hsz]
    exact this
  have hn64 := hok.n
  have ho0 : Only B w (((w.alloc (.cells #[.int .i64 4, .int .i64 size, .int .u64 (n : Nat), cv, cl] 77)).alloc (.cells #[.int .i64 0, .int .i64 0, .int .u64 0, .slice none 0 0, .slice none 0 0] 77)).alloc (.cells #[.int .i64 4, .int .i64 size, .int .u64 0, .slice none 0 0, .slice none 0 0] 77)) := (((Only.refl _ _).alloc _).alloc _).alloc _
  have h0 := hrs.low (((((Below.refl w.heap.size w).alloc (Nat.le_refl _) (.cells #[.int .i64 4, .int .i64 size, .int .u64 (n : Nat), cv, cl] 77)).alloc (by simp) (.cells #[.int .i64 0, .int .i64 0, .int .u64 0, .slice none 0 0, .slice none 0 0] 77)).alloc (by simp; omega) (.cells #[.int .i64 4, .int .i64 size, .int .u64 0, .slice none 0 0, .slice none 0 0] 77))) hB
  have hk4 := (Blk.new (w.alloc (.cells #[.int .i64 4, .int .i64 size, .int .u64 (n : Nat), cv, cl] 77)) 77 #[.int .i64 0, .int .i64 0, .int .u64 0, .slice none 0 0, .slice none 0 0]).alloc (.cells #[.int .i64 4, .int .i64 size, .int .u64 0, .slice none 0 0, .slice none 0 0] 77)
  have hk5 := Blk.new ((w.alloc (.cells #[.int .i64 4, .int .i64 size, .int .u64 (n : Nat), cv, cl] 77)).alloc (.cells #[.int .i64 0, .int .i64 0, .int .u64 0, .slice none 0 0, .slice none 0 0] 77)) 77 #[.int .i64 4, .int .i64 size, .int .u64 0, .slice none 0 0, .slice none 0 0]
  have HC := Lib.hid (CT _ h0)
  have e1 : (w.alloc (.cells #[.int .i64 4, .int .i64 size, .int .u64 (n : Nat), cv, cl] 77)).heap.size = w.heap.size + 1 := by simp
  have e2 : ((w.alloc (.cells #[.int .i64 4, .int .i64 size, .int .u64 (n : Nat), cv, cl] 77)).alloc (.cells #[.int .i64 0, .int .i64 0, .int .u64 0, .slice none 0 0, .slice none 0 0] 77)).heap.size = w.heap.size + 1 + 1 := by simp
  have e3 : (((w.alloc (.cells #[.int .i64 4, .int .i64 size, .int .u64 (n : Nat), cv, cl] 77)).alloc (.cells #[.int .i64 0, .int .i64 0, .int .u64 0, .slice none 0 0, .slice none 0 0] 77)).alloc (.cells #[.int .i64 4, .int .i64 size, .int .u64 0, .slice none 0 0, .slice none 0 0] 77)).heap.size = w.heap.size + 1 + 1 + 1 := by simp
  rw [e1] at hk4
  rw [e2] at hk5
  have HO0 := Lib.hid ho0
  have HK4 := Lib.hid hk4
  have HK5 := Lib.hid hk5
  have HE3 := Lib.hid e3
  clear hrs hok hn hR hR2 ho0 h0 hk4 hk5 CT e1 e2 e3 hn64 hsz
  go_enter Try.func51, Try.ntmps51
  go_wp2_with fail
  refine HC.out.mono ?_
  rintro e w1 ⟨v, rfl, hown, hrs1, honly⟩
  obtain ⟨a1, n1, c1, rfl⟩ := hown.sl
  rw [HE3.out] at hown
  have HW := Lib.hid hown
  clear hown

  have hz1 := honly.size
  rw [HE3.out] at hz1
  have hk5 := HK5.out.only honly (by omega)
  have hk4 := HK4.out.only honly (by omega)
  have HO1 := Lib.hid (HO0.out.trans honly)
  have HRS1 := Lib.hid hrs1
  have y0 := hk5.cell 3
  have z0 := hk5.frozen 3
  simp only [List.getElem?_toArray, List.getElem?_cons_zero, List.getElem?_cons_succ] at y0
  have hk6 : Blk (w1.setCell ⟨w.heap.size + 1 + 1, 3, none⟩ (.slice a1 n1 c1)) (w.heap.size + 1 + 1) 77 #[.int .i64 4, .int .i64 size, .int .u64 0, .slice a1 n1 c1, .slice none 0 0] := by
    have := hk5.set 3 (.slice a1 n1 c1)
    simpa using this
  have hk7 : Blk (w1.setCell ⟨w.heap.size + 1 + 1, 3, none⟩ (.slice a1 n1 c1)) (w.heap.size + 1) 77 #[.int .i64 0, .int .i64 0, .int .u64 0, .slice none 0 0, .slice none 0 0] := hk4.far (by simp) _
  have hb7 : Below (w.heap.size + 1) w1 (w1.setCell ⟨w.heap.size + 1 + 1, 3, none⟩ (.slice a1 n1 c1)) := (Below.refl _ _).setCell (by simp) _
  have ho7 : Only (w.heap.size + 1 + 1) w1 (w1.setCell ⟨w.heap.size + 1 + 1, 3, none⟩ (.slice a1 n1 c1)) := Only.set _ _
  have HK6 := Lib.hid hk6
  have HK7 := Lib.hid hk7
  have HB7 := Lib.hid hb7
  have HO7 := Lib.hid ho7
  clear hk4 hk5 hk6 hk7 hb7 ho7 honly hrs1
  go_wp2_with (first
    | (refine wpList_load_at rfl 77 (.tmp 5) rfl (w.heap.size + 1 + 1) rfl 77 #[.int .i64 4, .int .i64 size, .int .u64 0, .slice a1 n1 c1, .slice none 0 0] (0, 0) _ HK6.out Try.underlying77 rfl (by kernel_rfl) ?_)
    | (refine wpList_store_blk rfl 77 (.tmp 4) (.tmp 42) rfl (w.heap.size + 1) #[.int .i64 4, .int .i64 size, .int .u64 0, .slice a1 n1 c1, .slice none 0 0] rfl rfl _ _ HK7.out (by kernel_rfl) rfl rfl ?_))
  rintro w2 hk8 hb8 hot8 -
  have HK8 := Lib.hid hk8
  have HB8 := Lib.hid (HB7.out.trans (hb8 _ (Nat.le_refl _)))
  have HO8 := Lib.hid (Only.store hb8 hot8)
  clear hk8 hb8 hot8 y0 z0
  go_wp2_with fail
  refine bodyPost_ret (v := .agg #[.int .i64 4, .int .i64 size, .int .u64 0, .slice a1 n1 c1, .slice none 0 0]) (results_row1 Try.results51 _ _ (w.heap.size + 1) _ _ _ rfl HK8.out Try.underlying77 rfl (by kernel_rfl)) rfl ?_
  refine ⟨0, _, _, _, _, _, _, rfl, ⟨fun h => by simp at h, fun h => by simp at h, fun _ => ((HW.out.only HO7.out (by omega)).only HO8.out (by omega)).rd, fun h => by simp at h, by omega⟩, HRS1.out.low HB8.out (by omega), HO1.out.then (HB8.out.mono (by omega))⟩
set_option maxRecDepth 100000 in
set_option maxHeartbeats 4000000 in
theorem ltake_3t (B : Nat) (size : Int) (n : Nat) (V : List Nat) (Ls : List (List Nat)) (R : List Nat) (cv cl : Value) (w : World) (hrs : RS w B (putB ⟨3, size, n, V, Ls⟩ ++ R) 0)
    (hok : ItemOk ⟨3, size, n, V, Ls⟩) (hn : Near ⟨3, size, n, V, Ls⟩) (hR : R.length < 1000000) (hR2 : ∀ x ∈ R, x < 256) (hp : 0 < n) :
    Calls Try.prog 51 #[.pointer (some ⟨B, 0, none⟩), .agg #[.int .i64 3, .int .i64 size, .int .u64 (n : Nat), cv, cl]] w (LTakeP B w ⟨3, size, n, V, Ls⟩ R) := by
  have hB := hrs.lt
  have CT : ∀ w0 : World, RS w0 B (putB ⟨3, size, n, V, Ls⟩ ++ R) 0 → Calls Try.prog 57 #[.pointer (some ⟨B, 0, none⟩)] w0 (FlagP B w0 (true, R, 0)) := by
    intro w0 h0
    have hb := putB_R hok hn (fun h => by simp at h) hR hR2
    have := flag_any B _ 0 w0 h0 hb.2
    rw [putB_k, if_neg (by omega), if_neg (by omega), if_neg (by omega), if_pos rfl, if_pos hp] at this
    exact this
  have hn64 := hok.n
  have ho0 : Only B w (((w.alloc (.cells #[.int .i64 3, .int .i64 size, .int .u64 (n : Nat), cv, cl] 77)).alloc (.cells #[.int .i64 0, .int .i64 0, .int .u64 0, .slice none 0 0, .slice none 0 0] 77)).alloc (.cells #[.int .i64 3, .int .i64 size, .int .u64 0, .slice none 0 0, .slice none 0 0] 77)) := (((Only.refl _ _).alloc _).alloc _).alloc _
  have h0 := hrs.low (((((Below.refl w.heap.size w).alloc (Nat.le_refl _) (.cells #[.int .i64 3, .int .i64 size, .int .u64 (n : Nat), cv, cl] 77)).alloc (by simp) (.cells #[.int .i64 0, .int .i64 0, .int .u64 0, .slice none 0 0, .slice none 0 0] 77)).alloc (by simp; omega) (.cells #[.int .i64 3, .int .i64 size, .int .u64 0, .slice none 0 0, .slice none 0 0] 77))) hB
  have hk4 := (Blk.new (w.alloc (.cells #[.int .i64 3, .int .i64 size, .int .u64 (n : Nat), cv, cl] 77)) 77 #[.int .i64 0, .int .i64 0, .int .u64 0, .slice none 0 0, .slice none 0 0]).alloc (.cells #[.int .i64 3, .int .i64 size, .int .u64 0, .slice none 0 0, .slice none 0 0] 77)
  have hk5 := Blk.new ((w.alloc (.cells #[.int .i64 3, .int .i64 size, .int .u64 (n : Nat), cv, cl] 77)).alloc (.cells #[.int .i64 0, .int .i64 0, .int .u64 0, .slice none 0 0, .slice none 0 0] 77)) 77 #[.int .i64 3, .int .i64 size, .int .u64 0, .slice none 0 0, .slice none 0 0]
  have HC := Lib.hid (CT _ h0)
  have e1 : (w.alloc (.cells #[.int .i64 3, .int .i64 size, .int .u64 (n : Nat), cv, cl] 77)).heap.size = w.heap.size + 1 := by simp
  have e2 : ((w.alloc (.cells #[.int .i64 3, .int .i64 size, .int .u64 (n : Nat), cv, cl] 77)).alloc (.cells #[.int .i64 0, .int .i64 0, .int .u64 0, .slice none 0 0, .slice none 0 0] 77)).heap.size = w.heap.size + 1 + 1 := by simp
  have e3 : (((w.alloc (.cells #[.int .i64 3, .int .i64 size, .int .u64 (n : Nat), cv, cl] 77)).alloc (.cells #[.int .i64 0, .int .i64 0, .int .u64 0, .slice none 0 0, .slice none 0 0] 77)).alloc (.cells #[.int .i64 3, .int .i64 size, .int .u64 0, .slice none 0 0, .slice none 0 0] 77)).heap.size = w.heap.size + 1 + 1 + 1 := by simp
  rw [e1] at hk4
  rw [e2] at hk5
  have HO0 := Lib.hid ho0
  have HK4 := Lib.hid hk4
  have HK5 := Lib.hid hk5
  have HE3 := Lib.hid e3
  clear hrs hok hn hR hR2 ho0 h0 hk4 hk5 CT e1 e2 e3 hn64
  go_enter Try.func51, Try.ntmps51
  go_wp2_with fail
  refine HC.out.mono ?_
  rintro e w1 ⟨rfl, hrs1, honly⟩

  have hz1 := honly.size
  rw [HE3.out] at hz1
  have hk5 := HK5.out.only honly (by omega)
  have hk4 := HK4.out.only honly (by omega)
  have HO1 := Lib.hid (HO0.out.trans honly)
  have HRS1 := Lib.hid hrs1
  have y0 := hk5.cell 2
  have z0 := hk5.frozen 2
  simp only [List.getElem?_toArray, List.getElem?_cons_zero, List.getElem?_cons_succ] at y0
  have hk6 : Blk (w1.setCell ⟨w.heap.size + 1 + 1, 2, none⟩ (.int .u64 1)) (w.heap.size + 1 + 1) 77 #[.int .i64 3, .int .i64 size, .int .u64 1, .slice none 0 0, .slice none 0 0] := by
    have := hk5.set 2 (.int .u64 1)
    simpa using this
  have hk7 : Blk (w1.setCell ⟨w.heap.size + 1 + 1, 2, none⟩ (.int .u64 1)) (w.heap.size + 1) 77 #[.int .i64 0, .int .i64 0, .int .u64 0, .slice none 0 0, .slice none 0 0] := hk4.far (by simp) _
  have hb7 : Below (w.heap.size + 1) w1 (w1.setCell ⟨w.heap.size + 1 + 1, 2, none⟩ (.int .u64 1)) := (Below.refl _ _).setCell (by simp) _
  have ho7 : Only (w.heap.size + 1 + 1) w1 (w1.setCell ⟨w.heap.size + 1 + 1, 2, none⟩ (.int .u64 1)) := Only.set _ _
  have HK6 := Lib.hid hk6
  have HK7 := Lib.hid hk7
  have HB7 := Lib.hid hb7
  have HO7 := Lib.hid ho7
  clear hk4 hk5 hk6 hk7 hb7 ho7 honly hrs1
  go_wp2_with (first
    | (refine wpList_load_at rfl 77 (.tmp 5) rfl (w.heap.size + 1 + 1) rfl 77 #[.int .i64 3, .int .i64 size, .int .u64 1, .slice none 0 0, .slice none 0 0] (0, 0) _ HK6.out Try.underlying77 rfl (by kernel_rfl) ?_)
    | (refine wpList_store_blk rfl 77 (.tmp 4) (.tmp 42) rfl (w.heap.size + 1) #[.int .i64 3, .int .i64 size, .int .u64 1, .slice none 0 0, .slice none 0 0] rfl rfl _ _ HK7.out (by kernel_rfl) rfl rfl ?_))
  rintro w2 hk8 hb8 hot8 -
  have HK8 := Lib.hid hk8
  have HB8 := Lib.hid (HB7.out.trans (hb8 _ (Nat.le_refl _)))
  have HO8 := Lib.hid (Only.store hb8 hot8)
  clear hk8 hb8 hot8 y0 z0
  go_wp2_with fail
  refine bodyPost_ret (v := .agg #[.int .i64 3, .int .i64 size, .int .u64 1, .slice none 0 0, .slice none 0 0]) (results_row1 Try.results51 _ _ (w.heap.size + 1) _ _ _ rfl HK8.out Try.underlying77 rfl (by kernel_rfl)) rfl ?_
  refine ⟨1, _, _, _, _, _, _, rfl, ⟨fun h => by simp at h, fun _ => by rw [if_pos hp], fun h => by simp at h, fun h => by simp at h, by omega⟩, HRS1.out.low HB8.out (by omega), HO1.out.then (HB8.out.mono (by omega))⟩
set_option maxRecDepth 100000 in
set_option maxHeartbeats 4000000 in
theorem ltake_3f (B : Nat) (size : Int) (n : Nat) (V : List Nat) (Ls : List (List Nat)) (R : List Nat) (cv cl : Value) (w : World) (hrs : RS w B (putB ⟨3, size, n, V, Ls⟩ ++ R) 0)
    (hok : ItemOk ⟨3, size, n, V, Ls⟩) (hn : Near ⟨3, size, n, V, Ls⟩) (hR : R.length < 1000000) (hR2 : ∀ x ∈ R, x < 256) (hp : ¬ 0 < n) :
    Calls Try.prog 51 #[.pointer (some ⟨B, 0, none⟩), .agg #[.int .i64 3, .int .i64 size, .int .u64 (n : Nat), cv, cl]] w (LTakeP B w ⟨3, size, n, V, Ls⟩ R) := by
  have hB := hrs.lt
  have CT : ∀ w0 : World, RS w0 B (putB ⟨3, size, n, V, Ls⟩ ++ R) 0 → Calls Try.prog 57 #[.pointer (some ⟨B, 0, none⟩)] w0 (FlagP B w0 (false, R, 0)) := by
    intro w0 h0
    have hb := putB_R hok hn (fun h => by simp at h) hR hR2
    have := flag_any B _ 0 w0 h0 hb.2
    rw [putB_k, if_neg (by omega), if_neg (by omega), if_neg (by omega), if_pos rfl, if_neg hp] at this
    exact this
  have hn64 := hok.n
  have ho0 : Only B w (((w.alloc (.cells #[.int .i64 3, .int .i64 size, .int .u64 (n : Nat), cv, cl] 77)).alloc (.cells #[.int .i64 0, .int .i64 0, .int .u64 0, .slice none 0 0, .slice none 0 0] 77)).alloc (.cells #[.int .i64 3, .int .i64 size, .int .u64 0, .slice none 0 0, .slice none 0 0] 77)) := (((Only.refl _ _).alloc _).alloc _).alloc _
  have h0 := hrs.low (((((Below.refl w.heap.size w).alloc (Nat.le_refl _) (.cells #[.int .i64 3, .int .i64 size, .int .u64 (n : Nat), cv, cl] 77)).alloc (by simp) (.cells #[.int .i64 0, .int .i64 0, .int .u64 0, .slice none 0 0, .slice none 0 0] 77)).alloc (by simp; omega) (.cells #[.int .i64 3, .int .i64 size, .int .u64 0, .slice none 0 0, .slice none 0 0] 77))) hB
  have hk4 := (Blk.new (w.alloc (.cells #[.int .i64 3, .int .i64 size, .int .u64 (n : Nat), cv, cl] 77)) 77 #[.int .i64 0, .int .i64 0, .int .u64 0, .slice none 0 0, .slice none 0 0]).alloc (.cells #[.int .i64 3, .int .i64 size, .int .u64 0, .slice none 0 0, .slice none 0 0] 77)
  have hk5 := Blk.new ((w.alloc (.cells #[.int .i64 3, .int .i64 size, .int .u64 (n : Nat), cv, cl] 77)).alloc (.cells #[.int .i64 0, .int .i64 0, .int .u64 0, .slice none 0 0, .slice none 0 0] 77)) 77 #[.int .i64 3, .int .i64 size, .int .u64 0, .slice none 0 0, .slice none 0 0]
  have HC := Lib.hid (CT _ h0)
  have e1 : (w.alloc (.cells #[.int .i64 3, .int .i64 size, .int .u64 (n : Nat), cv, cl] 77)).heap.size = w.heap.size + 1 := by simp
  have e2 : ((w.alloc (.cells #[.int .i64 3, .int .i64 size, .int .u64 (n : Nat), cv, cl] 77)).alloc (.cells #[.int .i64 0, .int .i64 0, .int .u64 0, .slice none 0 0, .slice none 0 0] 77)).heap.size = w.heap.size + 1 + 1 := by simp
  have e3 : (((w.alloc (.cells #[.int .i64 3, .int .i64 size, .int .u64 (n : Nat), cv, cl] 77)).alloc (.cells #[.int .i64 0, .int .i64 0, .int .u64 0, .slice none 0 0, .slice none 0 0] 77)).alloc (.cells #[.int .i64 3, .int .i64 size, .int .u64 0, .slice none 0 0, .slice none 0 0] 77)).heap.size = w.heap.size + 1 + 1 + 1 := by simp
  rw [e1] at hk4
  rw [e2] at hk5
  have HO0 := Lib.hid ho0
  have HK4 := Lib.hid hk4
  have HK5 := Lib.hid hk5
  have HE3 := Lib.hid e3
  clear hrs hok hn hR hR2 ho0 h0 hk4 hk5 CT e1 e2 e3 hn64
  go_enter Try.func51, Try.ntmps51
  go_wp2_with fail
  refine HC.out.mono ?_
  rintro e w1 ⟨rfl, hrs1, honly⟩

  have hz1 := honly.size
  rw [HE3.out] at hz1
  have hk5 := HK5.out.only honly (by omega)
  have hk4 := HK4.out.only honly (by omega)
  have HO1 := Lib.hid (HO0.out.trans honly)
  have HRS1 := Lib.hid hrs1
  have y0 := hk5.cell 2
  have z0 := hk5.frozen 2
  simp only [List.getElem?_toArray, List.getElem?_cons_zero, List.getElem?_cons_succ] at y0
  have hk6 : Blk w1 (w.heap.size + 1 + 1) 77 #[.int .i64 3, .int .i64 size, .int .u64 0, .slice none 0 0, .slice none 0 0] := by
    exact hk5
  have hk7 : Blk w1 (w.heap.size + 1) 77 #[.int .i64 0, .int .i64 0, .int .u64 0, .slice none 0 0, .slice none 0 0] := hk4
  have hb7 : Below (w.heap.size + 1) w1 w1 := (Below.refl _ _)
  have ho7 : Only (w.heap.size + 1 + 1) w1 w1 := Only.refl _ _
  have HK6 := Lib.hid hk6
  have HK7 := Lib.hid hk7
  have HB7 := Lib.hid hb7
  have HO7 := Lib.hid ho7
  clear hk4 hk5 hk6 hk7 hb7 ho7 honly hrs1
  go_wp2_with (first
    | (refine wpList_load_at rfl 77 (.tmp 5) rfl (w.heap.size + 1 + 1) rfl 77 #[.int .i64 3, .int .i64 size, .int .u64 0, .slice none 0 0, .slice none 0 0] (0, 0) _ HK6.out Try.underlying77 rfl (by kernel_rfl) ?_)
    | (refine wpList_store_blk rfl 77 (.tmp 4) (.tmp 42) rfl (w.heap.size + 1) #[.int .i64 3, .int .i64 size, .int .u64 0, .slice none 0 0, .slice none 0 0] rfl rfl _ _ HK7.out (by kernel_rfl) rfl rfl ?_))
  rintro w2 hk8 hb8 hot8 -
  have HK8 := Lib.hid hk8
  have HB8 := Lib.hid (HB7.out.trans (hb8 _ (Nat.le_refl _)))
  have HO8 := Lib.hid (Only.store hb8 hot8)
  clear hk8 hb8 hot8 y0 z0
  go_wp2_with fail
  refine bodyPost_ret (v := .agg #[.int .i64 3, .int .i64 size, .int .u64 0, .slice none 0 0, .slice none 0 0]) (results_row1 Try.results51 _ _ (w.heap.size + 1) _ _ _ rfl HK8.out Try.underlying77 rfl (by kernel_rfl)) rfl ?_
  refine ⟨0, _, _, _, _, _, _, rfl, ⟨fun h => by simp at h, fun _ => by rw [if_neg hp], fun h => by simp at h, fun h => by simp at h, by omega⟩, HRS1.out.low HB8.out (by omega), HO1.out.then (HB8.out.mono (by omega))⟩
theorem ltake_any (B : Nat) (d : ItemD) (R : List Nat) (cv cl : Value) (w : World) (hrs : RS w B (putB d ++ R) 0) (hok : ItemOk d) (hn : Near d) (hR : R.length < 1000000) (hR2 : ∀ x ∈ R, x < 256)
    (h0 : d.kind = 0 → mayB d.size = true) (h4 : d.kind = 4 → d.size = (d.v.length : Nat)) :
    Calls Try.prog 51 #[.pointer (some ⟨B, 0, none⟩), .agg #[.int .i64 d.kind, .int .i64 d.size, .int .u64 (d.n : Nat), cv, cl]] w (LTakeP B w d R) := by
  obtain ⟨kind, size, n, V, Ls⟩ := d
  have k0 := hn.k0
  have k4 := hn.k4
  simp only at k0 k4 h0 h4 ⊢
  have hd : kind = 0 ∨ kind = 1 ∨ kind = 2 ∨ kind = 3 ∨ kind = 4 := by omega
  rcases hd with rfl | rfl | rfl | rfl | rfl
  · exact ltake_0 B size n V Ls R cv cl w hrs hok hn hR hR2 (h0 rfl)
  · exact ltake_1 B size n V Ls R cv cl w hrs hok hn hR hR2
  · exact ltake_2 B size n V Ls R cv cl w hrs hok hn hR hR2
  · by_cases hp : 0 < n
    · exact ltake_3t B size n V Ls R cv cl w hrs hok hn hR hR2 hp
    · exact ltake_3f B size n V Ls R cv cl w hrs hok hn hR hR2 hp
  · exact ltake_4 B size n V Ls R cv cl w hrs hok hn hR hR2 (h4 rfl)
end Go.Proofs.Ytkihcngllhjabaa
