/- Walks: hash.All, hash.Tree. -/
import Derived.Test.YtohldijomcljkaaZTreeResolves35
import Derived.Laws.MakeOwn
namespace Go.Proofs.Ytohldijomcljkaa
open Go.RowKit WalkM ShaM WireM
set_option linter.unusedVariables false
/-- a node's hash -/
def hashX (T : Nat → NodeD) (y : Nat) : List Nat := hashN T (lev y) y
theorem hashX_len (T : Nat → NodeD) (y : Nat) : (hashX T y).length = 32 := hashN_len _ _ _
theorem hashX_lt (T : Nat → NodeD) (y : Nat) : ∀ x ∈ hashX T y, x < 256 := hashN_lt _ _ _
theorem fill_any (t : List NodeD) (hs : smallT t = true) (hok : TreeOk t) (hp : placedB t = true) : ∀ k, FillP t k := by
  intro k
  induction k with
  | zero => exact fill_zero t hs hok hp
  | succ k ih => exact fill_succ t hs hok hp k ih
theorem AllR.congr {w : World} {g n : Nat} {F F' : Nat → Option (List Nat)} (h : AllR w g n F) (e : ∀ y, y < n → F' y = F y) : AllR w g n F' := by
  obtain ⟨cs, h1, h2, h3⟩ := h
  refine ⟨cs, h1, h2, fun y hy => ?_⟩
  obtain ⟨u, k1, k2⟩ := h3 y hy
  exact ⟨u, k1, fun L hL => k2 L (by rw [← e y hy]; exact hL)⟩
theorem make_rows {n : Nat} (hn : n ≤ 4000000) : ∀ w : World, (Instr.makeSlice 25 (.int .i64 (n : Nat)) (.int .i64 (n : Nat))).run Try.prog w = .ok (.slice (some ⟨w.heap.size, 0, none⟩) n n) (w.alloc (.cells (madeCells (Value.slice none 0 0).cells (n * 1)) 29)) := by
  intro w
  obtain ⟨i, hi, hz, hsz, hby⟩ : ∃ i, Try.prog.info? 29 = some i ∧ i.zero = some (.slice none 0 0) ∧ i.size = 1 ∧ i.bytes = 24 := info_parts (by kernel_rfl)
  have hr := run_make (P := Try.prog) w 25 29 i (.slice none 0 0) Try.underlying25 hi hz .i64 .i64 n n (by omega) (by omega) (by rw [hby]; omega) (by omega)
  simp only [Int.toNat_natCast, hsz] at hr
  exact hr
theorem made_rows (w : World) (n : Nat) : AllR (w.alloc (.cells (madeCells (Value.slice none 0 0).cells (n * 1)) 29)) w.heap.size n (fun _ => none) := by
  refine ⟨_, Blk.new w _ _, by simp [madeCells], fun y hy => ?_⟩
  exact ⟨_, Array.getElem?_eq_getElem (by simpa [madeCells] using hy), fun L hL => by cases hL⟩
set_option maxRecDepth 100000 in
set_option maxHeartbeats 4000000 in
theorem hall_no (v : Value) (t : List NodeD) (w : World) (h : TreeR w v t) (hs : smallT t = true) (hok : TreeOk t) (hr : rightT t = false) :
    Calls Try.prog 16 #[v] w fun e w' => e = .returned (.tuple #[.slice none 0 0, .int .u8 12]) ∧ Below w.heap.size w w' := by
  have TR := tright_any v t w h hs hok
  rw [hr] at TR
  have HT := Lib.hid TR
  obtain ⟨a, n, c, rfl⟩ : ∃ a n c, v = .slice a n c := by obtain ⟨a, c, e, _⟩ := h.sl; exact ⟨_, _, _, e⟩
  clear TR h hs hok hr
  go_enter Try.func16, Try.ntmps16
  go_wp2_with fail
  refine (HT.out).mono ?_
  rintro e w1 ⟨rfl, hb⟩
  go_wp2_with fail
  go_ret2
  exact ⟨rfl, hb⟩
set_option maxRecDepth 100000 in
set_option maxHeartbeats 4000000 in
theorem hall_yes (v : Value) (t : List NodeD) (w : World) (h : TreeR w v t) (hs : smallT t = true) (hok : TreeOk t) (hr : rightT t = true) :
    Calls Try.prog 16 #[v] w fun e w' => ∃ g, w.heap.size ≤ g ∧ e = .returned (.tuple #[.slice (some ⟨g, 0, none⟩) t.length t.length, .int .u8 0]) ∧ AllR w' g t.length (fun y => some (hashX (nd t) y)) ∧ Below w.heap.size w w' := by
  have TR := tright_any v t w h hs hok
  rw [hr] at TR
  have HT := Lib.hid TR
  obtain ⟨hln, hp⟩ : leavesN t.length ≠ 0 ∧ placedB t = true := by
    rw [rightT, Bool.and_eq_true, Bool.and_eq_true] at hr
    exact ⟨of_decide_eq_true hr.1, hr.2.1⟩
  obtain ⟨d, hd, hN, hl⟩ := leavesN_pos hln
  have hlen := smallT_len hs
  have hp1 : 0 < 2 ^ d := Nat.pos_of_ne_zero (by simp)
  have hrl : IsLev (2 ^ d - 1) d := by
    unfold IsLev
    exact Nat.mod_eq_of_lt (by have : 2 ^ (d + 1) = 2 * 2 ^ d := by rw [Nat.pow_succ]; omega
                               omega)
  have FL := fun (W : World) (g : Nat) (hw : Below w.heap.size w W) (hg : w.heap.size ≤ g) (ha : AllR W g t.length (fun _ => none)) => fill_any t hs hok hp d (2 ^ d - 1) g v W _ (h.g hw hg) ha hrl (by omega)
  have CG := fun (W : World) (g : Nat) (ha : AllR W g t.length (fillF (nd t) (fun _ => none) d (2 ^ d - 1))) => ha.congr (F' := fun y => some (hashX (nd t) y)) (fun y hy => by
    unfold fillF hashX
    rw [if_pos ⟨by omega, by omega⟩])
  obtain ⟨a, c, rfl, hc, hc2⟩ := h.sl
  obtain ⟨n, hn⟩ : ∃ n, n = t.length := ⟨_, rfl⟩
  rw [← hn] at hl hlen hc FL CG HT ⊢
  obtain ⟨x, hx⟩ : ∃ x, x = 2 ^ d - 1 := ⟨_, rfl⟩
  rw [← hx] at FL CG
  have hq : (n : Int) / 2 = (x : Int) := by omega
  have HMK := make_rows (n := n) (by omega)
  have HMD := Lib.hid (fun (W : World) => made_rows W n)
  obtain ⟨Z, hZ⟩ : ∃ Z, Z = madeCells (Value.slice none 0 0).cells (n * 1) := ⟨_, rfl⟩
  rw [← hZ] at HMK HMD
  have HFL := Lib.hid FL
  have HCG := Lib.hid CG
  clear hx hZ TR h hs hok hr hln hp hN hl hrl FL CG hn hp1
  go_enter Try.func16, Try.ntmps16
  go_wp2_with fail
  refine (HT.out).mono ?_
  rintro e w1 ⟨rfl, hb⟩
  have HB := Lib.hid hb
  have hs1 := hb.size
  clear hb
  go_wp2_with fail
  refine (HFL.out _ _ (HB.out.alloc HB.out.size _) hs1 (HMD.out w1)).mono ?_
  rintro e w2 ⟨v2, rfl, hr2, ha2, hall2, ho2⟩
  have HA := Lib.hid (HCG.out _ _ hall2)
  have HB2 := Lib.hid ((HB.out.alloc HB.out.size (.cells Z 29)).trans (ho2.1.mono hs1))
  clear hr2 ha2 hall2 ho2
  go_wp2_with fail
  go_ret2
  exact ⟨_, hs1, rfl, HA.out, HB2.out⟩
set_option maxRecDepth 100000 in
set_option maxHeartbeats 4000000 in
theorem htree_no (v : Value) (t : List NodeD) (w : World) (h : TreeR w v t) (hs : smallT t = true) (hok : TreeOk t) (hr : rightT t = false) :
    Calls Try.prog 17 #[v] w fun e w' => e = .returned (.tuple #[.slice none 0 0, .int .u8 12]) ∧ Below w.heap.size w w' := by
  have HA := Lib.hid (hall_no v t w h hs hok hr)
  obtain ⟨a, n, c, rfl⟩ : ∃ a n c, v = .slice a n c := by obtain ⟨a, c, e, _⟩ := h.sl; exact ⟨_, _, _, e⟩
  clear h hs hok hr
  go_enter Try.func17, Try.ntmps17
  go_wp2_with fail
  refine (HA.out).mono ?_
  rintro e w1 ⟨rfl, hb⟩
  go_wp2_with fail
  go_ret2
  exact ⟨rfl, hb⟩
set_option maxRecDepth 100000 in
set_option maxHeartbeats 4000000 in
theorem htree_yes (v : Value) (t : List NodeD) (w : World) (h : TreeR w v t) (hs : smallT t = true) (hok : TreeOk t) (hr : rightT t = true) :
    Calls Try.prog 17 #[v] w fun e w' => ∃ u, e = .returned (.tuple #[u, .int .u8 0]) ∧ Rd w' u (bvs (hashX (nd t) (t.length / 2))) ∧ Below w.heap.size w w' := by
  have HA := Lib.hid (hall_yes v t w h hs hok hr)
  have hln : leavesN t.length ≠ 0 := by
    rw [rightT, Bool.and_eq_true] at hr
    exact of_decide_eq_true hr.1
  obtain ⟨d, hd, hN, hl⟩ := leavesN_pos hln
  have hp1 : 0 < 2 ^ d := Nat.pos_of_ne_zero (by simp)
  have hlen := smallT_len hs
  obtain ⟨a, c, rfl, hc, hc2⟩ := h.sl
  obtain ⟨n, hn⟩ : ∃ n, n = t.length := ⟨_, rfl⟩
  rw [← hn] at hl HA hc hlen ⊢
  obtain ⟨x, hx⟩ : ∃ x, x = n / 2 := ⟨_, rfl⟩
  have hq : (n : Int) / 2 = (x : Int) := by omega
  have hxn : x < n := by omega
  have hxI : (x : Int) < (n : Int) := by omega
  rw [← hx]
  clear hx hN hl hp1 hln h hs hok hr hn
  go_enter Try.func17, Try.ntmps17
  go_wp2_with fail
  refine (HA.out).mono ?_
  rintro e w1 ⟨g, hg, rfl, hall, hb⟩
  obtain ⟨u, hc1, hru, _⟩ := hall.row hxn rfl
  have HR := Lib.hid hru
  have HB := Lib.hid hb
  clear hru hb hall
  go_wp2_with fail
  go_ret2
  exact ⟨_, rfl, HR.out, HB.out⟩
end Go.Proofs.Ytohldijomcljkaa
