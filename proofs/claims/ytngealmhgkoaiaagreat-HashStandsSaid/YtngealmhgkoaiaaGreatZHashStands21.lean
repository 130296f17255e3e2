/- Walks: tree.members, tree.Members. -/
import Derived.Test.YtngealmhgkoaiaaGreatZHashStands19
import Derived.Test.YtngealmhgkoaiaaGreatZHashStands14
import Derived.Test.YtngealmhgkoaiaaGreatZHashStands17
import Derived.Test.YtngealmhgkoaiaaGreatZHashStands20
namespace Go.Proofs.YtngealmhgkoaiaaGreat
open Go.RowKit WalkM WireM
set_option linter.unusedVariables false
/-- a node's cells, written out -/
theorem NodeC.flat {w : World} {d : NodeD} {c : Array Value} (h : NodeC w d c) : ∃ (kd s l1 l2 l3 l4 l5 l6 l7 l8 c1 c2 c3 c4 c5 e1 e2 e3 : Nat) (a1 a2 a3 a4 a5 b1 b2 b3 : Option Addr),
  c = #[.int .u8 (kd : Nat), .slice a1 l1 c1, .slice a2 l2 c2, .slice a3 l3 c3, .int .u8 (s : Nat), .slice a4 l4 c4, .slice a5 l5 c5, .slice b1 l6 e1, .slice b2 l7 e2, .slice b3 l8 e3] ∧ kd = d.kind ∧ l8 = d.par.late.length ∧ Rd w (.slice b3 l8 e3) (ivs .i64 d.par.late) := by
 obtain ⟨a1, c1, a2, c2, a3, c3, a4, c4, a5, c5, b1, e1, b2, e2, b3, e3, hcs, h1, h2, h3, h4, h5, h6, h7, h8⟩ := h
 exact ⟨_, _, _, _, _, _, _, _, _, _, _, _, _, _, _, _, _, _, _, _, _, _, _, _, _, _, hcs, rfl, rfl, h8⟩
end Go.Proofs.YtngealmhgkoaiaaGreat
/- Plain: the children of a node of a level. -/
namespace Go.Proofs.YtngealmhgkoaiaaGreat
open Go.RowKit WalkM
set_option linter.unusedVariables false
theorem kids_lev {x k : Nat} (hx : x ≤ 131070) (h : IsLev x (k + 1)) : leftZ (x : Int) = ((x - 2 ^ k : Nat) : Int) ∧ rightZ (x : Int) = ((x + 2 ^ k : Nat) : Int) ∧ IsLev (x - 2 ^ k) k ∧ IsLev (x + 2 ^ k) k ∧ 2 ^ k ≤ x := by
 have hl := lev_eq hx h
 have hz : levZ (x : Int) = ((k + 1 : Nat) : Int) := by
  rw [levZ, if_pos (by unfold isNode; rw [decide_eq_true_iff]; omega), Int.toNat_natCast, hl]
 have hp : 0 < 2 ^ k := Nat.pos_of_ne_zero (by simp)
 have hh : halfZ (x : Int) = ((2 ^ k : Nat) : Int) := by
  rw [halfZ, hz, if_pos (by omega), show (((k + 1 : Nat) : Int) - 1).toNat = k by omega, Int.natCast_pow]; rfl
 unfold IsLev at h ⊢
 have e1 : 2 ^ (k + 1) = 2 * 2 ^ k := by rw [Nat.pow_succ]; omega
 have e2 : 2 ^ (k + 1 + 1) = 4 * 2 ^ k := by rw [Nat.pow_succ, e1]; omega
 rw [e2, e1] at h
 rw [e1]
 have hd := Nat.div_add_mod x (4 * 2 ^ k)
 rw [h] at hd
 have hpx : 2 ^ k ≤ x := by omega
 refine ⟨?_, ?_, ?_, ?_, hpx⟩
 ·rw [leftZ, hh, if_neg (by omega)]; omega
 ·rw [rightZ, hh, if_neg (by omega)]; omega
 ·have e : x - 2 ^ k = 2 * 2 ^ k * (2 * (x / (4 * 2 ^ k))) + (2 ^ k - 1) := by
   have : 2 * 2 ^ k * (2 * (x / (4 * 2 ^ k))) = 4 * 2 ^ k * (x / (4 * 2 ^ k)) := by rw [Nat.mul_left_comm, ← Nat.mul_assoc, ← Nat.mul_assoc]
   omega
  rw [e, Nat.mul_add_mod]; exact Nat.mod_eq_of_lt (by omega)
 ·have e : x + 2 ^ k = 2 * 2 ^ k * (2 * (x / (4 * 2 ^ k)) + 1) + (2 ^ k - 1) := by
   have : 2 * 2 ^ k * (2 * (x / (4 * 2 ^ k)) + 1) = 4 * 2 ^ k * (x / (4 * 2 ^ k)) + 2 * 2 ^ k := by rw [Nat.mul_add, Nat.mul_one, Nat.mul_left_comm, ← Nat.mul_assoc, ← Nat.mul_assoc]
   omega
  rw [e, Nat.mul_add_mod]; exact Nat.mod_eq_of_lt (by omega)
theorem lev_zero {x : Nat} (h : IsLev x 0) : x % 2 = 0 := by unfold IsLev at h; simpa using h
theorem lev_succ {x k : Nat} (h : IsLev x (k + 1)) : x % 2 = 1 := by
 unfold IsLev at h
 have e2 : 2 ^ (k + 1 + 1) = 2 * 2 ^ (k + 1) := by rw [Nat.pow_succ]; omega
 have e1 : 2 ^ (k + 1) = 2 * 2 ^ k := by rw [Nat.pow_succ]; omega
 have hp : 0 < 2 ^ k := Nat.pos_of_ne_zero (by simp)
 have := Nat.mod_mod_of_dvd x (show 2 ∣ 2 ^ (k + 1 + 1) from ⟨2 ^ (k + 1), e2⟩)
 rw [h] at this
 omega
/-- all beneath a node lies in the tree -/
theorem under_in {x d : Nat} (hx : x + 1 < 2 ^ (d + 1)) (hd : d ≤ 16) : x + 2 ^ lev x + 1 ≤ 2 ^ (d + 1) := by
 have h17 : 2 ^ (d + 1) ≤ 2 ^ 17 := Nat.pow_le_pow_right (by omega) (by omega)
 have hxl : x ≤ 131070 := by have : (2 : Nat) ^ 17 = 131072 := rfl; omega
 have hl := lev_is hxl
 have hld := (lev_root hx hl).1
 have hph := phi_le (x := x) (d := d) (by omega) hld
 have ha := anc_self hl
 rw [anc_plo] at ha
 have e : phi x (lev x) = plo x (lev x) + (2 ^ (lev x + 1) - 2) := rfl
 have e1 : 2 ^ (lev x + 1) = 2 * 2 ^ lev x := by rw [Nat.pow_succ]; omega
 have hp : 0 < 2 ^ lev x := Nat.pos_of_ne_zero (by simp)
 omega
end Go.Proofs.YtngealmhgkoaiaaGreat
/- Walks: tree.resolve. -/
namespace Go.Proofs.YtngealmhgkoaiaaGreat
open Go.RowKit WalkM WireM
set_option linter.unusedVariables false
/-- what a node that is not blank resolves to -/
def fullR (d : NodeD) (x : Nat) : List Int := (x : Int) :: d.par.late.map fun u => 2 * u
/-- what a node of a level resolves to -/
def resN (t : Nat → NodeD) : Nat → Nat → List Int
 | 0, x => if (t x).kind = 0 then [] else fullR (t x) x
 | k + 1, x => if (t x).kind = 0 then resN t k (x - 2 ^ k) ++ resN t k (x + 2 ^ k) else fullR (t x) x
theorem resN_full {t : Nat → NodeD} {k x : Nat} (h : (t x).kind ≠ 0) : resN t k x = fullR (t x) x := by cases k <;> simp only [resN, if_neg h]
theorem resN_zero {t : Nat → NodeD} {x : Nat} (h : (t x).kind = 0) : resN t 0 x = [] := by simp only [resN, if_pos h]
theorem resN_succ {t : Nat → NodeD} {k x : Nat} (h : (t x).kind = 0) : resN t (k + 1) x = resN t k (x - 2 ^ k) ++ resN t k (x + 2 ^ k) := by simp only [resN, if_pos h]
theorem fullR_len {d : NodeD} (h : smallB d = true) (x : Nat) : (fullR d x).length ≤ 61 := by
 have := of_decide_eq_true h
 unfold fullR
 rw [List.length_cons, List.length_map]; omega
theorem resN_len {t : Nat → NodeD} (hs : ∀ x, smallB (t x) = true) : ∀ k x, (resN t k x).length ≤ 61 * 2 ^ k := by
 intro k
 induction k with
 | zero =>
  intro x
  by_cases h : (t x).kind = 0
  ·rw [resN_zero h]; simp
  ·rw [resN_full h]; have := fullR_len (hs x) x; simpa using this
 | succ k ih =>
  intro x
  have e : 2 ^ (k + 1) = 2 * 2 ^ k := by rw [Nat.pow_succ]; omega
  have hp : 0 < 2 ^ k := Nat.pos_of_ne_zero (by simp)
  by_cases h : (t x).kind = 0
  ·rw [resN_succ h, List.length_append]
   have h1 := ih (x - 2 ^ k)
   have h2 := ih (x + 2 ^ k)
   omega
  ·rw [resN_full h]; have := fullR_len (hs x) x; omega
def ResP (t : List NodeD) (k : Nat) : Prop := ∀ (x : Nat) (v : Value) (w : World), TreeR w v t → IsLev x k → x + 2 ^ k ≤ t.length →
 Calls Tryz.prog 129 #[v, .int .i64 (x : Nat)] w fun e w' => ∃ v', e = .returned v' ∧ Own w' w.heap.size 3 v' (ivs .i64 (resN (nd t) k x)) ∧ Below w.heap.size w w'
theorem ivs_app (L M : List Int) : ivs .i64 (L ++ M) = ivs .i64 L ++ ivs .i64 M := by simp [ivs]
theorem fullR_step (x : Nat) (L : List Int) {r : Nat} (h : r < L.length) : ivs .i64 ((x : Int) :: (L.take (r + 1)).map fun u => 2 * u) = ivs .i64 ((x : Int) :: (L.take r).map fun u => 2 * u) ++ [.int .i64 (2 * L.getD r 0)] := by
 rw [List.take_succ_eq_append_getElem h, List.getD_eq_getElem?_getD, List.getElem?_eq_getElem h, List.map_append, ← List.cons_append]
 unfold ivs
 rw [List.map_append]; rfl
set_option maxRecDepth 100000 in
set_option maxHeartbeats 4000000 in
theorem res_full (v : Value) (t : List NodeD) (x : Nat) (w : World) (h : TreeR w v t) (hs : smallT t = true) (hok : TreeOk t) (hp : placedB t = true) (hxt : x < t.length) (hk : (nd t x).kind ≠ 0) :
  Calls Tryz.prog 129 #[v, .int .i64 (x : Nat)] w fun e w' => ∃ v', e = .returned v' ∧ Own w' w.heap.size 3 v' (ivs .i64 (fullR (nd t x) x)) ∧ Below w.heap.size w w' := by
 have hlen := smallT_len hs
 obtain ⟨a, c, rfl, hc, hc2⟩ := h.sl
 obtain ⟨b, off, cs, rfl, hbl, hnc, hra⟩ := h.node hxt
 have hkd0 := (hok.nd x).kind
 obtain ⟨kd, s, l1, l2, l3, l4, l5, l6, l7, l8, c1, c2, c3, c4, c5, e1, e2, e3, a1, a2, a3, a4, a5, b1, b2, b3, rfl, hkd, hl8, hlate⟩ := hnc.flat
 have hlb := late_bd (right_late (placed_at hp hxt).2)
 have hl60 : (nd t x).par.late.length ≤ 60 := by have := of_decide_eq_true (smallT_nd hs x); omega
 unfold fullR
 obtain ⟨L, hL⟩ : ∃ L, L = (nd t x).par.late := ⟨_, rfl⟩
 rw [← hL] at hlb hl8 hlate hl60 ⊢
 rw [← hkd] at hk hkd0
 have AT := fun (W : World) (hw : Below w.heap.size w W) (r : Nat) (hr : r < l8) => (hlate.below hw (Nat.le_refl _)).at3 (u := .int .i64 (L.getD r 0)) (r := r) (by rw [hl8] at hr; simp [ivs, List.getD_eq_getElem?_getD, hr])
 have BD := fun (r : Nat) (hr : r < l8) => (show 0 ≤ L.getD r 0 ∧ L.getD r 0 < 65536 from hlb _ (by rw [hl8] at hr; rw [List.getD_eq_getElem?_getD, List.getElem?_eq_getElem hr]; exact List.getElem_mem hr))
 have STEP := fun (r : Nat) (hr : r < l8) => fullR_step x L (r := r) (by omega)
 have FIN : ivs .i64 ((x : Int) :: (L.take l8).map fun u => 2 * u) = ivs .i64 ((x : Int) :: L.map fun u => 2 * u) := by rw [hl8, List.take_length]
 obtain ⟨G, hG⟩ : ∃ G : Nat → List Value, G = fun r => ivs .i64 ((x : Int) :: (L.take r).map fun u => 2 * u) := ⟨_, rfl⟩
 have hG' : ∀ r, ivs .i64 ((x : Int) :: (L.take r).map fun u => 2 * u) = G r := fun r => by rw [hG]
 have G0 : G 0 = [.int .i64 (x : Int)] := by rw [hG]; simp [ivs]
 have GL : ∀ r, r ≤ l8 → (G r).length ≤ 61 := fun r hr => by rw [hG]; simp [ivs]; omega
 simp only [hG'] at STEP FIN
 rw [← FIN]
 obtain ⟨U, hU⟩ : ∃ U : Nat → Int, U = fun r => L.getD r 0 := ⟨_, rfl⟩
 have hU' : ∀ r, L.getD r 0 = U r := fun r => by rw [hU]
 simp only [hU'] at AT BD STEP
 rw [← hl8] at hl60
 obtain ⟨n, hn⟩ : ∃ n, n = t.length := ⟨_, rfl⟩
 rw [← hn] at hc hlen hxt ⊢
 have HAT := Lib.hid AT
 have HBD := Lib.hid BD
 have HSTEP := Lib.hid STEP
 have HG0 := Lib.hid G0
 have HGL := Lib.hid GL
 have HRA := Lib.hid hra
 have hxI : (x : Int) < (n : Int) := by omega
 have hk1 : ((kd : Int) == 0) = false := by rw [beq_eq_false_iff_ne]; omega
 have hk2 : (kd : Int) ≠ 0 := by omega
 clear AT BD STEP G0 GL FIN hG hG' hU hU' hn hL hlb hl8 hlate h hs hok hp hnc hra hkd hk
 go_enter Tryz.func129, Tryz.ntmps129
 go_wp2_with (refine wpList_load_mid rfl 54 (.tmp 11) rfl b (off + x * 10) rfl [.int .u8 (kd : Nat), .slice a1 l1 c1, .slice a2 l2 c2, .slice a3 l3 c3, .int .u8 (s : Nat), .slice a4 l4 c4, .slice a5 l5 c5, .slice b1 l6 e1, .slice b2 l7 e2, .slice b3 l8 e3] _ HRA.out Tryz.underlying54 rfl node_info ?_)
 have HO0 := Lib.hid (show Own ((w.alloc (.cells #[.int .u8 (kd : Nat), .slice a1 l1 c1, .slice a2 l2 c2, .slice a3 l3 c3, .int .u8 (s : Nat), .slice a4 l4 c4, .slice a5 l5 c5, .slice b1 l6 e1, .slice b2 l7 e2, .slice b3 l8 e3] 54)).alloc (.cells #[.int .i64 (x : Int)] 3)) w.heap.size 3 (.slice (some ⟨w.heap.size + 1, 0, none⟩) 1 1) (G 0) from by
  rw [HG0.out]
  exact Own.full (B := w.heap.size) (cs := #[.int .i64 (x : Int)]) (by simp) (by omega) (by unfold maxLen; simp) rfl)
 have HB0 := Lib.hid (show Below w.heap.size w ((w.alloc (.cells #[.int .u8 (kd : Nat), .slice a1 l1 c1, .slice a2 l2 c2, .slice a3 l3 c3, .int .u8 (s : Nat), .slice a4 l4 c4, .slice a5 l5 c5, .slice b1 l6 e1, .slice b2 l7 e2, .slice b3 l8 e3] 54)).alloc (.cells #[.int .i64 (x : Int)] 3)) from ((Below.refl _ _).alloc (Nat.le_refl _) _).alloc (by simp) _)
 generalize hw2 : (w.alloc (.cells #[.int .u8 (kd : Nat), .slice a1 l1 c1, .slice a2 l2 c2, .slice a3 l3 c3, .int .u8 (s : Nat), .slice a4 l4 c4, .slice a5 l5 c5, .slice b1 l6 e1, .slice b2 l7 e2, .slice b3 l8 e3] 54)).alloc (.cells #[.int .i64 (x : Int)] 3) = w2 at HO0 HB0 ⊢
 clear hw2
 go_loopg [6, 41] l8 (fun q ov iv wr => ∃ r : Nat, r + q = l8 ∧ iv = .int .i64 (r : Nat) ∧ Own wr w.heap.size 3 ov (G r) ∧ Below w.heap.size w wr)
 case atStart => exact ⟨0, by omega, rfl, HO0.out, HB0.out⟩
 case round =>
  obtain ⟨r, hr, rfl, hown, hb⟩ := hrel
  have HR := Lib.hid hr
  have HO := Lib.hid hown
  have HB := Lib.hid hb
  by_cases hlt : r < l8
  ·have hlt' : decide (r < l8) = true := decide_eq_true hlt
   have hltI : (r : Int) < (l8 : Int) := by omega
   obtain ⟨bl, ol, rfl, hbl2, cu⟩ := HAT.out wr hb r hlt
   obtain ⟨hu0, hu1⟩ := HBD.out r hlt
   have HS := Lib.hid (HSTEP.out r hlt)
   have HGR := Lib.hid (HGL.out r (by omega))
   obtain ⟨u, hu⟩ : ∃ u, u = U r := ⟨_, rfl⟩
   rw [← hu] at cu hu0 hu1 HS
   have hw : wrap64 (2 * u) = 2 * u := by unfold wrap64; omega
   obtain ⟨p1, p2, p3, rfl⟩ := slOf hown
   clear hr hown hb hu
   go_wp2_with (at_builtin; refine wpList_push rfl (.tmp 45) (.tmp 48) 50 rfl w.heap.size 3 _ 8 intsE _ _ rfl (HO.out.alloc _) ⟨wr.heap.size, 0, none⟩ (.int .i64 (2 * u)) rfl ?c1 rfl ?c2 ?c3 ?_)
   case c1 => exact cell_new rfl
   case c2 => have := HGR.out; omega
   case c3 => have := HB.out.size; simp; omega
   rintro v' w1 hown1 - hb1
   have HO1 := Lib.hid hown1
   have HB1 := Lib.hid ((HB.out.alloc HB.out.size (.cells #[.int .i64 (2 * u)] 3)).trans hb1)
   clear hown1 hb1
   go_wp2_with fail
   go_roundg (gk - 1)
   case measure => have := HR.out; omega
   case rel => exact ⟨r + 1, by have := HR.out; omega, by go_num, by rw [HS.out]; exact HO1.out, HB1.out⟩
  ·obtain rfl : r = l8 := by omega
   have hlt' : decide (r < r) = false := decide_eq_false hlt
   clear hr hown hb hlt
   go_wp2_with fail
   go_ret
   exact ⟨_, rfl, HO.out, HB.out⟩
set_option maxRecDepth 100000 in
set_option maxHeartbeats 4000000 in
theorem res_zero (t : List NodeD) (hs : smallT t = true) (hok : TreeOk t) (hp : placedB t = true) : ResP t 0 := by
 intro x v w h hlev hx
 have hxt : x < t.length := by have : (2 : Nat) ^ 0 = 1 := rfl; omega
 by_cases hk : (nd t x).kind = 0
 ·rw [resN_zero hk]
  have hev := lev_zero hlev
  have hlen := smallT_len hs
  obtain ⟨a, c, rfl, hc, hc2⟩ := h.sl
  obtain ⟨b, off, cs, rfl, hbl, hnc, hra⟩ := h.node hxt
  have hkd0 := (hok.nd x).kind
  obtain ⟨kd, s, l1, l2, l3, l4, l5, l6, l7, l8, c1, c2, c3, c4, c5, e1, e2, e3, a1, a2, a3, a4, a5, b1, b2, b3, rfl, hkd, hl8, hlate⟩ := hnc.flat
  rw [← hkd] at hk hkd0
  subst hk
  obtain ⟨n, hn⟩ : ∃ n, n = t.length := ⟨_, rfl⟩
  rw [← hn] at hc hlen hxt ⊢
  have HRA := Lib.hid hra
  have hxI : (x : Int) < (n : Int) := by omega
  have hm : (x : Int) % 2 = 0 := by omega
  clear hn hl8 hlate h hs hok hp hnc hra hkd hkd0 hlev hx hev
  go_enter Tryz.func129, Tryz.ntmps129
  go_wp2_with (refine wpList_load_mid rfl 54 (.tmp 11) rfl b (off + x * 10) rfl [.int .u8 0, .slice a1 l1 c1, .slice a2 l2 c2, .slice a3 l3 c3, .int .u8 (s : Nat), .slice a4 l4 c4, .slice a5 l5 c5, .slice b1 l6 e1, .slice b2 l7 e2, .slice b3 l8 e3] _ HRA.out Tryz.underlying54 rfl node_info ?_)
  go_ret
  exact ⟨_, rfl, Own.nil _ _ _, (Below.refl _ _).alloc (Nat.le_refl _) _⟩
 ·rw [resN_full hk]
  exact res_full v t x w h hs hok hp hxt hk
set_option maxRecDepth 100000 in
set_option maxHeartbeats 4000000 in
theorem res_succ (t : List NodeD) (hs : smallT t = true) (hok : TreeOk t) (hp : placedB t = true) (k : Nat) (IH : ResP t k) : ResP t (k + 1) := by
 intro x v w h hlev hx
 have hpw : 2 ^ (k + 1) = 2 * 2 ^ k := by rw [Nat.pow_succ]; omega
 have hp1 : 0 < 2 ^ k := Nat.pos_of_ne_zero (by simp)
 have hxt : x < t.length := by omega
 by_cases hk : (nd t x).kind = 0
 ·rw [resN_succ hk]
  have hod := lev_succ hlev
  have hlen := smallT_len hs
  obtain ⟨hkl, hkr, hl1', hl2', hkx⟩ := kids_lev (by omega) hlev
  have LF := fun (W : World) => wleft_any (x : Int) W
  have RT := fun (W : World) => wright_any (x : Int) W
  rw [hkl] at LF
  rw [hkr] at RT
  have R1 := fun (W : World) (hw : Below w.heap.size w W) => IH (x - 2 ^ k) v W (h.below hw (Nat.le_refl _)) hl1' (by omega)
  have R2 := fun (W : World) (hw : Below w.heap.size w W) => IH (x + 2 ^ k) v W (h.below hw (Nat.le_refl _)) hl2' (by omega)
  have n1 := resN_len (t := nd t) (smallT_nd hs) k (x - 2 ^ k)
  have n2 := resN_len (t := nd t) (smallT_nd hs) k (x + 2 ^ k)
  have one2 := ivs_one' (resN (nd t) k (x + 2 ^ k))
  rw [ivs_app]
  obtain ⟨L1, hL1⟩ : ∃ L, L = resN (nd t) k (x - 2 ^ k) := ⟨_, rfl⟩
  obtain ⟨L2, hL2⟩ : ∃ L, L = resN (nd t) k (x + 2 ^ k) := ⟨_, rfl⟩
  rw [← hL1] at R1 n1 ⊢
  rw [← hL2] at R2 n2 one2 ⊢
  have h40 : 2 ^ k ≤ 40 := by omega
  have hn1 : L1.length ≤ 3000 := by omega
  have hn2 : L2.length ≤ 3000 := by omega
  obtain ⟨a, c, rfl, hc, hc2⟩ := h.sl
  obtain ⟨b, off, cs, rfl, hbl, hnc, hra⟩ := h.node hxt
  have hkd0 := (hok.nd x).kind
  obtain ⟨kd, s, l1, l2, l3, l4, l5, l6, l7, l8, c1, c2, c3, c4, c5, e1, e2, e3, a1, a2, a3, a4, a5, b1, b2, b3, rfl, hkd, hl8, hlate⟩ := hnc.flat
  rw [← hkd] at hk hkd0
  subst hk
  obtain ⟨n, hn⟩ : ∃ n, n = t.length := ⟨_, rfl⟩
  rw [← hn] at R1 R2 hc hlen hxt ⊢
  obtain ⟨xl, hxl⟩ : ∃ y, y = x - 2 ^ k := ⟨_, rfl⟩
  obtain ⟨xr, hxr⟩ : ∃ y, y = x + 2 ^ k := ⟨_, rfl⟩
  rw [← hxl] at LF R1
  rw [← hxr] at RT R2
  have HLF := Lib.hid LF
  have HRT := Lib.hid RT
  have HR1 := Lib.hid R1
  have HR2 := Lib.hid R2
  have HN1 := Lib.hid hn1
  have HN2 := Lib.hid hn2
  have HONE := Lib.hid one2
  have HRA := Lib.hid hra
  have hxI : (x : Int) < (n : Int) := by omega
  have hm : (x : Int) % 2 = 1 := by omega
  clear hn hl8 hlate h hs hok hp hnc hra hkd hkd0 hlev hx hod LF RT R1 R2 hL1 hL2 n1 n2 one2 hn1 hn2 h40 hkl hkr hl1' hl2' hkx hxl hxr hpw hp1 IH
  go_enter Tryz.func129, Tryz.ntmps129
  go_wp2_with (refine wpList_load_mid rfl 54 (.tmp 11) rfl b (off + x * 10) rfl [.int .u8 0, .slice a1 l1 c1, .slice a2 l2 c2, .slice a3 l3 c3, .int .u8 (s : Nat), .slice a4 l4 c4, .slice a5 l5 c5, .slice b1 l6 e1, .slice b2 l7 e2, .slice b3 l8 e3] _ HRA.out Tryz.underlying54 rfl node_info ?_)
  refine (HLF.out _).mono ?_
  rintro e w' ⟨rfl, rfl⟩
  have HB0 := Lib.hid ((Below.refl w.heap.size w).alloc (Nat.le_refl _) (.cells #[.int .u8 0, .slice a1 l1 c1, .slice a2 l2 c2, .slice a3 l3 c3, .int .u8 (s : Nat), .slice a4 l4 c4, .slice a5 l5 c5, .slice b1 l6 e1, .slice b2 l7 e2, .slice b3 l8 e3] 54))
  go_wp2_with fail
  refine (HR1.out _ HB0.out).mono ?_
  rintro e w1 ⟨v1, rfl, hown1, hb1⟩
  have HO1 := Lib.hid (hown1.mono HB0.out.size)
  have HB1 := Lib.hid (HB0.out.trans (hb1.mono HB0.out.size))
  obtain ⟨p1, p2, p3, rfl⟩ := slOf hown1
  clear hown1 hb1
  go_wp2_with fail
  refine (HRT.out _).mono ?_
  rintro e w' ⟨rfl, rfl⟩
  go_wp2_with fail
  refine (HR2.out _ HB1.out).mono ?_
  rintro e w2 ⟨v2, rfl, hown2, hb2⟩
  have HO2 := Lib.hid hown2.rd
  have HO1' := Lib.hid (HO1.out.below hb2 (Nat.le_refl _))
  have HB2 := Lib.hid (HB1.out.trans (hb2.mono HB1.out.size))
  obtain ⟨q1, q2, q3, rfl⟩ := slOf hown2
  clear hown2 hb2
  go_wp2_with (at_builtin; refine wpList_app rfl (.tmp 29) (.tmp 33) 50 rfl w.heap.size 3 _ 8 intsE _ _ rfl HO1'.out _ (ivs .i64 L2) rfl HO2.out HONE.out ?c2 ?c3 ?_)
  case c2 => rw [ivs_len', ivs_len']; have := HN1.out; have := HN2.out; omega
  case c3 => exact HB2.out.size
  rintro v' w3 hown - hb
  have HO := Lib.hid hown
  have HB := Lib.hid (HB2.out.trans hb)
  clear hown hb
  go_wp2_with fail
  go_ret
  exact ⟨_, rfl, HO.out, HB.out⟩
 ·rw [resN_full hk]
  exact res_full v t x w h hs hok hp hxt hk
theorem res_lev (t : List NodeD) (hs : smallT t = true) (hok : TreeOk t) (hp : placedB t = true) : ∀ k, ResP t k := by
 intro k
 induction k with
 | zero => exact res_zero t hs hok hp
 | succ k ih => exact res_succ t hs hok hp k ih
end Go.Proofs.YtngealmhgkoaiaaGreat
