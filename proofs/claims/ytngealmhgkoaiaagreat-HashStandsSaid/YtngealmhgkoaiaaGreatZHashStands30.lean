/- Plain: the hashes of a tree's nodes, without some leaves. -/
import Derived.Test.YtngealmhgkoaiaaGreatZHashStands19
import Derived.Test.YtngealmhgkoaiaaGreatZHashStands12
import Derived.Test.YtngealmhgkoaiaaGreatZHashStands29
import Derived.Test.YtngealmhgkoaiaaGreatZHashStands17
import Derived.Test.YtngealmhgkoaiaaGreatZHashStands21
import Derived.Test.YtngealmhgkoaiaaGreatZHashStands04
import Derived.Test.YtngealmhgkoaiaaGreatZHashStands07
import Derived.Test.YtngealmhgkoaiaaGreatZHashStands26
namespace Go.Proofs.YtngealmhgkoaiaaGreat
open Go.RowKit WalkM ShaM WireM
set_option linter.unusedVariables false
mutual
/-- what is digested of a node of a level -/
def textN (t : Nat → NodeD) : Nat → Nat → List Nat
 | 0, x => ([1] ++ beN 4 (x / 2)) ++ nodeB (t x)
 | k + 1, x => ([2] ++ nodeB (t x)) ++ (vecB (hashN t k (x - 2 ^ k)) ++ vecB (hashN t k (x + 2 ^ k)))
def hashN (t : Nat → NodeD) : Nat → Nat → List Nat
 | 0, x => shaF (([1] ++ beN 4 (x / 2)) ++ nodeB (t x))
 | k + 1, x => shaF (([2] ++ nodeB (t x)) ++ (vecB (hashN t k (x - 2 ^ k)) ++ vecB (hashN t k (x + 2 ^ k))))
end
theorem hashN_eq (t : Nat → NodeD) (k x : Nat) : hashN t k x = shaF (textN t k x) := by cases k <;> simp only [hashN, textN]
theorem textN_zero (t : Nat → NodeD) (x : Nat) : textN t 0 x = ([1] ++ beN 4 (x / 2)) ++ nodeB (t x) := by simp only [textN]
theorem textN_succ (t : Nat → NodeD) (k x : Nat) : textN t (k + 1) x = ([2] ++ nodeB (t x)) ++ (vecB (hashN t k (x - 2 ^ k)) ++ vecB (hashN t k (x + 2 ^ k))) := by simp only [textN]
theorem hashN_len (t : Nat → NodeD) (k x : Nat) : (hashN t k x).length = 32 := by rw [hashN_eq]; exact shaF_len _
theorem shaF_lt (b : List Nat) : ∀ x ∈ shaF b, x < 256 := by
 intro x hx
 unfold shaF at hx
 rw [List.mem_flatten] at hx
 obtain ⟨l, hl, hx⟩ := hx
 obtain ⟨y, _, rfl⟩ := List.mem_map.1 hl
 exact beN_lt _ _ x hx
theorem hashN_lt (t : Nat → NodeD) (k x : Nat) : ∀ y ∈ hashN t k x, y < 256 := by rw [hashN_eq]; exact shaF_lt _
theorem vecB32 {L : List Nat} (h : L.length = 32) : (vecB L).length ≤ 36 := by have := vecB_len L (by omega); omega
theorem textN_len {t : Nat → NodeD} (hs : ∀ x, smallB (t x) = true) (k x : Nat) : (textN t k x).length ≤ 2000 := by
 have h := nodeB_len (hs x)
 cases k with
 | zero =>
  rw [textN_zero]
  simp only [List.length_append, List.length_cons, List.length_nil, beN_len]; omega
 | succ k =>
  have h1 := vecB32 (hashN_len t k (x - 2 ^ k))
  have h2 := vecB32 (hashN_len t k (x + 2 ^ k))
  rw [textN_succ]
  simp only [List.length_append, List.length_cons, List.length_nil]; omega
/-- a node of a tree without some leaves -/
def woD (t : List NodeD) (ps : List Int) (x : Nat) : NodeD :=
 if x % 2 = 0 then (if ((x / 2 : Nat) : Int) ∈ ps then noNodeD else nd t x)
 else ⟨(nd t x).kind, (nd t x).leaf, ⟨(nd t x).par.box, (nd t x).par.hash, (nd t x).par.late.filter fun u => decide (u ∉ ps)⟩⟩
theorem woD_even {t : List NodeD} {ps : List Int} {x : Nat} (h : x % 2 = 0) : woD t ps x = if ((x / 2 : Nat) : Int) ∈ ps then noNodeD else nd t x := by rw [woD, if_pos h]
theorem woD_odd {t : List NodeD} {ps : List Int} {x : Nat} (h : x % 2 = 1) : woD t ps x = ⟨(nd t x).kind, (nd t x).leaf, ⟨(nd t x).par.box, (nd t x).par.hash, (nd t x).par.late.filter fun u => decide (u ∉ ps)⟩⟩ := by rw [woD, if_neg (by omega)]
theorem woD_small {t : List NodeD} (h : smallT t = true) (ps : List Int) (x : Nat) : smallB (woD t ps x) = true := by
 have hs := smallT_nd h x
 unfold woD
 split
 ·split
  ·exact smallB_no
  ·exact hs
 ·have h1 := of_decide_eq_true hs
  have h2 := List.length_filter_le (fun u => decide (u ∉ ps)) (nd t x).par.late
  exact decide_eq_true ⟨h1.1, h1.2.1, h1.2.2.1, h1.2.2.2.1, h1.2.2.2.2.1, h1.2.2.2.2.2.1, h1.2.2.2.2.2.2.1, by have := h1.2.2.2.2.2.2.2; simp only; omega⟩
end Go.Proofs.YtngealmhgkoaiaaGreat
/- Walks: the reference's join and has. -/
namespace Go.Proofs.YtngealmhgkoaiaaGreat
open Go.RowKit WalkM ShaM WireM
set_option linter.unusedVariables false
theorem rdS {w : World} {v : Value} {xs : List Value} (h : Rd w v xs) : ∃ a n c, v = .slice a n c := by
 obtain ⟨a, c, e, _⟩ := h
 exact ⟨_, _, _, e⟩
set_option maxRecDepth 100000 in
set_option maxHeartbeats 1000000 in
theorem join18_any (x y : Value) (A B : List Nat) (w : World) (hx : Rd w x (bvs A)) (hy : Rd w y (bvs B)) (hl : A.length + B.length < 1000000000) :
  Calls Tryz.prog 187 #[x, y] w fun e w' => ∃ v', e = .returned v' ∧ Own w' w.heap.size 5 v' (bvs (A ++ B)) ∧ Below w.heap.size w w' := by
 have HX := Lib.hid hx
 have HY := Lib.hid hy
 clear hx hy
 go_enter Tryz.func187, Tryz.ntmps187
 go_wp2_with (at_builtin; refine wpList_app rfl (.tmp 5) (.tmp 6) 25 rfl w.heap.size 5 _ 1 bytesE _ [] rfl (Own.lit0 rfl (Nat.le_refl _)) _ (bvs A) rfl (HX.out.alloc _) (bvs_one _) ?c2 ?c3 ?_)
 case c2 => rw [bvs_len]; simp; omega
 case c3 => simp
 rintro v2 w2 hown - hb2
 have hbt := ((Below.refl w.heap.size w).alloc (Nat.le_refl _) (.cells #[] 5)).trans hb2
 have HO := Lib.hid hown
 have HB := Lib.hid hbt
 have HY2 := Lib.hid (HY.out.below hbt (Nat.le_refl _))
 clear hown hb2 hbt
 go_wp2_with (at_builtin; refine wpList_app rfl (.tmp 7) (.tmp 8) 25 rfl w.heap.size 5 _ 1 bytesE _ _ rfl HO.out _ (bvs B) rfl HY2.out (bvs_one _) ?c4 ?c5 ?_)
 case c4 => simp only [bvs_len]; omega
 case c5 => exact HB.out.size
 rintro v3 w3 hown - hb3
 have HO3 := Lib.hid hown
 have HB3 := Lib.hid (HB.out.trans hb3)
 clear hown hb3
 go_wp2_with fail
 go_ret
 refine ⟨_, rfl, ?_, HB3.out⟩
 rw [bvs_append]; exact HO3.out
set_option maxRecDepth 100000 in
set_option maxHeartbeats 2000000 in
theorem has18_any (v : Value) (L : List Int) (x : Int) (w : World) (h : Rd w v (ivs .i64 L)) :
  Calls Tryz.prog 159 #[v, .int .i64 x] w fun e w' => e = .returned (.bool (decide (x ∈ L))) ∧ w' = w := by
 have hv : ∃ a c, v = .slice a L.length c ∧ c ≤ maxLen ∧ L.length ≤ c := by obtain ⟨a, c, e, h1, h2, _⟩ := h; exact ⟨a, c, by rw [e]; simp [ivs], h2, by simpa [ivs] using h1⟩
 obtain ⟨a, c, rfl, hcm, hlc⟩ := hv
 have G := fun (i : Nat) (hi : i < L.length) => h.at3 (u := .int .i64 (L.getD i 0)) (r := i) (by simp [ivs, List.getD_eq_getElem?_getD, hi])
 have M1 := fun (i : Nat) (hi : i < L.length) (e : L.getD i 0 = x) => (show decide (x ∈ L) = true from decide_eq_true (by
  rw [List.getD_eq_getElem?_getD, List.getElem?_eq_getElem hi] at e
  have : L[i] = x := e
  rw [← this]; exact List.getElem_mem hi))
 have M2 := fun (hno : ∀ i, i < L.length → L.getD i 0 ≠ x) => (show decide (x ∈ L) = false from decide_eq_false (fun hm => by
  obtain ⟨i, hi, e⟩ := List.getElem_of_mem hm
  exact hno i hi (by rw [List.getD_eq_getElem?_getD, List.getElem?_eq_getElem hi]; exact e)))
 obtain ⟨n, hn⟩ : ∃ n, n = L.length := ⟨_, rfl⟩
 obtain ⟨R, hR⟩ : ∃ R, R = decide (x ∈ L) := ⟨_, rfl⟩
 rw [← hn] at G M1 M2 hlc ⊢
 rw [← hR] at M1 M2 ⊢
 have hnm : n ≤ 9223372036854775807 := by unfold maxLen at hcm; omega
 have HG := Lib.hid G
 have HM1 := Lib.hid M1
 have HM2 := Lib.hid M2
 clear G M1 M2 h hn hR hcm
 go_enter Tryz.func159, Tryz.ntmps159
 go_wp2_with fail
 go_loopg [5] n (fun q iv wr => ∃ r : Nat, r + q = n ∧ iv = .int .i64 (r : Nat) ∧ (∀ i, i < r → L.getD i 0 ≠ x) ∧ wr = w)
 case atStart => exact ⟨0, by omega, rfl, fun k hk => by omega, rfl⟩
 case round =>
  obtain ⟨r, hr, rfl, hno, rfl⟩ := hrel
  have HR := Lib.hid hr
  have HNO := Lib.hid hno
  clear hr hno
  by_cases hlt : r < n
  ·have hlt' : decide (r < n) = true := decide_eq_true hlt
   obtain ⟨b, off, rfl, hbl, hcell⟩ := HG.out r hlt
   obtain ⟨y, hy⟩ : ∃ y, y = L.getD r 0 := ⟨_, rfl⟩
   rw [← hy] at hcell
   have HY := Lib.hid hy
   clear hy
   by_cases he : y = x
   ·have hq : (y == x) = true := by rw [beq_iff_eq]; exact he
    have HE := Lib.hid he
    clear he
    go_wp2_with fail
    go_ret
    exact ⟨retB (HM1.out r hlt (by rw [← HY.out]; exact HE.out)), rfl⟩
   ·have hq : (y == x) = false := by rw [beq_eq_false_iff_ne]; exact he
    have HE := Lib.hid he
    clear he
    go_wp2_with fail
    go_roundg (gk - 1)
    case measure => have := HR.out; omega
    case rel =>
     refine ⟨r + 1, by have := HR.out; omega, by go_num, fun i hi => ?_, rfl⟩
     by_cases e : i = r
     ·rw [e, ← HY.out]; exact HE.out
     ·exact HNO.out i (by omega)
  ·obtain rfl : r = n := by have := HR.out; omega
   have hlt' : decide (r < r) = false := decide_eq_false hlt
   go_wp2_with fail
   go_ret
   exact ⟨retB (HM2.out HNO.out), rfl⟩
end Go.Proofs.YtngealmhgkoaiaaGreat
/- Walks: the reference's Text and Hash of a node of a tree, without some leaves' places. -/
namespace Go.Proofs.YtngealmhgkoaiaaGreat
open Go.RowKit WalkM ShaM WireM
set_option linter.unusedVariables false
def RTextP (t : List NodeD) (ps : List Int) (k : Nat) : Prop := ∀ (x : Nat) (v vp : Value) (w : World), TreeR w v t → Rd w vp (ivs .i64 ps) → IsLev x k → x + 2 ^ k ≤ t.length →
 Calls Tryz.prog 115 #[v, .int .i64 (x : Nat), vp] w fun e w' => ∃ v', e = .returned v' ∧ Own w' w.heap.size 5 v' (bvs (textN (woD t ps) k x)) ∧ Below w.heap.size w w'
def RHashP (t : List NodeD) (ps : List Int) (k : Nat) : Prop := ∀ (x : Nat) (v vp : Value) (w : World), TreeR w v t → Rd w vp (ivs .i64 ps) → IsLev x k → x + 2 ^ k ≤ t.length →
 Calls Tryz.prog 91 #[v, .int .i64 (x : Nat), vp] w fun e w' => ∃ v', e = .returned v' ∧ Own w' w.heap.size 5 v' (bvs (hashN (woD t ps) k x)) ∧ Below w.heap.size w w'
/-- from the region's world on -/
theorem NodeC.alloc {w : World} {d : NodeD} {c : Array Value} (h : NodeC w d c) (o : Obj) : NodeC (w.alloc o) d c := h.below ((Below.refl w.heap.size w).alloc (Nat.le_refl _) o) (Nat.le_refl _)
set_option maxRecDepth 100000 in
set_option maxHeartbeats 4000000 in
theorem rtext_zero (t : List NodeD) (ps : List Int) (hs : smallT t = true) (hok : TreeOk t) (hp : placedB t = true) : RTextP t ps 0 := by
 intro x v vp w h hpr hlev hx
 have hev := lev_zero hlev
 have hx : x < t.length := by have : (2 : Nat) ^ 0 = 1 := rfl; omega
 obtain ⟨a, c, rfl, hc, hc2⟩ := h.sl
 obtain ⟨b, off, cs, rfl, hbl, hnc, hra⟩ := h.node hx
 have HEV := Lib.hid (show (nd t x).kind ≠ 2 by have := (placed_at hp hx).1; rwa [otherK_even hev] at this)
 have hlen := smallT_len hs
 obtain ⟨n, hn⟩ : ∃ n, n = t.length := ⟨_, rfl⟩
 rw [← hn] at hx hc hlen ⊢
 obtain ⟨m, hm0⟩ : ∃ m, m = x / 2 := ⟨_, rfl⟩
 have hq : (x : Int) / 2 = (m : Int) := by omega
 have hm : (x : Int) % 2 = 0 := by omega
 have HAS := Lib.hid (fun (W : World) (hw : Below w.heap.size w W) => has18_any vp ps (m : Int) W (hpr.below hw (Nat.le_refl _)))
 have HT := Lib.hid (show textN (woD t ps) 0 x = ([1] ++ beN 4 m) ++ nodeB (if (m : Int) ∈ ps then noNodeD else nd t x) by rw [textN_zero, woD_even hev, hm0])
 have HKN := Lib.hid (show NodeOk (nd t x) from hok.nd x)
 have HSN := Lib.hid (smallT_nd hs x)
 obtain ⟨a1, c1, a2, c2, a3, c3, a4, c4, a5, c5, b1, e1, b2, e2, b3, e3, hcs, -⟩ := id hnc
 obtain ⟨kd, hkd⟩ : ∃ k, k = (nd t x).kind := ⟨_, rfl⟩
 obtain ⟨l1, hl1⟩ : ∃ l, l = (nd t x).leaf.box.length := ⟨_, rfl⟩
 obtain ⟨l2, hl2⟩ : ∃ l, l = (nd t x).leaf.sign.length := ⟨_, rfl⟩
 obtain ⟨l3, hl3⟩ : ∃ l, l = (nd t x).leaf.ident.length := ⟨_, rfl⟩
 obtain ⟨l4, hl4⟩ : ∃ l, l = (nd t x).leaf.par.length := ⟨_, rfl⟩
 obtain ⟨l5, hl5⟩ : ∃ l, l = (nd t x).leaf.sig.length := ⟨_, rfl⟩
 obtain ⟨l6, hl6⟩ : ∃ l, l = (nd t x).par.box.length := ⟨_, rfl⟩
 obtain ⟨l7, hl7⟩ : ∃ l, l = (nd t x).par.hash.length := ⟨_, rfl⟩
 obtain ⟨l8, hl8⟩ : ∃ l, l = (nd t x).par.late.length := ⟨_, rfl⟩
 obtain ⟨s, hsrc⟩ : ∃ s, s = (nd t x).leaf.source := ⟨_, rfl⟩
 rw [← hkd, ← hl1, ← hl2, ← hl3, ← hl4, ← hl5, ← hl6, ← hl7, ← hl8, ← hsrc] at hcs
 have HNC := Lib.hid hnc
 rw [hcs] at hra HNC
 have HRA := Lib.hid hra
 have hx40 : x < 40 := by omega
 have HNUM := Lib.hid (fun (W : World) => (show Calls Tryz.prog 98 #[.int .i64 4, .int .u64 (m : Nat)] W fun e w' => ∃ v, e = .returned v ∧ Own w' W.heap.size 5 v (bvs (beN 4 m)) ∧ Below W.heap.size W w' from rnum_any 4 m W (by omega) (by omega)))
 have HHH := Lib.hid hm0
 have hvp : ∃ a c, vp = .slice a ps.length c := by obtain ⟨a, c, e, _⟩ := hpr; exact ⟨a, c, by rw [e]; simp [ivs]⟩
 obtain ⟨pa, pc, rfl⟩ := hvp
 obtain ⟨pn, hpn⟩ : ∃ p, p = ps.length := ⟨_, rfl⟩
 rw [← hpn] at HAS ⊢
 clear hnc hra hcs hkd hl1 hl2 hl3 hl4 hl5 hl6 hl7 hl8 hsrc hok hp hs h hpr hm0 hn hlev hpn
 rw [HT.out]
 obtain ⟨D, hD⟩ : ∃ D, D = (if (m : Int) ∈ ps then noNodeD else nd t x) := ⟨_, rfl⟩
 have HDE := Lib.hid hD
 rw [← hD]
 clear hD
 have key : ∀ (wz : World) (CS : Array Value), Blk wz w.heap.size 54 CS → NodeC wz D CS → Below w.heap.size w wz → NodeOk D → smallB D = true → D.kind ≠ 2 → True := fun _ _ _ _ _ _ _ _ => trivial
 clear key
 cases hmem : decide ((m : Int) ∈ ps) with
 | true =>
  have HA := Lib.hid (fun (W : World) (hw : Below w.heap.size w W) => by have := HAS.out W hw; rw [hmem] at this; exact this)
  have hDn : D = noNodeD := by rw [HDE.out, if_pos (of_decide_eq_true hmem)]
  have HDN := Lib.hid hDn
  clear hmem hDn
  go_enter Tryz.func115, Tryz.ntmps115
  go_wp2_with (refine wpList_load_mid rfl 54 (.tmp 14) rfl b (off + x * 10) rfl [.int .u8 (kd : Nat), .slice a1 l1 c1, .slice a2 l2 c2, .slice a3 l3 c3, .int .u8 (s : Nat), .slice a4 l4 c4, .slice a5 l5 c5, .slice b1 l6 e1, .slice b2 l7 e2, .slice b3 l8 e3] _ HRA.out Tryz.underlying54 rfl node_info ?_)
  refine (HA.out _ ((Below.refl _ _).alloc (Nat.le_refl _) _)).mono ?_
  rintro e w1 ⟨rfl, rfl⟩
  go_wp2_with fail
  have HNZ := Lib.hid (show NodeC (w.alloc (.cells #[.int .u8 0, .slice none 0 0, .slice none 0 0, .slice none 0 0, .int .u8 0, .slice none 0 0, .slice none 0 0, .slice none 0 0, .slice none 0 0, .slice none 0 0] 54)) D #[.int .u8 0, .slice none 0 0, .slice none 0 0, .slice none 0 0, .int .u8 0, .slice none 0 0, .slice none 0 0, .slice none 0 0, .slice none 0 0, .slice none 0 0] from by rw [HDN.out]; exact noNode_c _)
  obtain ⟨wz, hwz⟩ : ∃ X, X = w.alloc (.cells #[.int .u8 0, .slice none 0 0, .slice none 0 0, .slice none 0 0, .int .u8 0, .slice none 0 0, .slice none 0 0, .slice none 0 0, .slice none 0 0, .slice none 0 0] 54) := ⟨_, rfl⟩
  have HBK := Lib.hid (show Blk wz w.heap.size 54 #[.int .u8 0, .slice none 0 0, .slice none 0 0, .slice none 0 0, .int .u8 0, .slice none 0 0, .slice none 0 0, .slice none 0 0, .slice none 0 0, .slice none 0 0] by rw [hwz]; exact Blk.new w _ _)
  have HBW := Lib.hid (show Below w.heap.size w wz by rw [hwz]; exact (Below.refl _ _).alloc (Nat.le_refl _) _)
  rw [← hwz] at HNZ ⊢
  obtain ⟨CS, hCS⟩ : ∃ C, C = (#[.int .u8 0, .slice none 0 0, .slice none 0 0, .slice none 0 0, .int .u8 0, .slice none 0 0, .slice none 0 0, .slice none 0 0, .slice none 0 0, .slice none 0 0] : Array Value) := ⟨_, rfl⟩
  rw [← hCS] at HNZ HBK
  have HIN := Lib.hid (show (Tryz.prog.info? 54).map (·.size) = some CS.size by rw [hCS]; exact node_info)
  have HBY := Lib.hid (fun (W : World) (hw : Below wz.heap.size wz W) => rbytes_any D CS W (HNZ.out.below hw (Nat.le_refl _)) (by rw [HDN.out]; exact noNode_ok) (by rw [HDN.out]; exact smallB_no) (fun e => absurd e (by rw [HDN.out]; decide)))
  have hNBl := nodeB_len (d := D) (by rw [HDN.out]; exact smallB_no)
  obtain ⟨NB, hNB⟩ : ∃ b, b = nodeB D := ⟨_, rfl⟩
  rw [← hNB] at HBY hNBl
  have HNE := Lib.hid hNB
  have HLEN := Lib.hid (show ([1] ++ beN 4 m).length + NB.length < 1000000000 by rw [List.length_append, beN_len]; simp only [List.length_cons, List.length_nil]; omega)
  clear hwz hCS hNBl hNB
  refine wp_region_rel [fun v w' => Own w' wz.heap.size 5 v (bvs [1]), fun v _ => v = .int .i64 (x : Nat), fun v _ => v = .int .i64 (m : Nat), fun v _ => v = .int .u64 (m : Nat), fun v w' => Own w' wz.heap.size 5 v (bvs (beN 4 m)), fun v w' => Own w' wz.heap.size 5 v (bvs ([1] ++ beN 4 m)), fun v _ => v = .agg CS, fun v w' => Own w' wz.heap.size 5 v (bvs NB), fun v w' => Own w' wz.heap.size 5 v (bvs (([1] ++ beN 4 m) ++ NB)), fun v w' => Own w' wz.heap.size 5 v (bvs (([1] ++ beN 4 m) ++ NB))]
   [true, true, true, true, true, true, true, true, true, true] (fun x => Below wz.heap.size wz x) (fun x y => Below x.heap.size x y) none (by kernel_rfl) ?_ (⟨rfl, rfl, rfl, Nat.le_refl _, fun _ _ => rfl⟩) (fun x y _ h => h) (fun x y hx hs => hx.trans (hs.mono hx.size)) (by kernel_rfl) (by kernel_rfl) ?_ ?_
  ·exact keepsR_n (fun v x y h _ hs => Own.below h hs (Nat.le_refl _)) (keepsR_n (fun _ _ _ h _ _ => h) (keepsR_n (fun _ _ _ h _ _ => h) (keepsR_n (fun _ _ _ h _ _ => h) (keepsR_n (fun v x y h _ hs => Own.below h hs (Nat.le_refl _)) (keepsR_n (fun v x y h _ hs => Own.below h hs (Nat.le_refl _)) (keepsR_n (fun _ _ _ h _ _ => h) (keepsR_n (fun v x y h _ hs => Own.below h hs (Nat.le_refl _)) (keepsR_n (fun v x y h _ hs => Own.below h hs (Nat.le_refl _)) (keepsR_n (fun v x y h _ hs => Own.below h hs (Nat.le_refl _)) (keepsR_nil))))))))))
  ·refine .cons (owed7_go ?_) (.cons (owed7_go ?_) (.cons (owed7_go ?_) (.cons (owed7_go ?_) (.cons (owed7_go ?_) (.cons (owed7_go ?_) (.cons (owed7_go ?_) (.cons (owed7_go ?_) (.cons (owed7_go ?_) (.cons (owed7_go ?_) (.nil))))))))))
   ·intro a wx hbx hq ho hf
    have hbx : Below wz.heap.size wz wx := hbx
    have hbq : Below wz.heap.size wz wx := hq (by kernel_rfl)
    clear hq
    refine ⟨rfl, ?_⟩
    intro K hK

    go_simp
    exact hK _ _ (Own.full (B := wz.heap.size) (cs := #[.int .u8 1]) rfl (hbx.size) (by unfold maxLen; simp) rfl) (stepR_no rfl ((Below.refl _ _).alloc (Nat.le_refl _) _))
   ·intro a wx hbx hq ho hf
    have hbx : Below wz.heap.size wz wx := hbx
    have hbq : Below wz.heap.size wz wx := hq (by kernel_rfl)
    clear hq
    refine ⟨rfl, ?_⟩
    intro K hK
    have e0 : a.tmps[1]?.getD undef = .int .i64 (x : Nat) := ho 1 (by kernel_rfl)
    go_simp
    exact hK _ _ rfl (stepR_no rfl (Below.refl _ _))
   ·intro a wx hbx hq ho hf
    have hbx : Below wz.heap.size wz wx := hbx
    have hbq : Below wz.heap.size wz wx := hq (by kernel_rfl)
    clear hq
    refine ⟨rfl, ?_⟩
    intro K hK
    have e0 : a.tmps[25]?.getD undef = .int .i64 (x : Nat) := hf.1
    have gw0 : (x : Int) / 2 = (m : Int) := hq
    have gw1 : IntKind.i64.wrap ((m : Int)) = (m : Int) := by rw [IntKind.wrap_i64]; omega
    have gw2 : (x : Int) / 2 = (m : Int) := by omega
    have gw3 : IntKind.i64.wrap ((x : Int) / 2) = (m : Int) := by rw [gw2]; exact gw1
    have gw4 : Int.tdiv ((x : Int)) 2 = (m : Int) := by rw [Int.tdiv_eq_ediv_of_nonneg (by omega)]; omega
    have gw5 : IntKind.i64.wrap (Int.tdiv ((x : Int)) 2) = (m : Int) := by rw [gw4]; exact gw1
    go_simp
    exact hK _ _ rfl (stepR_no rfl (Below.refl _ _))
   ·intro a wx hbx hq ho hf
    have hbx : Below wz.heap.size wz wx := hbx
    have hbq : Below wz.heap.size wz wx := hq (by kernel_rfl)
    clear hq
    refine ⟨rfl, ?_⟩
    intro K hK
    have e0 : a.tmps[26]?.getD undef = .int .i64 (m : Nat) := hf.1
    have gw1 : IntKind.u64.wrap ((m : Int)) = (m : Int) := by rw [IntKind.wrap_u64]; omega
    go_simp
    exact hK _ _ rfl (stepR_no rfl (Below.refl _ _))
   ·intro a wx hbx hq ho hf
    have hbx : Below wz.heap.size wz wx := hbx
    have hbq : Below wz.heap.size wz wx := hq (by kernel_rfl)
    clear hq
    refine ⟨rfl, ?_⟩
    intro K hK
    have e0 : a.tmps[27]?.getD undef = .int .u64 (m : Nat) := hf.1
    go_simp
    refine (HNUM.out wx).mono ?_
    rintro e w2 ⟨v9, rfl, hown, hb2⟩
    exact hK _ _ (hown.mono hbx.size) (stepR_no rfl hb2)
   ·intro a wx hbx hq ho hf
    have hbx : Below wz.heap.size wz wx := hbx
    have hbq : Below wz.heap.size wz wx := hq (by kernel_rfl)
    clear hq
    refine ⟨rfl, ?_⟩
    intro K hK
    have o0 : Own wx wz.heap.size 5 (a.tmps[24]?.getD undef) (bvs [1]) := hf.1
    obtain ⟨v0, hv0⟩ : ∃ v, v = a.tmps[24]?.getD undef := ⟨_, rfl⟩
    rw [← hv0] at o0
    have e0 := hv0.symm
    clear hv0
    have o1 : Own wx wz.heap.size 5 (a.tmps[28]?.getD undef) (bvs (beN 4 m)) := hf.2.1
    obtain ⟨v1, hv1⟩ : ∃ v, v = a.tmps[28]?.getD undef := ⟨_, rfl⟩
    rw [← hv1] at o1
    have e1 := hv1.symm
    clear hv1
    go_simp
    refine (join18_any v0 v1 [1] (beN 4 m) wx o0.rd o1.rd (by rw [beN_len]; simp)).mono ?_
    rintro e w2 ⟨v9, rfl, hown, hb2⟩
    exact hK _ _ (hown.mono hbx.size) (stepR_no rfl hb2)
   ·intro a wx hbx hq ho hf
    have hbx : Below wz.heap.size wz wx := hbx
    have hbq : Below wz.heap.size wz wx := hq (by kernel_rfl)
    clear hq
    refine ⟨rfl, ?_⟩
    intro K hK
    have e0 : a.tmps[7]?.getD undef = .pointer (some ⟨w.heap.size, 0, none⟩) := ho 7 (by kernel_rfl)
    exact wp_load_row 54 (.tmp 7) rfl _ (evs e0) _ _ (0, 0) _ (HBK.out.below hbx HBK.out.lt) Tryz.underlying54 rfl (HIN.out) (hK _ _ rfl (stepR_no rfl (Below.refl _ _)))
   ·intro a wx hbx hq ho hf
    have hbx : Below wz.heap.size wz wx := hbx
    have hbq : Below wz.heap.size wz wx := hq (by kernel_rfl)
    clear hq
    refine ⟨rfl, ?_⟩
    intro K hK
    have e0 : a.tmps[30]?.getD undef = .agg CS := hf.1
    go_simp
    refine (HBY.out wx hbx).mono ?_
    rintro e w2 ⟨v9, rfl, hown, hb2⟩
    exact hK _ _ (hown.mono hbx.size) (stepR_no rfl hb2)
   ·intro a wx hbx hq ho hf
    have hbx : Below wz.heap.size wz wx := hbx
    have hbq : Below wz.heap.size wz wx := hq (by kernel_rfl)
    clear hq
    refine ⟨rfl, ?_⟩
    intro K hK
    have o0 : Own wx wz.heap.size 5 (a.tmps[29]?.getD undef) (bvs ([1] ++ beN 4 m)) := hf.1
    obtain ⟨v0, hv0⟩ : ∃ v, v = a.tmps[29]?.getD undef := ⟨_, rfl⟩
    rw [← hv0] at o0
    have e0 := hv0.symm
    clear hv0
    have o1 : Own wx wz.heap.size 5 (a.tmps[31]?.getD undef) (bvs NB) := hf.2.1
    obtain ⟨v1, hv1⟩ : ∃ v, v = a.tmps[31]?.getD undef := ⟨_, rfl⟩
    rw [← hv1] at o1
    have e1 := hv1.symm
    clear hv1
    go_simp
    refine (join18_any v0 v1 ([1] ++ beN 4 m) NB wx o0.rd o1.rd HLEN.out).mono ?_
    rintro e w2 ⟨v9, rfl, hown, hb2⟩
    exact hK _ _ (hown.mono hbx.size) (stepR_no rfl hb2)
   ·intro a wx hbx hq ho hf
    have hbx : Below wz.heap.size wz wx := hbx
    have hbq : Below wz.heap.size wz wx := hq (by kernel_rfl)
    clear hq
    refine ⟨rfl, ?_⟩
    intro K hK
    have o0 : Own wx wz.heap.size 5 (a.tmps[32]?.getD undef) (bvs (([1] ++ beN 4 m) ++ NB)) := hf.1
    obtain ⟨v0, hv0⟩ : ∃ v, v = a.tmps[32]?.getD undef := ⟨_, rfl⟩
    rw [← hv0] at o0
    have e0 := hv0.symm
    clear hv0
    go_simp
    exact hK _ _ o0 (stepR_no rfl (Below.refl _ _))
  ·rintro f w9 hb9 hfin
   have hb9 : Below wz.heap.size wz w9 := hb9
   have S6 : Own w9 wz.heap.size 5 (f 6) (bvs (([1] ++ beN 4 m) ++ NB)) := hfin.2.2.2.2.2.2.2.2.2.1
   clear hfin
   simp only [frameOf, dstsOf, zipF, List.filterMap_cons, List.filterMap_nil, List.contains_cons, List.contains_nil, Nat.reduceBEq, Nat.reduceAdd, Bool.or_false, Bool.or_true, cond_true, cond_false]
   obtain ⟨u6, hu6⟩ : ∃ u, u = f 6 := ⟨_, rfl⟩
   rw [← hu6] at S6 ⊢
   clear hu6
   have HO := Lib.hid S6
   have HB9 := Lib.hid hb9
   clear S6 hb9
   go_wp2_with fail
   go_ret
   exact ⟨_, rfl, by have := HO.out.mono HBW.out.size; rw [HNE.out] at this; exact this, HBW.out.trans (HB9.out.mono HBW.out.size)⟩
 | false =>
  have HA := Lib.hid (fun (W : World) (hw : Below w.heap.size w W) => by have := HAS.out W hw; rw [hmem] at this; exact this)
  have hDn : D = nd t x := by rw [HDE.out, if_neg (of_decide_eq_false hmem)]
  have HDN := Lib.hid hDn
  clear hmem hDn
  go_enter Tryz.func115, Tryz.ntmps115
  go_wp2_with (refine wpList_load_mid rfl 54 (.tmp 14) rfl b (off + x * 10) rfl [.int .u8 (kd : Nat), .slice a1 l1 c1, .slice a2 l2 c2, .slice a3 l3 c3, .int .u8 (s : Nat), .slice a4 l4 c4, .slice a5 l5 c5, .slice b1 l6 e1, .slice b2 l7 e2, .slice b3 l8 e3] _ HRA.out Tryz.underlying54 rfl node_info ?_)
  refine (HA.out _ ((Below.refl _ _).alloc (Nat.le_refl _) _)).mono ?_
  rintro e w1 ⟨rfl, rfl⟩
  go_wp2_with fail
  have HNZ := Lib.hid (show NodeC (w.alloc (.cells #[.int .u8 (kd : Nat), .slice a1 l1 c1, .slice a2 l2 c2, .slice a3 l3 c3, .int .u8 (s : Nat), .slice a4 l4 c4, .slice a5 l5 c5, .slice b1 l6 e1, .slice b2 l7 e2, .slice b3 l8 e3] 54)) D #[.int .u8 (kd : Nat), .slice a1 l1 c1, .slice a2 l2 c2, .slice a3 l3 c3, .int .u8 (s : Nat), .slice a4 l4 c4, .slice a5 l5 c5, .slice b1 l6 e1, .slice b2 l7 e2, .slice b3 l8 e3] from by rw [HDN.out]; exact HNC.out.alloc _)
  obtain ⟨wz, hwz⟩ : ∃ X, X = w.alloc (.cells #[.int .u8 (kd : Nat), .slice a1 l1 c1, .slice a2 l2 c2, .slice a3 l3 c3, .int .u8 (s : Nat), .slice a4 l4 c4, .slice a5 l5 c5, .slice b1 l6 e1, .slice b2 l7 e2, .slice b3 l8 e3] 54) := ⟨_, rfl⟩
  have HBK := Lib.hid (show Blk wz w.heap.size 54 #[.int .u8 (kd : Nat), .slice a1 l1 c1, .slice a2 l2 c2, .slice a3 l3 c3, .int .u8 (s : Nat), .slice a4 l4 c4, .slice a5 l5 c5, .slice b1 l6 e1, .slice b2 l7 e2, .slice b3 l8 e3] by rw [hwz]; exact Blk.new w _ _)
  have HBW := Lib.hid (show Below w.heap.size w wz by rw [hwz]; exact (Below.refl _ _).alloc (Nat.le_refl _) _)
  rw [← hwz] at HNZ ⊢
  obtain ⟨CS, hCS⟩ : ∃ C, C = (#[.int .u8 (kd : Nat), .slice a1 l1 c1, .slice a2 l2 c2, .slice a3 l3 c3, .int .u8 (s : Nat), .slice a4 l4 c4, .slice a5 l5 c5, .slice b1 l6 e1, .slice b2 l7 e2, .slice b3 l8 e3] : Array Value) := ⟨_, rfl⟩
  rw [← hCS] at HNZ HBK
  have HIN := Lib.hid (show (Tryz.prog.info? 54).map (·.size) = some CS.size by rw [hCS]; exact node_info)
  have HBY := Lib.hid (fun (W : World) (hw : Below wz.heap.size wz W) => rbytes_any D CS W (HNZ.out.below hw (Nat.le_refl _)) (by rw [HDN.out]; exact HKN.out) (by rw [HDN.out]; exact HSN.out) (fun e => absurd e (by rw [HDN.out]; exact HEV.out)))
  have hNBl := nodeB_len (d := D) (by rw [HDN.out]; exact HSN.out)
  obtain ⟨NB, hNB⟩ : ∃ b, b = nodeB D := ⟨_, rfl⟩
  rw [← hNB] at HBY hNBl
  have HNE := Lib.hid hNB
  have HLEN := Lib.hid (show ([1] ++ beN 4 m).length + NB.length < 1000000000 by rw [List.length_append, beN_len]; simp only [List.length_cons, List.length_nil]; omega)
  clear hwz hCS hNBl hNB
  refine wp_region_rel [fun v w' => Own w' wz.heap.size 5 v (bvs [1]), fun v _ => v = .int .i64 (x : Nat), fun v _ => v = .int .i64 (m : Nat), fun v _ => v = .int .u64 (m : Nat), fun v w' => Own w' wz.heap.size 5 v (bvs (beN 4 m)), fun v w' => Own w' wz.heap.size 5 v (bvs ([1] ++ beN 4 m)), fun v _ => v = .agg CS, fun v w' => Own w' wz.heap.size 5 v (bvs NB), fun v w' => Own w' wz.heap.size 5 v (bvs (([1] ++ beN 4 m) ++ NB)), fun v w' => Own w' wz.heap.size 5 v (bvs (([1] ++ beN 4 m) ++ NB))]
   [true, true, true, true, true, true, true, true, true, true] (fun x => Below wz.heap.size wz x) (fun x y => Below x.heap.size x y) none (by kernel_rfl) ?_ (⟨rfl, rfl, rfl, Nat.le_refl _, fun _ _ => rfl⟩) (fun x y _ h => h) (fun x y hx hs => hx.trans (hs.mono hx.size)) (by kernel_rfl) (by kernel_rfl) ?_ ?_
  ·exact keepsR_n (fun v x y h _ hs => Own.below h hs (Nat.le_refl _)) (keepsR_n (fun _ _ _ h _ _ => h) (keepsR_n (fun _ _ _ h _ _ => h) (keepsR_n (fun _ _ _ h _ _ => h) (keepsR_n (fun v x y h _ hs => Own.below h hs (Nat.le_refl _)) (keepsR_n (fun v x y h _ hs => Own.below h hs (Nat.le_refl _)) (keepsR_n (fun _ _ _ h _ _ => h) (keepsR_n (fun v x y h _ hs => Own.below h hs (Nat.le_refl _)) (keepsR_n (fun v x y h _ hs => Own.below h hs (Nat.le_refl _)) (keepsR_n (fun v x y h _ hs => Own.below h hs (Nat.le_refl _)) (keepsR_nil))))))))))
  ·refine .cons (owed7_go ?_) (.cons (owed7_go ?_) (.cons (owed7_go ?_) (.cons (owed7_go ?_) (.cons (owed7_go ?_) (.cons (owed7_go ?_) (.cons (owed7_go ?_) (.cons (owed7_go ?_) (.cons (owed7_go ?_) (.cons (owed7_go ?_) (.nil))))))))))
   ·intro a wx hbx hq ho hf
    have hbx : Below wz.heap.size wz wx := hbx
    have hbq : Below wz.heap.size wz wx := hq (by kernel_rfl)
    clear hq
    refine ⟨rfl, ?_⟩
    intro K hK

    go_simp
    exact hK _ _ (Own.full (B := wz.heap.size) (cs := #[.int .u8 1]) rfl (hbx.size) (by unfold maxLen; simp) rfl) (stepR_no rfl ((Below.refl _ _).alloc (Nat.le_refl _) _))
   ·intro a wx hbx hq ho hf
    have hbx : Below wz.heap.size wz wx := hbx
    have hbq : Below wz.heap.size wz wx := hq (by kernel_rfl)
    clear hq
    refine ⟨rfl, ?_⟩
    intro K hK
    have e0 : a.tmps[1]?.getD undef = .int .i64 (x : Nat) := ho 1 (by kernel_rfl)
    go_simp
    exact hK _ _ rfl (stepR_no rfl (Below.refl _ _))
   ·intro a wx hbx hq ho hf
    have hbx : Below wz.heap.size wz wx := hbx
    have hbq : Below wz.heap.size wz wx := hq (by kernel_rfl)
    clear hq
    refine ⟨rfl, ?_⟩
    intro K hK
    have e0 : a.tmps[25]?.getD undef = .int .i64 (x : Nat) := hf.1
    have gw0 : (x : Int) / 2 = (m : Int) := hq
    have gw1 : IntKind.i64.wrap ((m : Int)) = (m : Int) := by rw [IntKind.wrap_i64]; omega
    have gw2 : (x : Int) / 2 = (m : Int) := by omega
    have gw3 : IntKind.i64.wrap ((x : Int) / 2) = (m : Int) := by rw [gw2]; exact gw1
    have gw4 : Int.tdiv ((x : Int)) 2 = (m : Int) := by rw [Int.tdiv_eq_ediv_of_nonneg (by omega)]; omega
    have gw5 : IntKind.i64.wrap (Int.tdiv ((x : Int)) 2) = (m : Int) := by rw [gw4]; exact gw1
    go_simp
    exact hK _ _ rfl (stepR_no rfl (Below.refl _ _))
   ·intro a wx hbx hq ho hf
    have hbx : Below wz.heap.size wz wx := hbx
    have hbq : Below wz.heap.size wz wx := hq (by kernel_rfl)
    clear hq
    refine ⟨rfl, ?_⟩
    intro K hK
    have e0 : a.tmps[26]?.getD undef = .int .i64 (m : Nat) := hf.1
    have gw1 : IntKind.u64.wrap ((m : Int)) = (m : Int) := by rw [IntKind.wrap_u64]; omega
    go_simp
    exact hK _ _ rfl (stepR_no rfl (Below.refl _ _))
   ·intro a wx hbx hq ho hf
    have hbx : Below wz.heap.size wz wx := hbx
    have hbq : Below wz.heap.size wz wx := hq (by kernel_rfl)
    clear hq
    refine ⟨rfl, ?_⟩
    intro K hK
    have e0 : a.tmps[27]?.getD undef = .int .u64 (m : Nat) := hf.1
    go_simp
    refine (HNUM.out wx).mono ?_
    rintro e w2 ⟨v9, rfl, hown, hb2⟩
    exact hK _ _ (hown.mono hbx.size) (stepR_no rfl hb2)
   ·intro a wx hbx hq ho hf
    have hbx : Below wz.heap.size wz wx := hbx
    have hbq : Below wz.heap.size wz wx := hq (by kernel_rfl)
    clear hq
    refine ⟨rfl, ?_⟩
    intro K hK
    have o0 : Own wx wz.heap.size 5 (a.tmps[24]?.getD undef) (bvs [1]) := hf.1
    obtain ⟨v0, hv0⟩ : ∃ v, v = a.tmps[24]?.getD undef := ⟨_, rfl⟩
    rw [← hv0] at o0
    have e0 := hv0.symm
    clear hv0
    have o1 : Own wx wz.heap.size 5 (a.tmps[28]?.getD undef) (bvs (beN 4 m)) := hf.2.1
    obtain ⟨v1, hv1⟩ : ∃ v, v = a.tmps[28]?.getD undef := ⟨_, rfl⟩
    rw [← hv1] at o1
    have e1 := hv1.symm
    clear hv1
    go_simp
    refine (join18_any v0 v1 [1] (beN 4 m) wx o0.rd o1.rd (by rw [beN_len]; simp)).mono ?_
    rintro e w2 ⟨v9, rfl, hown, hb2⟩
    exact hK _ _ (hown.mono hbx.size) (stepR_no rfl hb2)
   ·intro a wx hbx hq ho hf
    have hbx : Below wz.heap.size wz wx := hbx
    have hbq : Below wz.heap.size wz wx := hq (by kernel_rfl)
    clear hq
    refine ⟨rfl, ?_⟩
    intro K hK
    have e0 : a.tmps[7]?.getD undef = .pointer (some ⟨w.heap.size, 0, none⟩) := ho 7 (by kernel_rfl)
    exact wp_load_row 54 (.tmp 7) rfl _ (evs e0) _ _ (0, 0) _ (HBK.out.below hbx HBK.out.lt) Tryz.underlying54 rfl (HIN.out) (hK _ _ rfl (stepR_no rfl (Below.refl _ _)))
   ·intro a wx hbx hq ho hf
    have hbx : Below wz.heap.size wz wx := hbx
    have hbq : Below wz.heap.size wz wx := hq (by kernel_rfl)
    clear hq
    refine ⟨rfl, ?_⟩
    intro K hK
    have e0 : a.tmps[30]?.getD undef = .agg CS := hf.1
    go_simp
    refine (HBY.out wx hbx).mono ?_
    rintro e w2 ⟨v9, rfl, hown, hb2⟩
    exact hK _ _ (hown.mono hbx.size) (stepR_no rfl hb2)
   ·intro a wx hbx hq ho hf
    have hbx : Below wz.heap.size wz wx := hbx
    have hbq : Below wz.heap.size wz wx := hq (by kernel_rfl)
    clear hq
    refine ⟨rfl, ?_⟩
    intro K hK
    have o0 : Own wx wz.heap.size 5 (a.tmps[29]?.getD undef) (bvs ([1] ++ beN 4 m)) := hf.1
    obtain ⟨v0, hv0⟩ : ∃ v, v = a.tmps[29]?.getD undef := ⟨_, rfl⟩
    rw [← hv0] at o0
    have e0 := hv0.symm
    clear hv0
    have o1 : Own wx wz.heap.size 5 (a.tmps[31]?.getD undef) (bvs NB) := hf.2.1
    obtain ⟨v1, hv1⟩ : ∃ v, v = a.tmps[31]?.getD undef := ⟨_, rfl⟩
    rw [← hv1] at o1
    have e1 := hv1.symm
    clear hv1
    go_simp
    refine (join18_any v0 v1 ([1] ++ beN 4 m) NB wx o0.rd o1.rd HLEN.out).mono ?_
    rintro e w2 ⟨v9, rfl, hown, hb2⟩
    exact hK _ _ (hown.mono hbx.size) (stepR_no rfl hb2)
   ·intro a wx hbx hq ho hf
    have hbx : Below wz.heap.size wz wx := hbx
    have hbq : Below wz.heap.size wz wx := hq (by kernel_rfl)
    clear hq
    refine ⟨rfl, ?_⟩
    intro K hK
    have o0 : Own wx wz.heap.size 5 (a.tmps[32]?.getD undef) (bvs (([1] ++ beN 4 m) ++ NB)) := hf.1
    obtain ⟨v0, hv0⟩ : ∃ v, v = a.tmps[32]?.getD undef := ⟨_, rfl⟩
    rw [← hv0] at o0
    have e0 := hv0.symm
    clear hv0
    go_simp
    exact hK _ _ o0 (stepR_no rfl (Below.refl _ _))
  ·rintro f w9 hb9 hfin
   have hb9 : Below wz.heap.size wz w9 := hb9
   have S6 : Own w9 wz.heap.size 5 (f 6) (bvs (([1] ++ beN 4 m) ++ NB)) := hfin.2.2.2.2.2.2.2.2.2.1
   clear hfin
   simp only [frameOf, dstsOf, zipF, List.filterMap_cons, List.filterMap_nil, List.contains_cons, List.contains_nil, Nat.reduceBEq, Nat.reduceAdd, Bool.or_false, Bool.or_true, cond_true, cond_false]
   obtain ⟨u6, hu6⟩ : ∃ u, u = f 6 := ⟨_, rfl⟩
   rw [← hu6] at S6 ⊢
   clear hu6
   have HO := Lib.hid S6
   have HB9 := Lib.hid hb9
   clear S6 hb9
   go_wp2_with fail
   go_ret
   exact ⟨_, rfl, by have := HO.out.mono HBW.out.size; rw [HNE.out] at this; exact this, HBW.out.trans (HB9.out.mono HBW.out.size)⟩
end Go.Proofs.YtngealmhgkoaiaaGreat
/- Walks: the reference's Text of a parent, and Hash; both by the level. -/
namespace Go.Proofs.YtngealmhgkoaiaaGreat
open Go.RowKit WalkM ShaM WireM
set_option linter.unusedVariables false
/-- who stays -/
def keepF (ps : List Int) (u : Int) : Bool := decide (u ∉ ps)
theorem keepF_yes {ps : List Int} {u : Int} (h : u ∉ ps) : keepF ps u = true := decide_eq_true h
theorem keepF_no {ps : List Int} {u : Int} (h : u ∈ ps) : ¬ keepF ps u = true := by unfold keepF; simp [h]
theorem filter_take_succ (L : List Int) (p : Int → Bool) {i : Nat} (h : i < L.length) : (L.take (i + 1)).filter p = (L.take i).filter p ++ (if p (L.getD i 0) = true then [L.getD i 0] else []) := by
 rw [List.take_succ_eq_append_getElem h, List.filter_append]
 congr 1
 rw [List.getD_eq_getElem?_getD, List.getElem?_eq_getElem h, List.filter_cons]
 simp
set_option maxRecDepth 100000 in
set_option maxHeartbeats 8000000 in
theorem rtext_succ (t : List NodeD) (ps : List Int) (hs : smallT t = true) (hok : TreeOk t) (hp : placedB t = true) (k : Nat) (IH : RHashP t ps k) : RTextP t ps (k + 1) := by
 intro x v vp w h hpr hlev hx
 have hod := lev_succ hlev
 have hlen := smallT_len hs
 have hpw : 2 ^ (k + 1) = 2 * 2 ^ k := by rw [Nat.pow_succ]; omega
 have hp1 : 0 < 2 ^ k := Nat.pos_of_ne_zero (by simp)
 have hxt : x < t.length := by omega
 obtain ⟨hkl, hkr, hl1', hl2', hkx⟩ := kids_lev (by omega) hlev
 have KD := fun (W : World) => kids_any (x : Int) W
 rw [hkl, hkr] at KD
 obtain ⟨a, c, rfl, hc, hc2⟩ := h.sl
 obtain ⟨b, off, cs, rfl, hbl, hnc, hra⟩ := h.node hxt
 have HL := Lib.hid (fun (W : World) (hw : Below w.heap.size w W) => IH (x - 2 ^ k) _ vp W (h.below hw (Nat.le_refl _)) (hpr.below hw (Nat.le_refl _)) hl1' (by omega))
 have HR := Lib.hid (fun (W : World) (hw : Below w.heap.size w W) => IH (x + 2 ^ k) _ vp W (h.below hw (Nat.le_refl _)) (hpr.below hw (Nat.le_refl _)) hl2' (by omega))
 obtain ⟨n, hn⟩ : ∃ n, n = t.length := ⟨_, rfl⟩
 rw [← hn] at HL HR hc hlen hxt ⊢
 have hkd2 : (nd t x).kind ≠ 1 := by have := (placed_at hp (x := x) (by omega)).1; rwa [otherK_odd hod] at this
 have hrt := (placed_at hp (x := x) (by omega)).2
 have hLB : ∀ u ∈ (woD t ps x).par.late, 0 ≤ u ∧ u < 65536 := by
  rw [woD_odd hod]
  intro u hu
  exact late_bd (right_late hrt) u (List.mem_filter.1 hu).1
 have hWO : NodeOk (woD t ps x) := by
  have := hok.nd x
  rw [woD_odd hod]
  exact ⟨this.kind, this.source, this.box, this.sign, this.ident, this.par, this.sig, this.pbox, this.hash, fun u hu => this.late u (List.mem_filter.1 hu).1⟩
 have hWS := woD_small hs ps x
 have HT := Lib.hid (textN_succ (woD t ps) k x)
 obtain ⟨H1, hH1⟩ : ∃ H, H = hashN (woD t ps) k (x - 2 ^ k) := ⟨_, rfl⟩
 obtain ⟨H2, hH2⟩ : ∃ H, H = hashN (woD t ps) k (x + 2 ^ k) := ⟨_, rfl⟩
 have hH1l : H1.length = 32 := by rw [hH1]; exact hashN_len _ _ _
 have hH2l : H2.length = 32 := by rw [hH2]; exact hashN_len _ _ _
 rw [← hH1, ← hH2] at HT
 rw [← hH1] at HL
 rw [← hH2] at HR
 obtain ⟨xl, hxl⟩ : ∃ y, y = x - 2 ^ k := ⟨_, rfl⟩
 obtain ⟨xr, hxr⟩ : ∃ y, y = x + 2 ^ k := ⟨_, rfl⟩
 rw [← hxl] at HL KD
 rw [← hxr] at HR KD
 have HKD := Lib.hid KD
 obtain ⟨D, hD⟩ : ∃ D, D = woD t ps x := ⟨_, rfl⟩
 have hDe : D = ⟨(nd t x).kind, (nd t x).leaf, ⟨(nd t x).par.box, (nd t x).par.hash, (nd t x).par.late.filter (keepF ps)⟩⟩ := by rw [hD, woD_odd hod]; rfl
 rw [← hD] at HT hLB hWO hWS
 rw [HT.out]
 have hNBl := nodeB_len hWS
 have hm : (x : Int) % 2 = 1 := by omega
 obtain ⟨a1, c1, a2, c2, a3, c3, a4, c4, a5, c5, b1, e1, b2, e2, b3, e3, hcs, h1, h2, h3, h4, h5, h6, h7, h8⟩ := id hnc
 -- the late ones
 obtain ⟨LT, hLT⟩ : ∃ L, L = (nd t x).par.late := ⟨_, rfl⟩
 have hLTl : LT.length ≤ 60 := by have := of_decide_eq_true (smallT_nd hs x); rw [hLT]; omega
 rw [← hLT] at h8 hDe
 -- behind the loop the node's cells are those of D
 have FIN := fun (W : World) (z1 : Option Addr) (z2 z3 : Nat) (hw : Below w.heap.size w W) (hz : Rd W (.slice z1 z2 z3) (ivs .i64 (LT.filter (keepF ps)))) =>
  (show NodeC W D #[.int .u8 ((nd t x).kind : Nat), .slice a1 (nd t x).leaf.box.length c1, .slice a2 (nd t x).leaf.sign.length c2, .slice a3 (nd t x).leaf.ident.length c3, .int .u8 ((nd t x).leaf.source : Nat), .slice a4 (nd t x).leaf.par.length c4, .slice a5 (nd t x).leaf.sig.length c5, .slice b1 (nd t x).par.box.length e1, .slice b2 (nd t x).par.hash.length e2, .slice z1 z2 z3] by
   have e2' : z2 = (LT.filter (keepF ps)).length := by
    obtain ⟨_, _, e, _⟩ := hz
    simp only [Value.slice.injEq] at e
    rw [e.2.1]; simp [ivs]
   subst e2'
   rw [hDe]
   exact ⟨a1, c1, a2, c2, a3, c3, a4, c4, a5, c5, b1, e1, b2, e2, z1, z3, rfl, h1.below hw (Nat.le_refl _), h2.below hw (Nat.le_refl _), h3.below hw (Nat.le_refl _), h4.below hw (Nat.le_refl _), h5.below hw (Nat.le_refl _), h6.below hw (Nat.le_refl _), h7.below hw (Nat.le_refl _), hz⟩)
 obtain ⟨kd, hkd⟩ : ∃ k, k = (nd t x).kind := ⟨_, rfl⟩
 obtain ⟨l1, hl1⟩ : ∃ l, l = (nd t x).leaf.box.length := ⟨_, rfl⟩
 obtain ⟨l2, hl2⟩ : ∃ l, l = (nd t x).leaf.sign.length := ⟨_, rfl⟩
 obtain ⟨l3, hl3⟩ : ∃ l, l = (nd t x).leaf.ident.length := ⟨_, rfl⟩
 obtain ⟨l4, hl4⟩ : ∃ l, l = (nd t x).leaf.par.length := ⟨_, rfl⟩
 obtain ⟨l5, hl5⟩ : ∃ l, l = (nd t x).leaf.sig.length := ⟨_, rfl⟩
 obtain ⟨l6, hl6⟩ : ∃ l, l = (nd t x).par.box.length := ⟨_, rfl⟩
 obtain ⟨l7, hl7⟩ : ∃ l, l = (nd t x).par.hash.length := ⟨_, rfl⟩
 obtain ⟨l8, hl8⟩ : ∃ l, l = LT.length := ⟨_, rfl⟩
 obtain ⟨s, hsrc⟩ : ∃ s, s = (nd t x).leaf.source := ⟨_, rfl⟩
 rw [← hLT] at hcs
 rw [← hl8] at h8
 rw [← hkd, ← hl1, ← hl2, ← hl3, ← hl4, ← hl5, ← hl6, ← hl7, ← hl8, ← hsrc] at hcs
 rw [← hkd, ← hl1, ← hl2, ← hl3, ← hl4, ← hl5, ← hl6, ← hl7, ← hsrc] at FIN
 have HFIN := Lib.hid FIN
 have hl60 : l8 ≤ 60 := by omega
 rw [hcs] at hra
 have HRA := Lib.hid hra
 have HAS := Lib.hid (fun (u : Int) (W : World) (hw : Below w.heap.size w W) => has18_any vp ps u W (hpr.below hw (Nat.le_refl _)))
 have HLT := Lib.hid h8
 have HL8 := Lib.hid hl8
 have HBY := Lib.hid (fun (CS : Array Value) (W : World) (hw : NodeC W D CS) => rbytes_any D CS W hw hWO hWS (fun _ => hLB))
 obtain ⟨NB, hNB⟩ : ∃ b, b = nodeB D := ⟨_, rfl⟩
 rw [← hNB] at HBY hNBl ⊢
 have HNBl := Lib.hid hNBl
 have HH1 := Lib.hid hH1l
 have HH2 := Lib.hid hH2l
 obtain ⟨l80, hl80⟩ : ∃ l, l ≤ e3 ∧ l = l8 := ⟨l8, by have := (slice_len h8).1; exact this, rfl⟩
 have hl8e : l8 ≤ e3 := (slice_len h8).1
 have he3 : e3 ≤ 9223372036854775807 := (slice_len h8).2
 obtain ⟨pa, pn, pc, rfl⟩ : ∃ a n c, vp = .slice a n c := by obtain ⟨a, c, e, _⟩ := hpr; exact ⟨_, _, _, e⟩
 clear hl80 FIN hnc h1 h2 h3 h4 h5 h6 h7 h8 hcs hra hkd hl1 hl2 hl3 hl4 hl5 hl6 hl7 hl8 hsrc hLT hDe hD hNB hNBl hH1 hH2 hH1l hH2l hxl hxr KD hpr h hok hs hp hn IH hlev hx hpw hp1 hkl hkr hl1' hl2' hkx hkd2 hrt hLB hWO hWS hod hLTl
 go_enter Tryz.func115, Tryz.ntmps115
 go_wp2_with (refine wpList_load_mid rfl 54 (.tmp 14) rfl b (off + x * 10) rfl [.int .u8 (kd : Nat), .slice a1 l1 c1, .slice a2 l2 c2, .slice a3 l3 c3, .int .u8 (s : Nat), .slice a4 l4 c4, .slice a5 l5 c5, .slice b1 l6 e1, .slice b2 l7 e2, .slice b3 l8 e3] _ HRA.out Tryz.underlying54 rfl node_info ?_)
 obtain ⟨wz, hwz⟩ : ∃ X, X = w.alloc (.cells #[.int .u8 (kd : Nat), .slice a1 l1 c1, .slice a2 l2 c2, .slice a3 l3 c3, .int .u8 (s : Nat), .slice a4 l4 c4, .slice a5 l5 c5, .slice b1 l6 e1, .slice b2 l7 e2, .slice b3 l8 e3] 54) := ⟨_, rfl⟩
 have HBK := Lib.hid (show Blk wz w.heap.size 54 #[.int .u8 (kd : Nat), .slice a1 l1 c1, .slice a2 l2 c2, .slice a3 l3 c3, .int .u8 (s : Nat), .slice a4 l4 c4, .slice a5 l5 c5, .slice b1 l6 e1, .slice b2 l7 e2, .slice b3 l8 e3] by rw [hwz]; exact Blk.new w _ _)
 have HBW := Lib.hid (show Below w.heap.size w wz by rw [hwz]; exact (Below.refl _ _).alloc (Nat.le_refl _) _)
 have hwl : w.heap.size < wz.heap.size := HBK.out.lt
 rw [← hwz]
 clear hwz
 go_loopg [8, 9] l8 (fun q lv iv wr => ∃ i : Nat, i + q = l8 ∧ iv = .int .i64 (i : Nat) ∧ Own wr wz.heap.size 3 lv (ivs .i64 ((LT.take i).filter (keepF ps))) ∧ Below wz.heap.size wz wr)
 case atStart => exact ⟨0, by omega, rfl, Own.nil _ _ _, Below.refl _ _⟩
 case round =>
  obtain ⟨i, hi, rfl, hown, hb⟩ := hrel
  have HI := Lib.hid hi
  have HO := Lib.hid hown
  have HB := Lib.hid hb
  have HBZ := Lib.hid (HBW.out.trans (hb.mono HBW.out.size))
  obtain ⟨v1, v2, v3, rfl⟩ := slOf hown
  have k9 : wr.cell? ⟨w.heap.size, 9, none⟩ = some (.slice b3 l8 e3) := (HBK.out.below hb hwl).cell 9
  have hwr : w.heap.size < wr.heap.size := Nat.lt_of_lt_of_le hwl hb.size
  by_cases hlt : i < l8
  ·have hlt' : decide (i < l8) = true := decide_eq_true hlt
   have hlI : (i : Int) < (l8 : Int) := by omega
   obtain ⟨lb, lo, hb3, hbl2, hcell⟩ := (HLT.out.below HBZ.out (Nat.le_refl _)).at3 (r := i) (u := .int .i64 (LT.getD i 0)) (by simp [ivs, List.getD_eq_getElem?_getD, show i < LT.length by have := HL8.out; omega])
   have HFS := Lib.hid (filter_take_succ LT (keepF ps) (show i < LT.length by have := HL8.out; omega))
   obtain ⟨u, hu⟩ : ∃ u, u = LT.getD i 0 := ⟨_, rfl⟩
   rw [← hu] at hcell HFS
   subst hb3
   have HA := HAS.out u wr HBZ.out
   cases hmem : decide (u ∈ ps) with
   | true =>
    rw [hmem] at HA
    have HAA := Lib.hid HA
    have HM := Lib.hid (of_decide_eq_true hmem)
    clear hi hown hb hu HA hmem
    go_wp2_with fail
    refine (HAA.out).mono ?_
    rintro e w1 ⟨rfl, rfl⟩
    go_wp2_with fail
    go_roundg (gk - 1)
    case measure => have := HI.out; omega
    case rel =>
     refine ⟨i + 1, by have := HI.out; omega, by go_num, ?_, HB.out⟩
     rw [HFS.out, if_neg (keepF_no HM.out), List.append_nil]
     exact HO.out
   | false =>
    rw [hmem] at HA
    have HAA := Lib.hid HA
    have HM := Lib.hid (of_decide_eq_false hmem)
    clear hi hown hb hu HA hmem
    go_wp2_with fail
    refine (HAA.out).mono ?_
    rintro e w1 ⟨rfl, rfl⟩
    go_wp2_with (at_builtin; refine wpList_push rfl (.tmp 50) (.tmp 57) 50 rfl wz.heap.size 3 _ 8 intsE _ _ rfl (HO.out.alloc _) ⟨w1.heap.size, 0, none⟩ (.int .i64 u) rfl ?c1 rfl ?c2 ?c3 ?_)
    case c1 => exact cell_new rfl
    case c2 => have := List.length_filter_le (keepF ps) (LT.take i); have h2 := List.length_take_le i LT; rw [ivs_len]; omega
    case c3 => have := HB.out.size; simp; omega
    rintro v' w2 hown1 hg1 hb1
    clear hg1
    have HO1 := Lib.hid hown1
    have HB1 := Lib.hid ((HB.out.alloc HB.out.size (.cells #[.int .i64 u] 3)).trans hb1)
    obtain ⟨y1, y2, y3, rfl⟩ := slOf hown1
    clear hown1 hb1
    go_wp2_with fail
    go_roundg (gk - 1)
    case measure => have := HI.out; omega
    case rel =>
     refine ⟨i + 1, by have := HI.out; omega, by go_num, ?_, HB1.out⟩
     rw [HFS.out, if_pos (keepF_yes HM.out), ivs_snoc]
     exact HO1.out
  ·obtain rfl : i = l8 := by omega
   have hlt' : decide (i < i) = false := decide_eq_false hlt
   have hLe : LT.take i = LT := List.take_of_length_le (by have := HL8.out; omega)
   rw [hLe] at HO
   have kf : wr.frozen? ⟨w.heap.size, 9, none⟩ = false := (HBK.out.below hb hwl).frozen 9
   have HB2 := Lib.hid ((HBK.out.below hb hwl).set 9 (.slice v1 v2 v3))
   clear hi hown hb hlt hLe
   have HZS := Lib.hid (show Below w.heap.size w (wr.setCell ⟨w.heap.size, 9, none⟩ (.slice v1 v2 v3)) from HBZ.out.setCell (p := ⟨w.heap.size, 9, none⟩) (Nat.le_refl _) _)
   have HOS := Lib.hid (HO.out.setLow (p := ⟨w.heap.size, 9, none⟩) hwl (.slice v1 v2 v3))
   obtain ⟨ws, hws⟩ : ∃ X, X = wr.setCell ⟨w.heap.size, 9, none⟩ (.slice v1 v2 v3) := ⟨_, rfl⟩
   rw [← hws] at HB2 HZS HOS
   have HB2' := Lib.hid (show Blk ws w.heap.size 54 #[.int .u8 (kd : Nat), .slice a1 l1 c1, .slice a2 l2 c2, .slice a3 l3 c3, .int .u8 (s : Nat), .slice a4 l4 c4, .slice a5 l5 c5, .slice b1 l6 e1, .slice b2 l7 e2, .slice v1 v2 v3] from HB2.out)
   have hwsl : w.heap.size < ws.heap.size := HB2.out.lt
   clear HB2 HO
   go_wp2_with fail
   rw [← hws]
   clear hws k9 kf hwr
   refine (HKD.out _).mono ?_
   rintro e w2 ⟨rfl, hb2⟩
   have HB3 := Lib.hid (HB2'.out.below hb2 hwsl)
   have HZ2 := Lib.hid (HZS.out.trans (hb2.mono HZS.out.size))
   have HO2 := Lib.hid ((HOS.out.below hb2 (Nat.le_refl _)).rd)
   have HL2 := Lib.hid (show Rd (w2.alloc (.cells #[.int .u8 2] 5)) (.slice (some ⟨w2.heap.size, 0, none⟩) 1 1) (bvs [2]) from Rd.lit _ _ _ _ _ rfl rfl (by unfold maxLen; simp))
   have HZ3 := Lib.hid (HZ2.out.alloc HZ2.out.size (.cells #[.int .u8 2] 5))
   have HC3 := Lib.hid (HFIN.out (w2.alloc (.cells #[.int .u8 2] 5)) v1 v2 v3 HZ3.out (HO2.out.alloc _))
   clear hb2 HOS HB2' HZS
   go_wp2_with (refine wpList_load_row rfl 54 (.tmp 7) rfl w.heap.size rfl 54 #[.int .u8 (kd : Nat), .slice a1 l1 c1, .slice a2 l2 c2, .slice a3 l3 c3, .int .u8 (s : Nat), .slice a4 l4 c4, .slice a5 l5 c5, .slice b1 l6 e1, .slice b2 l7 e2, .slice v1 v2 v3] (0, 0) _ (HB3.out.alloc _) Tryz.underlying54 rfl node_info ?_)
   refine (HBY.out _ _ HC3.out).mono ?_
   rintro e w4 ⟨u4, rfl, hown4, hb4⟩
   have HZ4 := Lib.hid (HZ3.out.trans (hb4.mono HZ3.out.size))
   have HO4 := Lib.hid hown4.rd
   have HL4 := Lib.hid (HL2.out.below hb4 (Nat.le_refl _))
   clear hown4 hb4
   obtain ⟨x1, x2, x3, rfl⟩ := rdS HO4.out
   go_wp2_with fail
   refine (join18_any _ _ [2] NB w4 HL4.out HO4.out (by have := HNBl.out; simp only [List.length_cons, List.length_nil]; omega)).mono ?_
   rintro e w5 ⟨u5, rfl, hown5, hb5⟩
   have HZ5 := Lib.hid (HZ4.out.trans (hb5.mono HZ4.out.size))
   have HO5 := Lib.hid hown5.rd
   clear hown5 hb5
   obtain ⟨x4, x5, x6, rfl⟩ := rdS HO5.out
   go_wp2_with fail
   refine (HL.out w5 HZ5.out).mono ?_
   rintro e w6 ⟨u6, rfl, hown6, hb6⟩
   have HZ6 := Lib.hid (HZ5.out.trans (hb6.mono HZ5.out.size))
   have HO6 := Lib.hid hown6.rd
   have HP6 := Lib.hid (HO5.out.below hb6 (Nat.le_refl _))
   clear hown6 hb6
   obtain ⟨x7, x8, x9, rfl⟩ := rdS HO6.out
   go_wp2_with fail
   refine (rvec_any _ H1 w6 HO6.out (by have := HH1.out; omega)).mono ?_
   rintro e w7 ⟨u7, rfl, hown7, hb7⟩
   have HZ7 := Lib.hid (HZ6.out.trans (hb7.mono HZ6.out.size))
   have HO7 := Lib.hid hown7.rd
   have HP7 := Lib.hid (HP6.out.below hb7 (Nat.le_refl _))
   clear hown7 hb7
   obtain ⟨y1, y2, y3, rfl⟩ := rdS HO7.out
   go_wp2_with fail
   refine (HR.out w7 HZ7.out).mono ?_
   rintro e w8 ⟨u8, rfl, hown8, hb8⟩
   have HZ8 := Lib.hid (HZ7.out.trans (hb8.mono HZ7.out.size))
   have HO8 := Lib.hid hown8.rd
   have HQ8 := Lib.hid (HO7.out.below hb8 (Nat.le_refl _))
   have HP8 := Lib.hid (HP7.out.below hb8 (Nat.le_refl _))
   clear hown8 hb8
   obtain ⟨y4, y5, y6, rfl⟩ := rdS HO8.out
   go_wp2_with fail
   refine (rvec_any _ H2 w8 HO8.out (by have := HH2.out; omega)).mono ?_
   rintro e w9 ⟨u9, rfl, hown9, hb9⟩
   have HZ9 := Lib.hid (HZ8.out.trans (hb9.mono HZ8.out.size))
   have HO9 := Lib.hid hown9.rd
   have HQ9 := Lib.hid (HQ8.out.below hb9 (Nat.le_refl _))
   have HP9 := Lib.hid (HP8.out.below hb9 (Nat.le_refl _))
   clear hown9 hb9
   obtain ⟨y7, y8, y9, rfl⟩ := rdS HO9.out
   go_wp2_with fail
   refine (join18_any _ _ (vecB H1) (vecB H2) w9 HQ9.out HO9.out (by have := vecB32 HH1.out; have := vecB32 HH2.out; omega)).mono ?_
   rintro e wA ⟨uA, rfl, hownA, hbA⟩
   have HZA := Lib.hid (HZ9.out.trans (hbA.mono HZ9.out.size))
   have HOA := Lib.hid hownA.rd
   have HPA := Lib.hid (HP9.out.below hbA (Nat.le_refl _))
   clear hownA hbA
   obtain ⟨z1, z2, z3, rfl⟩ := rdS HOA.out
   go_wp2_with fail
   refine (join18_any _ _ ([2] ++ NB) (vecB H1 ++ vecB H2) wA HPA.out HOA.out (by have := vecB32 HH1.out; have := vecB32 HH2.out; have := HNBl.out; simp only [List.length_append, List.length_cons, List.length_nil]; omega)).mono ?_
   rintro e wB ⟨uB, rfl, hownB, hbB⟩
   have HZB := Lib.hid (HZA.out.trans (hbB.mono HZA.out.size))
   have HOB := Lib.hid (hownB.mono HZA.out.size)
   clear hownB hbB
   go_wp2_with fail
   go_ret
   exact ⟨_, rfl, HOB.out, HZB.out⟩
end Go.Proofs.YtngealmhgkoaiaaGreat
