/- Walks: the reference's join and has. -/
import Derived.Test.YtohldijomcljkaaZHashTrees25
import Derived.Test.YtohldijomcljkaaZHashTrees26
import Derived.Test.YtohldijomcljkaaZHashTrees28
import Derived.Test.YtohldijomcljkaaZHashTrees27
import Derived.Test.YtohldijomcljkaaZHashTrees14
namespace Go.Proofs.Ytohldijomcljkaa
open Go.RowKit WalkM ShaM WireM
set_option linter.unusedVariables false
theorem rdS {w : World} {v : Value} {xs : List Value} (h : Rd w v xs) : ∃ a n c, v = .slice a n c := by
  obtain ⟨a, c, e, _⟩ := h
  exact ⟨_, _, _, e⟩
set_option maxRecDepth 100000 in
set_option maxHeartbeats 1000000 in
theorem join18_any (x y : Value) (A B : List Nat) (w : World) (hx : Rd w x (bvs A)) (hy : Rd w y (bvs B)) (hl : A.length + B.length < 1000000000) :
    Calls Try.prog 94 #[x, y] w fun e w' => ∃ v', e = .returned v' ∧ Own w' w.heap.size 5 v' (bvs (A ++ B)) ∧ Below w.heap.size w w' := by
  have HX := Lib.hid hx
  have HY := Lib.hid hy
  clear hx hy
  go_enter Try.func94, Try.ntmps94
  go_wp2_with (at_builtin; refine wpList_app rfl (.tmp 5) (.tmp 6) 29 rfl w.heap.size 5 _ 1 bytesE _ [] rfl (Own.lit0 rfl (Nat.le_refl _)) _ (bvs A) rfl (HX.out.alloc _) (bvs_one _) ?c2 ?c3 ?_)
  case c2 => rw [bvs_len]; simp; omega
  case c3 => simp
  rintro v2 w2 hown - hb2
  have hbt := ((Below.refl w.heap.size w).alloc (Nat.le_refl _) (.cells #[] 5)).trans hb2
  have HO := Lib.hid hown
  have HB := Lib.hid hbt
  have HY2 := Lib.hid (HY.out.below hbt (Nat.le_refl _))
  clear hown hb2 hbt
  go_wp2_with (at_builtin; refine wpList_app rfl (.tmp 7) (.tmp 8) 29 rfl w.heap.size 5 _ 1 bytesE _ _ rfl HO.out _ (bvs B) rfl HY2.out (bvs_one _) ?c4 ?c5 ?_)
  case c4 => simp only [bvs_len]; omega
  case c5 => exact HB.out.size
  rintro v3 w3 hown - hb3
  have HO3 := Lib.hid hown
  have HB3 := Lib.hid (HB.out.trans hb3)
  clear hown hb3
  go_wp2_with fail
  go_ret
  refine ⟨_, rfl, ?_, HB3.out⟩
  rw [bvs_append]; exact HO3.out
set_option maxRecDepth 100000 in
set_option maxHeartbeats 2000000 in
theorem has18_any (v : Value) (L : List Int) (x : Int) (w : World) (h : Rd w v (ivs .i64 L)) :
    Calls Try.prog 93 #[v, .int .i64 x] w fun e w' => e = .returned (.bool (decide (x ∈ L))) ∧ w' = w := by
  have hv : ∃ a c, v = .slice a L.length c ∧ c ≤ maxLen ∧ L.length ≤ c := by obtain ⟨a, c, e, h1, h2, _⟩ := h; exact ⟨a, c, by rw [e]; simp [ivs], h2, by simpa [ivs] using h1⟩
  obtain ⟨a, c, rfl, hcm, hlc⟩ := hv
  have G := fun (i : Nat) (hi : i < L.length) => h.at3 (u := .int .i64 (L.getD i 0)) (r := i) (by simp [ivs, List.getD_eq_getElem?_getD, hi])
  have M1 := fun (i : Nat) (hi : i < L.length) (e : L.getD i 0 = x) => (show decide (x ∈ L) = true from decide_eq_true (by
    rw [List.getD_eq_getElem?_getD, List.getElem?_eq_getElem hi] at e
    have : L[i] = x := e
    rw [← this]; exact List.getElem_mem hi))
  have M2 := fun (hno : ∀ i, i < L.length → L.getD i 0 ≠ x) => (show decide (x ∈ L) = false from decide_eq_false (fun hm => by
    obtain ⟨i, hi, e⟩ := List.getElem_of_mem hm
    exact hno i hi (by rw [List.getD_eq_getElem?_getD, List.getElem?_eq_getElem hi]; exact e)))
  obtain ⟨n, hn⟩ : ∃ n, n = L.length := ⟨_, rfl⟩
  obtain ⟨R, hR⟩ : ∃ R, R = decide (x ∈ L) := ⟨_, rfl⟩
  rw [← hn] at G M1 M2 hlc ⊢
  rw [← hR] at M1 M2 ⊢
  have hnm : n ≤ 9223372036854775807 := by unfold maxLen at hcm; omega
  have HG := Lib.hid G
  have HM1 := Lib.hid M1
  have HM2 := Lib.hid M2
  clear G M1 M2 h hn hR hcm
  go_enter Try.func93, Try.ntmps93
  go_wp2_with fail
  go_loopg [5] n (fun q iv wr => ∃ r : Nat, r + q = n ∧ iv = .int .i64 (r : Nat) ∧ (∀ i, i < r → L.getD i 0 ≠ x) ∧ wr = w)
  case atStart => exact ⟨0, by omega, rfl, fun k hk => by omega, rfl⟩
  case round =>
    obtain ⟨r, hr, rfl, hno, rfl⟩ := hrel
    have HR := Lib.hid hr
    have HNO := Lib.hid hno
    clear hr hno
    by_cases hlt : r < n
    · have hlt' : decide (r < n) = true := decide_eq_true hlt
      obtain ⟨b, off, rfl, hbl, hcell⟩ := HG.out r hlt
      obtain ⟨y, hy⟩ : ∃ y, y = L.getD r 0 := ⟨_, rfl⟩
      rw [← hy] at hcell
      have HY := Lib.hid hy
      clear hy
      by_cases he : y = x
      · have hq : (y == x) = true := by rw [beq_iff_eq]; exact he
        have HE := Lib.hid he
        clear he
        go_wp2_with fail
        go_ret
        exact ⟨retB (HM1.out r hlt (by rw [← HY.out]; exact HE.out)), rfl⟩
      · have hq : (y == x) = false := by rw [beq_eq_false_iff_ne]; exact he
        have HE := Lib.hid he
        clear he
        go_wp2_with fail
        go_roundg (gk - 1)
        case measure => have := HR.out; omega
        case rel =>
          refine ⟨r + 1, by have := HR.out; omega, by go_num, fun i hi => ?_, rfl⟩
          by_cases e : i = r
          · rw [e, ← HY.out]; exact HE.out
          · exact HNO.out i (by omega)
    · obtain rfl : r = n := by have := HR.out; omega
      have hlt' : decide (r < r) = false := decide_eq_false hlt
      go_wp2_with fail
      go_ret
      exact ⟨retB (HM2.out HNO.out), rfl⟩
end Go.Proofs.Ytohldijomcljkaa
/- Walks: the reference's Text and Hash of a node of a tree, without some leaves' places. -/
namespace Go.Proofs.Ytohldijomcljkaa
open Go.RowKit WalkM ShaM WireM
set_option linter.unusedVariables false
def RTextP (t : List NodeD) (ps : List Int) (k : Nat) : Prop := ∀ (x : Nat) (v vp : Value) (w : World), TreeR w v t → Rd w vp (ivs .i64 ps) → IsLev x k → x + 2 ^ k ≤ t.length →
  Calls Try.prog 59 #[v, .int .i64 (x : Nat), vp] w fun e w' => ∃ v', e = .returned v' ∧ Own w' w.heap.size 5 v' (bvs (textN (woD t ps) k x)) ∧ Below w.heap.size w w'
def RHashP (t : List NodeD) (ps : List Int) (k : Nat) : Prop := ∀ (x : Nat) (v vp : Value) (w : World), TreeR w v t → Rd w vp (ivs .i64 ps) → IsLev x k → x + 2 ^ k ≤ t.length →
  Calls Try.prog 20 #[v, .int .i64 (x : Nat), vp] w fun e w' => ∃ v', e = .returned v' ∧ Own w' w.heap.size 5 v' (bvs (hashN (woD t ps) k x)) ∧ Below w.heap.size w w'
/-- from the region's world on -/
theorem NodeC.alloc {w : World} {d : NodeD} {c : Array Value} (h : NodeC w d c) (o : Obj) : NodeC (w.alloc o) d c := h.below ((Below.refl w.heap.size w).alloc (Nat.le_refl _) o) (Nat.le_refl _)
set_option maxRecDepth 100000 in
set_option maxHeartbeats 4000000 in
theorem rtext_zero (t : List NodeD) (ps : List Int) (hs : smallT t = true) (hok : TreeOk t) (hp : placedB t = true) : RTextP t ps 0 := by
  intro x v vp w h hpr hlev hx
  have hev := lev_zero hlev
  have hx : x < t.length := by have : (2 : Nat) ^ 0 = 1 := rfl; omega
  obtain ⟨a, c, rfl, hc, hc2⟩ := h.sl
  obtain ⟨b, off, cs, rfl, hbl, hnc, hra⟩ := h.node hx
  have HEV := Lib.hid (show (nd t x).kind ≠ 2 by have := (placed_at hp hx).1; rwa [otherK_even hev] at this)
  have hlen := smallT_len hs
  obtain ⟨n, hn⟩ : ∃ n, n = t.length := ⟨_, rfl⟩
  rw [← hn] at hx hc hlen ⊢
  obtain ⟨m, hm0⟩ : ∃ m, m = x / 2 := ⟨_, rfl⟩
  have hq : (x : Int) / 2 = (m : Int) := by omega
  have hm : (x : Int) % 2 = 0 := by omega
  have HAS := Lib.hid (fun (W : World) (hw : Below w.heap.size w W) => has18_any vp ps (m : Int) W (hpr.below hw (Nat.le_refl _)))
  have HT := Lib.hid (show textN (woD t ps) 0 x = ([1] ++ beN 4 m) ++ nodeB (if (m : Int) ∈ ps then noNodeD else nd t x) by rw [textN_zero, woD_even hev, hm0])
  have HKN := Lib.hid (show NodeOk (nd t x) from hok.nd x)
  have HSN := Lib.hid (smallT_nd hs x)
  obtain ⟨a1, c1, a2, c2, a3, c3, a4, c4, a5, c5, b1, e1, b2, e2, b3, e3, hcs, -⟩ := id hnc
  obtain ⟨kd, hkd⟩ : ∃ k, k = (nd t x).kind := ⟨_, rfl⟩
  obtain ⟨l1, hl1⟩ : ∃ l, l = (nd t x).leaf.box.length := ⟨_, rfl⟩
  obtain ⟨l2, hl2⟩ : ∃ l, l = (nd t x).leaf.sign.length := ⟨_, rfl⟩
  obtain ⟨l3, hl3⟩ : ∃ l, l = (nd t x).leaf.ident.length := ⟨_, rfl⟩
  obtain ⟨l4, hl4⟩ : ∃ l, l = (nd t x).leaf.par.length := ⟨_, rfl⟩
  obtain ⟨l5, hl5⟩ : ∃ l, l = (nd t x).leaf.sig.length := ⟨_, rfl⟩
  obtain ⟨l6, hl6⟩ : ∃ l, l = (nd t x).par.box.length := ⟨_, rfl⟩
  obtain ⟨l7, hl7⟩ : ∃ l, l = (nd t x).par.hash.length := ⟨_, rfl⟩
  obtain ⟨l8, hl8⟩ : ∃ l, l = (nd t x).par.late.length := ⟨_, rfl⟩
  obtain ⟨s, hsrc⟩ : ∃ s, s = (nd t x).leaf.source := ⟨_, rfl⟩
  rw [← hkd, ← hl1, ← hl2, ← hl3, ← hl4, ← hl5, ← hl6, ← hl7, ← hl8, ← hsrc] at hcs
  have HNC := Lib.hid hnc
  rw [hcs] at hra HNC
  have HRA := Lib.hid hra
  have hx40 : x < 40 := by omega
  have HNUM := Lib.hid (fun (W : World) => (show Calls Try.prog 95 #[.int .i64 4, .int .u64 (m : Nat)] W fun e w' => ∃ v, e = .returned v ∧ Own w' W.heap.size 5 v (bvs (beN 4 m)) ∧ Below W.heap.size W w' from rnum_any 4 m W (by omega) (by omega)))
  have HHH := Lib.hid hm0
  have hvp : ∃ a c, vp = .slice a ps.length c := by obtain ⟨a, c, e, _⟩ := hpr; exact ⟨a, c, by rw [e]; simp [ivs]⟩
  obtain ⟨pa, pc, rfl⟩ := hvp
  obtain ⟨pn, hpn⟩ : ∃ p, p = ps.length := ⟨_, rfl⟩
  rw [← hpn] at HAS ⊢
  clear hnc hra hcs hkd hl1 hl2 hl3 hl4 hl5 hl6 hl7 hl8 hsrc hok hp hs h hpr hm0 hn hlev hpn
  rw [HT.out]
  obtain ⟨D, hD⟩ : ∃ D, D = (if (m : Int) ∈ ps then noNodeD else nd t x) := ⟨_, rfl⟩
  have HDE := Lib.hid hD
  rw [← hD]
  clear hD
  have key : ∀ (wz : World) (CS : Array Value), Blk wz w.heap.size 46 CS → NodeC wz D CS → Below w.heap.size w wz → NodeOk D → smallB D = true → D.kind ≠ 2 → True := fun _ _ _ _ _ _ _ _ => trivial
  clear key
  cases hmem : decide ((m : Int) ∈ ps) with
  | true =>
    have HA := Lib.hid (fun (W : World) (hw : Below w.heap.size w W) => by have := HAS.out W hw; rw [hmem] at this; exact this)
    have hDn : D = noNodeD := by rw [HDE.out, if_pos (of_decide_eq_true hmem)]
    have HDN := Lib.hid hDn
    clear hmem hDn
    go_enter Try.func59, Try.ntmps59
    go_wp2_with (refine wpList_load_mid rfl 46 (.tmp 14) rfl b (off + x * 10) rfl [.int .u8 (kd : Nat), .slice a1 l1 c1, .slice a2 l2 c2, .slice a3 l3 c3, .int .u8 (s : Nat), .slice a4 l4 c4, .slice a5 l5 c5, .slice b1 l6 e1, .slice b2 l7 e2, .slice b3 l8 e3] _ HRA.out Try.underlying46 rfl node_info ?_)
    refine (HA.out _ ((Below.refl _ _).alloc (Nat.le_refl _) _)).mono ?_
    rintro e w1 ⟨rfl, rfl⟩
    go_wp2_with fail
    have HNZ := Lib.hid (show NodeC (w.alloc (.cells #[.int .u8 0, .slice none 0 0, .slice none 0 0, .slice none 0 0, .int .u8 0, .slice none 0 0, .slice none 0 0, .slice none 0 0, .slice none 0 0, .slice none 0 0] 46)) D #[.int .u8 0, .slice none 0 0, .slice none 0 0, .slice none 0 0, .int .u8 0, .slice none 0 0, .slice none 0 0, .slice none 0 0, .slice none 0 0, .slice none 0 0] from by rw [HDN.out]; exact noNode_c _)
    obtain ⟨wz, hwz⟩ : ∃ X, X = w.alloc (.cells #[.int .u8 0, .slice none 0 0, .slice none 0 0, .slice none 0 0, .int .u8 0, .slice none 0 0, .slice none 0 0, .slice none 0 0, .slice none 0 0, .slice none 0 0] 46) := ⟨_, rfl⟩
    have HBK := Lib.hid (show Blk wz w.heap.size 46 #[.int .u8 0, .slice none 0 0, .slice none 0 0, .slice none 0 0, .int .u8 0, .slice none 0 0, .slice none 0 0, .slice none 0 0, .slice none 0 0, .slice none 0 0] by rw [hwz]; exact Blk.new w _ _)
    have HBW := Lib.hid (show Below w.heap.size w wz by rw [hwz]; exact (Below.refl _ _).alloc (Nat.le_refl _) _)
    rw [← hwz] at HNZ ⊢
    obtain ⟨CS, hCS⟩ : ∃ C, C = (#[.int .u8 0, .slice none 0 0, .slice none 0 0, .slice none 0 0, .int .u8 0, .slice none 0 0, .slice none 0 0, .slice none 0 0, .slice none 0 0, .slice none 0 0] : Array Value) := ⟨_, rfl⟩
    rw [← hCS] at HNZ HBK
    have HIN := Lib.hid (show (Try.prog.info? 46).map (·.size) = some CS.size by rw [hCS]; exact node_info)
    have HBY := Lib.hid (fun (W : World) (hw : Below wz.heap.size wz W) => rbytes_any D CS W (HNZ.out.below hw (Nat.le_refl _)) (by rw [HDN.out]; exact noNode_ok) (by rw [HDN.out]; exact smallB_no) (fun e => absurd e (by rw [HDN.out]; decide)))
    have hNBl := nodeB_len (d := D) (by rw [HDN.out]; exact smallB_no)
    obtain ⟨NB, hNB⟩ : ∃ b, b = nodeB D := ⟨_, rfl⟩
    rw [← hNB] at HBY hNBl
    have HNE := Lib.hid hNB
    have HLEN := Lib.hid (show ([1] ++ beN 4 m).length + NB.length < 1000000000 by rw [List.length_append, beN_len]; simp only [List.length_cons, List.length_nil]; omega)
    clear hwz hCS hNBl hNB
    refine wp_region_rel [fun v w' => Own w' wz.heap.size 5 v (bvs [1]), fun v _ => v = .int .i64 (x : Nat), fun v _ => v = .int .i64 (m : Nat), fun v _ => v = .int .u64 (m : Nat), fun v w' => Own w' wz.heap.size 5 v (bvs (beN 4 m)), fun v w' => Own w' wz.heap.size 5 v (bvs ([1] ++ beN 4 m)), fun v _ => v = .agg CS, fun v w' => Own w' wz.heap.size 5 v (bvs NB), fun v w' => Own w' wz.heap.size 5 v (bvs (([1] ++ beN 4 m) ++ NB)), fun v w' => Own w' wz.heap.size 5 v (bvs (([1] ++ beN 4 m) ++ NB))]
      [true, true, true, true, true, true, true, true, true, true] (fun x => Below wz.heap.size wz x) (fun x y => Below x.heap.size x y) none (by kernel_rfl) ?_ (⟨rfl, rfl, rfl, Nat.le_refl _, fun _ _ => rfl⟩) (fun x y _ h => h) (fun x y hx hs => hx.trans (hs.mono hx.size)) (by kernel_rfl) (by kernel_rfl) ?_ ?_
    · exact keepsR_n (fun v x y h _ hs => Own.below h hs (Nat.le_refl _)) (keepsR_n (fun _ _ _ h _ _ => h) (keepsR_n (fun _ _ _ h _ _ => h) (keepsR_n (fun _ _ _ h _ _ => h) (keepsR_n (fun v x y h _ hs => Own.below h hs (Nat.le_refl _)) (keepsR_n (fun v x y h _ hs => Own.below h hs (Nat.le_refl _)) (keepsR_n (fun _ _ _ h _ _ => h) (keepsR_n (fun v x y h _ hs => Own.below h hs (Nat.le_refl _)) (keepsR_n (fun v x y h _ hs => Own.below h hs (Nat.le_refl _)) (keepsR_n (fun v x y h _ hs => Own.below h hs (Nat.le_refl _)) (keepsR_nil))))))))))
    · refine .cons (owed7_go ?_) (.cons (owed7_go ?_) (.cons (owed7_go ?_) (.cons (owed7_go ?_) (.cons (owed7_go ?_) (.cons (owed7_go ?_) (.cons (owed7_go ?_) (.cons (owed7_go ?_) (.cons (owed7_go ?_) (.cons (owed7_go ?_) (.nil))))))))))
      · intro a wx hbx hq ho hf
        have hbx : Below wz.heap.size wz wx := hbx
        have hbq : Below wz.heap.size wz wx := hq (by kernel_rfl)
        clear hq
        refine ⟨rfl, ?_⟩
        intro K hK
        
        go_simp
        exact hK _ _ (Own.full (B := wz.heap.size) (cs := #[.int .u8 1]) rfl (hbx.size) (by unfold maxLen; simp) rfl) (stepR_no rfl ((Below.refl _ _).alloc (Nat.le_refl _) _))
      · intro a wx hbx hq ho hf
        have hbx : Below wz.heap.size wz wx := hbx
        have hbq : Below wz.heap.size wz wx := hq (by kernel_rfl)
        clear hq
        refine ⟨rfl, ?_⟩
        intro K hK
        have e0 : a.tmps[1]?.getD undef = .int .i64 (x : Nat) := ho 1 (by kernel_rfl)
        go_simp
        exact hK _ _ rfl (stepR_no rfl (Below.refl _ _))
      · intro a wx hbx hq ho hf
        have hbx : Below wz.heap.size wz wx := hbx
        have hbq : Below wz.heap.size wz wx := hq (by kernel_rfl)
        clear hq
        refine ⟨rfl, ?_⟩
        intro K hK
        have e0 : a.tmps[25]?.getD undef = .int .i64 (x : Nat) := hf.1
        have gw0 : (x : Int) / 2 = (m : Int) := hq
        have gw1 : IntKind.i64.wrap ((m : Int)) = (m : Int) := by rw [IntKind.wrap_i64]; omega
        have gw2 : (x : Int) / 2 = (m : Int) := by omega
        have gw3 : IntKind.i64.wrap ((x : Int) / 2) = (m : Int) := by rw [gw2]; exact gw1
        have gw4 : Int.tdiv ((x : Int)) 2 = (m : Int) := by rw [Int.tdiv_eq_ediv_of_nonneg (by omega)]; omega
        have gw5 : IntKind.i64.wrap (Int.tdiv ((x : Int)) 2) = (m : Int) := by rw [gw4]; exact gw1
        go_simp
        exact hK _ _ rfl (stepR_no rfl (Below.refl _ _))
      · intro a wx hbx hq ho hf
        have hbx : Below wz.heap.size wz wx := hbx
        have hbq : Below wz.heap.size wz wx := hq (by kernel_rfl)
        clear hq
        refine ⟨rfl, ?_⟩
        intro K hK
        have e0 : a.tmps[26]?.getD undef = .int .i64 (m : Nat) := hf.1
        have gw1 : IntKind.u64.wrap ((m : Int)) = (m : Int) := by rw [IntKind.wrap_u64]; omega
        go_simp
        exact hK _ _ rfl (stepR_no rfl (Below.refl _ _))
      · intro a wx hbx hq ho hf
        have hbx : Below wz.heap.size wz wx := hbx
        have hbq : Below wz.heap.size wz wx := hq (by kernel_rfl)
        clear hq
        refine ⟨rfl, ?_⟩
        intro K hK
        have e0 : a.tmps[27]?.getD undef = .int .u64 (m : Nat) := hf.1
        go_simp
        refine (HNUM.out wx).mono ?_
        rintro e w2 ⟨v9, rfl, hown, hb2⟩
        exact hK _ _ (hown.mono hbx.size) (stepR_no rfl hb2)
      · intro a wx hbx hq ho hf
        have hbx : Below wz.heap.size wz wx := hbx
        have hbq : Below wz.heap.size wz wx := hq (by kernel_rfl)
        clear hq
        refine ⟨rfl, ?_⟩
        intro K hK
        have o0 : Own wx wz.heap.size 5 (a.tmps[24]?.getD undef) (bvs [1]) := hf.1
        obtain ⟨v0, hv0⟩ : ∃ v, v = a.tmps[24]?.getD undef := ⟨_, rfl⟩
        rw [← hv0] at o0
        have e0 := hv0.symm
        clear hv0
        have o1 : Own wx wz.heap.size 5 (a.tmps[28]?.getD undef) (bvs (beN 4 m)) := hf.2.1
        obtain ⟨v1, hv1⟩ : ∃ v, v = a.tmps[28]?.getD undef := ⟨_, rfl⟩
        rw [← hv1] at o1
        have e1 := hv1.symm
        clear hv1
        go_simp
        refine (join18_any v0 v1 [1] (beN 4 m) wx o0.rd o1.rd (by rw [beN_len]; simp)).mono ?_
        rintro e w2 ⟨v9, rfl, hown, hb2⟩
        exact hK _ _ (hown.mono hbx.size) (stepR_no rfl hb2)
      · intro a wx hbx hq ho hf
        have hbx : Below wz.heap.size wz wx := hbx
        have hbq : Below wz.heap.size wz wx := hq (by kernel_rfl)
        clear hq
        refine ⟨rfl, ?_⟩
        intro K hK
        have e0 : a.tmps[7]?.getD undef = .pointer (some ⟨w.heap.size, 0, none⟩) := ho 7 (by kernel_rfl)
        exact wp_load_row 46 (.tmp 7) rfl _ (evs e0) _ _ (0, 0) _ (HBK.out.below hbx HBK.out.lt) Try.underlying46 rfl (HIN.out) (hK _ _ rfl (stepR_no rfl (Below.refl _ _)))
      · intro a wx hbx hq ho hf
        have hbx : Below wz.heap.size wz wx := hbx
        have hbq : Below wz.heap.size wz wx := hq (by kernel_rfl)
        clear hq
        refine ⟨rfl, ?_⟩
        intro K hK
        have e0 : a.tmps[30]?.getD undef = .agg CS := hf.1
        go_simp
        refine (HBY.out wx hbx).mono ?_
        rintro e w2 ⟨v9, rfl, hown, hb2⟩
        exact hK _ _ (hown.mono hbx.size) (stepR_no rfl hb2)
      · intro a wx hbx hq ho hf
        have hbx : Below wz.heap.size wz wx := hbx
        have hbq : Below wz.heap.size wz wx := hq (by kernel_rfl)
        clear hq
        refine ⟨rfl, ?_⟩
        intro K hK
        have o0 : Own wx wz.heap.size 5 (a.tmps[29]?.getD undef) (bvs ([1] ++ beN 4 m)) := hf.1
        obtain ⟨v0, hv0⟩ : ∃ v, v = a.tmps[29]?.getD undef := ⟨_, rfl⟩
        rw [← hv0] at o0
        have e0 := hv0.symm
        clear hv0
        have o1 : Own wx wz.heap.size 5 (a.tmps[31]?.getD undef) (bvs NB) := hf.2.1
        obtain ⟨v1, hv1⟩ : ∃ v, v = a.tmps[31]?.getD undef := ⟨_, rfl⟩
        rw [← hv1] at o1
        have e1 := hv1.symm
        clear hv1
        go_simp
        refine (join18_any v0 v1 ([1] ++ beN 4 m) NB wx o0.rd o1.rd HLEN.out).mono ?_
        rintro e w2 ⟨v9, rfl, hown, hb2⟩
        exact hK _ _ (hown.mono hbx.size) (stepR_no rfl hb2)
      · intro a wx hbx hq ho hf
        have hbx : Below wz.heap.size wz wx := hbx
        have hbq : Below wz.heap.size wz wx := hq (by kernel_rfl)
        clear hq
        refine ⟨rfl, ?_⟩
        intro K hK
        have o0 : Own wx wz.heap.size 5 (a.tmps[32]?.getD undef) (bvs (([1] ++ beN 4 m) ++ NB)) := hf.1
        obtain ⟨v0, hv0⟩ : ∃ v, v = a.tmps[32]?.getD undef := ⟨_, rfl⟩
        rw [← hv0] at o0
        have e0 := hv0.symm
        clear hv0
        go_simp
        exact hK _ _ o0 (stepR_no rfl (Below.refl _ _))
    · rintro f w9 hb9 hfin
      have hb9 : Below wz.heap.size wz w9 := hb9
      have S6 : Own w9 wz.heap.size 5 (f 6) (bvs (([1] ++ beN 4 m) ++ NB)) := hfin.2.2.2.2.2.2.2.2.2.1
      clear hfin
      simp only [frameOf, dstsOf, zipF, List.filterMap_cons, List.filterMap_nil, List.contains_cons, List.contains_nil, Nat.reduceBEq, Nat.reduceAdd, Bool.or_false, Bool.or_true, cond_true, cond_false]
      obtain ⟨u6, hu6⟩ : ∃ u, u = f 6 := ⟨_, rfl⟩
      rw [← hu6] at S6 ⊢
      clear hu6
      have HO := Lib.hid S6
      have HB9 := Lib.hid hb9
      clear S6 hb9
      go_wp2_with fail
      go_ret
      exact ⟨_, rfl, by have := HO.out.mono HBW.out.size; rw [HNE.out] at this; exact this, HBW.out.trans (HB9.out.mono HBW.out.size)⟩
  | false =>
    have HA := Lib.hid (fun (W : World) (hw : Below w.heap.size w W) => by have := HAS.out W hw; rw [hmem] at this; exact this)
    have hDn : D = nd t x := by rw [HDE.out, if_neg (of_decide_eq_false hmem)]
    have HDN := Lib.hid hDn
    clear hmem hDn
    go_enter Try.func59, Try.ntmps59
    go_wp2_with (refine wpList_load_mid rfl 46 (.tmp 14) rfl b (off + x * 10) rfl [.int .u8 (kd : Nat), .slice a1 l1 c1, .slice a2 l2 c2, .slice a3 l3 c3, .int .u8 (s : Nat), .slice a4 l4 c4, .slice a5 l5 c5, .slice b1 l6 e1, .slice b2 l7 e2, .slice b3 l8 e3] _ HRA.out Try.underlying46 rfl node_info ?_)
    refine (HA.out _ ((Below.refl _ _).alloc (Nat.le_refl _) _)).mono ?_
    rintro e w1 ⟨rfl, rfl⟩
    go_wp2_with fail
    have HNZ := Lib.hid (show NodeC (w.alloc (.cells #[.int .u8 (kd : Nat), .slice a1 l1 c1, .slice a2 l2 c2, .slice a3 l3 c3, .int .u8 (s : Nat), .slice a4 l4 c4, .slice a5 l5 c5, .slice b1 l6 e1, .slice b2 l7 e2, .slice b3 l8 e3] 46)) D #[.int .u8 (kd : Nat), .slice a1 l1 c1, .slice a2 l2 c2, .slice a3 l3 c3, .int .u8 (s : Nat), .slice a4 l4 c4, .slice a5 l5 c5, .slice b1 l6 e1, .slice b2 l7 e2, .slice b3 l8 e3] from by rw [HDN.out]; exact HNC.out.alloc _)
    obtain ⟨wz, hwz⟩ : ∃ X, X = w.alloc (.cells #[.int .u8 (kd : Nat), .slice a1 l1 c1, .slice a2 l2 c2, .slice a3 l3 c3, .int .u8 (s : Nat), .slice a4 l4 c4, .slice a5 l5 c5, .slice b1 l6 e1, .slice b2 l7 e2, .slice b3 l8 e3] 46) := ⟨_, rfl⟩
    have HBK := Lib.hid (show Blk wz w.heap.size 46 #[.int .u8 (kd : Nat), .slice a1 l1 c1, .slice a2 l2 c2, .slice a3 l3 c3, .int .u8 (s : Nat), .slice a4 l4 c4, .slice a5 l5 c5, .slice b1 l6 e1, .slice b2 l7 e2, .slice b3 l8 e3] by rw [hwz]; exact Blk.new w _ _)
    have HBW := Lib.hid (show Below w.heap.size w wz by rw [hwz]; exact (Below.refl _ _).alloc (Nat.le_refl _) _)
    rw [← hwz] at HNZ ⊢
    obtain ⟨CS, hCS⟩ : ∃ C, C = (#[.int .u8 (kd : Nat), .slice a1 l1 c1, .slice a2 l2 c2, .slice a3 l3 c3, .int .u8 (s : Nat), .slice a4 l4 c4, .slice a5 l5 c5, .slice b1 l6 e1, .slice b2 l7 e2, .slice b3 l8 e3] : Array Value) := ⟨_, rfl⟩
    rw [← hCS] at HNZ HBK
    have HIN := Lib.hid (show (Try.prog.info? 46).map (·.size) = some CS.size by rw [hCS]; exact node_info)
    have HBY := Lib.hid (fun (W : World) (hw : Below wz.heap.size wz W) => rbytes_any D CS W (HNZ.out.below hw (Nat.le_refl _)) (by rw [HDN.out]; exact HKN.out) (by rw [HDN.out]; exact HSN.out) (fun e => absurd e (by rw [HDN.out]; exact HEV.out)))
    have hNBl := nodeB_len (d := D) (by rw [HDN.out]; exact HSN.out)
    obtain ⟨NB, hNB⟩ : ∃ b, b = nodeB D := ⟨_, rfl⟩
    rw [← hNB] at HBY hNBl
    have HNE := Lib.hid hNB
    have HLEN := Lib.hid (show ([1] ++ beN 4 m).length + NB.length < 1000000000 by rw [List.length_append, beN_len]; simp only [List.length_cons, List.length_nil]; omega)
    clear hwz hCS hNBl hNB
    refine wp_region_rel [fun v w' => Own w' wz.heap.size 5 v (bvs [1]), fun v _ => v = .int .i64 (x : Nat), fun v _ => v = .int .i64 (m : Nat), fun v _ => v = .int .u64 (m : Nat), fun v w' => Own w' wz.heap.size 5 v (bvs (beN 4 m)), fun v w' => Own w' wz.heap.size 5 v (bvs ([1] ++ beN 4 m)), fun v _ => v = .agg CS, fun v w' => Own w' wz.heap.size 5 v (bvs NB), fun v w' => Own w' wz.heap.size 5 v (bvs (([1] ++ beN 4 m) ++ NB)), fun v w' => Own w' wz.heap.size 5 v (bvs (([1] ++ beN 4 m) ++ NB))]
      [true, true, true, true, true, true, true, true, true, true] (fun x => Below wz.heap.size wz x) (fun x y => Below x.heap.size x y) none (by kernel_rfl) ?_ (⟨rfl, rfl, rfl, Nat.le_refl _, fun _ _ => rfl⟩) (fun x y _ h => h) (fun x y hx hs => hx.trans (hs.mono hx.size)) (by kernel_rfl) (by kernel_rfl) ?_ ?_
    · exact keepsR_n (fun v x y h _ hs => Own.below h hs (Nat.le_refl _)) (keepsR_n (fun _ _ _ h _ _ => h) (keepsR_n (fun _ _ _ h _ _ => h) (keepsR_n (fun _ _ _ h _ _ => h) (keepsR_n (fun v x y h _ hs => Own.below h hs (Nat.le_refl _)) (keepsR_n (fun v x y h _ hs => Own.below h hs (Nat.le_refl _)) (keepsR_n (fun _ _ _ h _ _ => h) (keepsR_n (fun v x y h _ hs => Own.below h hs (Nat.le_refl _)) (keepsR_n (fun v x y h _ hs => Own.below h hs (Nat.le_refl _)) (keepsR_n (fun v x y h _ hs => Own.below h hs (Nat.le_refl _)) (keepsR_nil))))))))))
    · refine .cons (owed7_go ?_) (.cons (owed7_go ?_) (.cons (owed7_go ?_) (.cons (owed7_go ?_) (.cons (owed7_go ?_) (.cons (owed7_go ?_) (.cons (owed7_go ?_) (.cons (owed7_go ?_) (.cons (owed7_go ?_) (.cons (owed7_go ?_) (.nil))))))))))
      · intro a wx hbx hq ho hf
        have hbx : Below wz.heap.size wz wx := hbx
        have hbq : Below wz.heap.size wz wx := hq (by kernel_rfl)
        clear hq
        refine ⟨rfl, ?_⟩
        intro K hK
        
        go_simp
        exact hK _ _ (Own.full (B := wz.heap.size) (cs := #[.int .u8 1]) rfl (hbx.size) (by unfold maxLen; simp) rfl) (stepR_no rfl ((Below.refl _ _).alloc (Nat.le_refl _) _))
      · intro a wx hbx hq ho hf
        have hbx : Below wz.heap.size wz wx := hbx
        have hbq : Below wz.heap.size wz wx := hq (by kernel_rfl)
        clear hq
        refine ⟨rfl, ?_⟩
        intro K hK
        have e0 : a.tmps[1]?.getD undef = .int .i64 (x : Nat) := ho 1 (by kernel_rfl)
        go_simp
        exact hK _ _ rfl (stepR_no rfl (Below.refl _ _))
      · intro a wx hbx hq ho hf
        have hbx : Below wz.heap.size wz wx := hbx
        have hbq : Below wz.heap.size wz wx := hq (by kernel_rfl)
        clear hq
        refine ⟨rfl, ?_⟩
        intro K hK
        have e0 : a.tmps[25]?.getD undef = .int .i64 (x : Nat) := hf.1
        have gw0 : (x : Int) / 2 = (m : Int) := hq
        have gw1 : IntKind.i64.wrap ((m : Int)) = (m : Int) := by rw [IntKind.wrap_i64]; omega
        have gw2 : (x : Int) / 2 = (m : Int) := by omega
        have gw3 : IntKind.i64.wrap ((x : Int) / 2) = (m : Int) := by rw [gw2]; exact gw1
        have gw4 : Int.tdiv ((x : Int)) 2 = (m : Int) := by rw [Int.tdiv_eq_ediv_of_nonneg (by omega)]; omega
        have gw5 : IntKind.i64.wrap (Int.tdiv ((x : Int)) 2) = (m : Int) := by rw [gw4]; exact gw1
        go_simp
        exact hK _ _ rfl (stepR_no rfl (Below.refl _ _))
      · intro a wx hbx hq ho hf
        have hbx : Below wz.heap.size wz wx := hbx
        have hbq : Below wz.heap.size wz wx := hq (by kernel_rfl)
        clear hq
        refine ⟨rfl, ?_⟩
        intro K hK
        have e0 : a.tmps[26]?.getD undef = .int .i64 (m : Nat) := hf.1
        have gw1 : IntKind.u64.wrap ((m : Int)) = (m : Int) := by rw [IntKind.wrap_u64]; omega
        go_simp
        exact hK _ _ rfl (stepR_no rfl (Below.refl _ _))
      · intro a wx hbx hq ho hf
        have hbx : Below wz.heap.size wz wx := hbx
        have hbq : Below wz.heap.size wz wx := hq (by kernel_rfl)
        clear hq
        refine ⟨rfl, ?_⟩
        intro K hK
        have e0 : a.tmps[27]?.getD undef = .int .u64 (m : Nat) := hf.1
        go_simp
        refine (HNUM.out wx).mono ?_
        rintro e w2 ⟨v9, rfl, hown, hb2⟩
        exact hK _ _ (hown.mono hbx.size) (stepR_no rfl hb2)
      · intro a wx hbx hq ho hf
        have hbx : Below wz.heap.size wz wx := hbx
        have hbq : Below wz.heap.size wz wx := hq (by kernel_rfl)
        clear hq
        refine ⟨rfl, ?_⟩
        intro K hK
        have o0 : Own wx wz.heap.size 5 (a.tmps[24]?.getD undef) (bvs [1]) := hf.1
        obtain ⟨v0, hv0⟩ : ∃ v, v = a.tmps[24]?.getD undef := ⟨_, rfl⟩
        rw [← hv0] at o0
        have e0 := hv0.symm
        clear hv0
        have o1 : Own wx wz.heap.size 5 (a.tmps[28]?.getD undef) (bvs (beN 4 m)) := hf.2.1
        obtain ⟨v1, hv1⟩ : ∃ v, v = a.tmps[28]?.getD undef := ⟨_, rfl⟩
        rw [← hv1] at o1
        have e1 := hv1.symm
        clear hv1
        go_simp
        refine (join18_any v0 v1 [1] (beN 4 m) wx o0.rd o1.rd (by rw [beN_len]; simp)).mono ?_
        rintro e w2 ⟨v9, rfl, hown, hb2⟩
        exact hK _ _ (hown.mono hbx.size) (stepR_no rfl hb2)
      · intro a wx hbx hq ho hf
        have hbx : Below wz.heap.size wz wx := hbx
        have hbq : Below wz.heap.size wz wx := hq (by kernel_rfl)
        clear hq
        refine ⟨rfl, ?_⟩
        intro K hK
        have e0 : a.tmps[7]?.getD undef = .pointer (some ⟨w.heap.size, 0, none⟩) := ho 7 (by kernel_rfl)
        exact wp_load_row 46 (.tmp 7) rfl _ (evs e0) _ _ (0, 0) _ (HBK.out.below hbx HBK.out.lt) Try.underlying46 rfl (HIN.out) (hK _ _ rfl (stepR_no rfl (Below.refl _ _)))
      · intro a wx hbx hq ho hf
        have hbx : Below wz.heap.size wz wx := hbx
        have hbq : Below wz.heap.size wz wx := hq (by kernel_rfl)
        clear hq
        refine ⟨rfl, ?_⟩
        intro K hK
        have e0 : a.tmps[30]?.getD undef = .agg CS := hf.1
        go_simp
        refine (HBY.out wx hbx).mono ?_
        rintro e w2 ⟨v9, rfl, hown, hb2⟩
        exact hK _ _ (hown.mono hbx.size) (stepR_no rfl hb2)
      · intro a wx hbx hq ho hf
        have hbx : Below wz.heap.size wz wx := hbx
        have hbq : Below wz.heap.size wz wx := hq (by kernel_rfl)
        clear hq
        refine ⟨rfl, ?_⟩
        intro K hK
        have o0 : Own wx wz.heap.size 5 (a.tmps[29]?.getD undef) (bvs ([1] ++ beN 4 m)) := hf.1
        obtain ⟨v0, hv0⟩ : ∃ v, v = a.tmps[29]?.getD undef := ⟨_, rfl⟩
        rw [← hv0] at o0
        have e0 := hv0.symm
        clear hv0
        have o1 : Own wx wz.heap.size 5 (a.tmps[31]?.getD undef) (bvs NB) := hf.2.1
        obtain ⟨v1, hv1⟩ : ∃ v, v = a.tmps[31]?.getD undef := ⟨_, rfl⟩
        rw [← hv1] at o1
        have e1 := hv1.symm
        clear hv1
        go_simp
        refine (join18_any v0 v1 ([1] ++ beN 4 m) NB wx o0.rd o1.rd HLEN.out).mono ?_
        rintro e w2 ⟨v9, rfl, hown, hb2⟩
        exact hK _ _ (hown.mono hbx.size) (stepR_no rfl hb2)
      · intro a wx hbx hq ho hf
        have hbx : Below wz.heap.size wz wx := hbx
        have hbq : Below wz.heap.size wz wx := hq (by kernel_rfl)
        clear hq
        refine ⟨rfl, ?_⟩
        intro K hK
        have o0 : Own wx wz.heap.size 5 (a.tmps[32]?.getD undef) (bvs (([1] ++ beN 4 m) ++ NB)) := hf.1
        obtain ⟨v0, hv0⟩ : ∃ v, v = a.tmps[32]?.getD undef := ⟨_, rfl⟩
        rw [← hv0] at o0
        have e0 := hv0.symm
        clear hv0
        go_simp
        exact hK _ _ o0 (stepR_no rfl (Below.refl _ _))
    · rintro f w9 hb9 hfin
      have hb9 : Below wz.heap.size wz w9 := hb9
      have S6 : Own w9 wz.heap.size 5 (f 6) (bvs (([1] ++ beN 4 m) ++ NB)) := hfin.2.2.2.2.2.2.2.2.2.1
      clear hfin
      simp only [frameOf, dstsOf, zipF, List.filterMap_cons, List.filterMap_nil, List.contains_cons, List.contains_nil, Nat.reduceBEq, Nat.reduceAdd, Bool.or_false, Bool.or_true, cond_true, cond_false]
      obtain ⟨u6, hu6⟩ : ∃ u, u = f 6 := ⟨_, rfl⟩
      rw [← hu6] at S6 ⊢
      clear hu6
      have HO := Lib.hid S6
      have HB9 := Lib.hid hb9
      clear S6 hb9
      go_wp2_with fail
      go_ret
      exact ⟨_, rfl, by have := HO.out.mono HBW.out.size; rw [HNE.out] at this; exact this, HBW.out.trans (HB9.out.mono HBW.out.size)⟩
end Go.Proofs.Ytohldijomcljkaa
/- Walks: the reference's Path, Copath; walk.Copath. -/
namespace Go.Proofs.Ytohldijomcljkaa
open Go.RowKit WalkM
set_option maxRecDepth 100000 in
set_option maxHeartbeats 1000000 in
theorem rpath_any (x n : Int) (w : World) (h1 : -9223372036854775808 ≤ n) (h2 : n ≤ 9223372036854775807) :
    Calls Try.prog 77 #[.int .i64 x, .int .i64 n] w fun e w' => ∃ v, e = .returned v ∧ Own w' w.heap.size 3 v (nvs (pathL x n)) ∧ Below w.heap.size w w' := by
  by_cases ho : isOf x n = true
  · obtain ⟨m, d, rfl, rfl, hd, hm⟩ := isOf_out ho
    have D := fun w => down_on m d hd hm w
    have h17 := two_pow_le (show d + 1 ≤ 17 by omega)
    have hl := (lev_root hm (lev_is (x := m) (by omega))).1
    rw [pathL_of hd hm]
    have g0 := dnodes_at m d (d - lev m + 1)
    obtain ⟨l, hl'⟩ : ∃ l, l = lev m := ⟨_, rfl⟩
    rw [← hl'] at D hl g0 ⊢
    obtain ⟨k, hk⟩ : ∃ k, k = d - l := ⟨_, rfl⟩
    rw [← hk] at D g0 ⊢
    have hk16 : k ≤ 16 := by omega
    have hkd : d = l + k := by omega
    have HKD := Lib.hid hkd
    have HD := Lib.hid D
    have HG := Lib.hid g0
    clear D g0 hk hl hl' ho hm h17 h1 h2 hkd
    go_enter Try.func77, Try.ntmps77
    go_wp2_with fail
    refine (HD.out _).mono ?_
    rintro e w1 ⟨v, rfl, hown, hb⟩
    obtain ⟨g, cap, rfl, hg, hgl, hn, hmx, hc, -⟩ := hown.out (by omega)
    have HC := Lib.hid hc
    have HB := Lib.hid hb
    clear hc hown hb
    go_wp2_with fail
    go_loopg [6, 7] k (fun q out i wr => ∃ r : Nat, r + q = k ∧ i = .int .i64 ((k : Int) - 1 - r) ∧ Own wr w1.heap.size 3 out (nvs (ups m l r)) ∧ Below w1.heap.size w1 wr)
    case atStart =>
      refine ⟨0, by omega, val_int ?_, Own.nil _ _ _, Below.refl _ _⟩
      omega
    case round =>
      obtain ⟨r, hr, rfl, hown, hb1⟩ := hrel
      have HO := Lib.hid hown
      have HB1 := Lib.hid hb1
      have hsz := hb1.size
      clear hown hb1
      by_cases hrk : r < k
      · obtain ⟨j, hj⟩ : ∃ j, k = r + 1 + j := ⟨k - r - 1, by omega⟩
        have ej : (k : Int) - 1 - r = (j : Int) := by omega
        rw [ej]
        have c0 := HC.out _ _ (HG.out j (by omega))
        rw [← HB1.out.cell (p := ⟨g, j * 3, none⟩) hgl] at c0
        rw [show d - j = l + r + 1 by have := HKD.out; omega] at c0
        obtain ⟨a, ha⟩ : ∃ a, a = anc m (l + r + 1) := ⟨_, rfl⟩
        rw [← ha] at c0
        have HA := Lib.hid ha
        have hjk : j < k + 1 := by omega
        have EJ := Lib.hid ej
        have HJ := Lib.hid hj
        clear ha ej hj
        go_wp2_with (at_builtin; refine wpList_push rfl (.tmp 18) (.tmp 24) 37 rfl w1.heap.size 3 _ 8 intsE _ _ rfl (HO.out.alloc _) ⟨wr.heap.size, 0, none⟩ (.int .i64 (a : Int)) rfl ?c1 rfl ?c2 ?c3 ?_)
        case c1 => exact cell_new rfl
        case c2 => rw [nvs_len, ups_len]; omega
        case c3 => simp; omega
        rintro v' w2 hown1 - hb2
        have HO1 := Lib.hid hown1
        have HB2 := Lib.hid hb2
        clear hown1 hb2
        go_wp2_with fail
        go_roundg (gk - 1)
        case measure => omega
        case rel =>
          refine ⟨r + 1, by omega, val_int ?_, ?_, ?_⟩
          · have := HJ.out; omega
          · rw [ups_snoc, nvs_snoc, ← HA.out]
            exact HO1.out
          · exact (HB1.out.alloc hsz _).trans HB2.out
      · obtain rfl : r = k := by omega
        go_wp2_with fail
        go_ret
        exact ⟨_, rfl, HO.out.mono HB.out.size, HB.out.trans (HB1.out.mono HB.out.size)⟩
  · have hf : isOf x n = false := by rw [← Bool.not_eq_true]; exact ho
    rw [pathL_off hf]
    have HD := Lib.hid (fun w => down_off x n w h1 h2 hf)
    clear hf ho h1 h2
    go_enter Try.func77, Try.ntmps77
    go_wp2_with fail
    refine (HD.out _).mono ?_
    rintro e w1 ⟨rfl, rfl⟩
    go_wp2_with fail
    go_loopg [6, 7] 0 (fun q out i wr => i = .int .i64 (-2) ∧ out = .slice none 0 0 ∧ wr = w)
    case atStart => exact ⟨rfl, rfl, rfl⟩
    case round =>
      obtain ⟨rfl, rfl, rfl⟩ := hrel
      go_wp2_with fail
      go_ret
      exact ⟨_, rfl, Own.nil _ _ _, Below.refl _ _⟩
end Go.Proofs.Ytohldijomcljkaa
